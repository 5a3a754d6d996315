/- Gw: what K4 do is what the om says. -/
import Derived.Test.YtllkgjaoejhneaaGreatSELB
import Derived.Laws.Cover3
import Derived.RangeFuncNested
import Derived.OrdersIn
import Derived.Maps.Range
open Option renaming some->B,none->Á
open _root_ renaming Nat->G,List->H,Option->O,Array->Ã,Bool->Æ,Int->Ï
open Bool renaming false->U,true->X,not_eq_true->Ù
open Go renaming Value->Y,World->Z,Act->À,Program->Â,Oper->Ä,ResultVar->Ì,Exit->Ñ,Code->Ò,Operand->Ô,MapEntry->ì,LetsOut->ò,CallsIn->ý
open Go.Region renaming wanted->Å,ready->í
open Go.World renaming cell?_of_block->Ç,putObj_heap_other->È,putObj_heap_same->Þ,alloc_heap_new->ç,cell?_alloc_lt->è
open List renaming getD_eq_getElem?_getD->É,getElem?_append_left->Ë,zip_cons_cons->Ø,of_mem_zip->ß,length->à,nodup_nil->ã,range_eq_range'->å,getElem?_zipIdx->æ,map_congr_left->é,map_map->ï,range'->ñ,idxOf?_cons->ó,flatMap_def->ô
open Go.Value renaming int->Ê
open Go.Oper renaming upon_enter->Í,wp->Ó,upon_value->Õ,upon_skip->â
open Go.Ending renaming returned->Î
open Go.Result renaming andThen_ok->Ð,ok->ÿ
open Array renaming replicate->Ö,getElem?_eq_none->Ý,getElem_mem->ð
open Go.Fence renaming wide->Ú
open Go.Sem renaming run_bind->Û,run_pure->Ü,run_map->ö
open Nat renaming eq_of_beq_eq_true->á,add_assoc->ë,lt_succ_self->õ,strongRecOn->ø
open Go.Instr renaming sureAddr->ä,loadAt->î,endRound->ú
set_option linter.unusedVariables false
namespace Go.Lft
section
variable{N:NT}{np:G}{S0:aU}{w0:Z}{refs:Refs}{σ:St}{a:À}{w:Z}{S:aU}{γ:G->Y}
def dn(σ:St):Prop:=∀i,(σ.sl i).bare=X
theorem Bc{d:G}(hd:d<a.tmps.size)(v:Y)(j:G):tm (a.put (B d) v) j=if j=d then v else tm a j:=by
 unfold tm Go.Act.put;by_cases h:j=d
 .subst h;simp[hd]
 .have h':d≠j:=λe=>h e.symm;simp[h,Array.getElem?_setIfInBounds_ne h']
theorem Tm{bx:G->BS}{d:G}(hd:d<a.tmps.size){v u:Y}{x:Slot}(h:iH S w γ bx (tm a) x u):iH S w γ bx (tm (a.put (B d) v)) (kill d x) u:=by
 cases x with
 |one c=>exact h
 |tup l=>exact h
 |und=>exact h
 |cnd s b c=>
  simp only[kill];split
  .exact⟨trivial,λh=>absurd rfl h⟩
  .rename_i br;simp only[iH,Bc hd,if_neg br];exact h
theorem Lf(dst:O G)(v:Y):(a.put dst v).tmps.size=a.tmps.size:=by cases dst<;>simp[Go.Act.put]
theorem Lg(dst:O G)(v:Y):(a.put dst v).defers=a.defers:=by cases dst<;>rfl
theorem Dz(hR:Rel N np S0 w0 refs σ a w S γ){dst:O G}(hd:∀d,dst=B d->N.ok d){s:Slot}{v:Y}(hs:iH S w γ σ.bx (tm a) s v) :
  Rel N np S0 w0 refs (σ.put dst s) (a.put dst v) w S γ:=by
 cases dst with
 |none=>exact hR
 |some d=>
  have fW:d<a.tmps.size:=by rw[hR.size];exact(hd d rfl).1
  refine⟨(Lf _ _).trans hR.size,(Lg _ _).trans hR.defers,λi=>?_,hR.box,hR.own,hR.apart,hR.ext,hR.new,hR.here,hR.below,hR.grow,hR.os,hR.tape,hR.output,hR.par,hR.kept,λi u h=>?_⟩
  .show iH S w γ σ.bx (tm (a.put (B d) v)) (kill d (if i=d then s else σ.sl i)) (tm (a.put (B d) v) i);rw[Bc fW];split
   .exact Tm fW hs
   .exact Tm fW (hR.slot i)
  .obtain⟨h1,h2⟩:=hR.fix i u h;refine⟨h1,?_⟩;show tm (a.put (B d) v) i=u;rw[Bc fW,if_neg]
   .exact h2
   .rintro rfl
    have:=(hd i rfl).2;rw[h1]at this;simp at this
theorem Tn{d:G}{x:Slot}(h:x.bare=X):kill d x=x:=by cases x<;>first|rfl|simp[Slot.bare]at h
theorem DA(hR:Rel N np S0 w0 refs σ a w S γ)(hc:dn σ){dst:O G}(hd:∀d,dst=B d->N.ok d){s:Slot}{v:Y}(hs:iH S w γ σ.bx (tm a) s v)(hb:s.bare=X) :
  Rel N np S0 w0 refs (σ.setD dst s) (a.put dst v) w S γ/\dn (σ.setD dst s):=by
 have he:σ.setD dst s=σ.put dst s:=by
  cases dst with
  |none=>rfl
  |some d=>
   simp only[St.setD,St.setS,St.put];congr 1;funext j;split
   .exact(Tn hb).symm
   .exact(Tn (hc j)).symm
 refine⟨he▸Dz hR hd hs,λi=>?_⟩;cases dst with
 |none=>exact hc i
 |some d=>
  simp only[St.setD,St.setS];split
  .exact hb
  .exact hc i
theorem xS{o:Ä}(h:lT N o=X):∀d,o.dst=B d->N.ok d:=by
 intro d hd;simpa[lT,hd,NT.ok]using h
theorem To{u:Ups}(h:dn σ):dn (σ.upd u):=by
 intro i;rw[tC];exact h i
theorem ϡ{P:Â}{E:Env}(hT:cI P E.T)(hR:Rel E.N E.np S0 w0 refs σ a w S γ){o:Ä}{e:Æ}(h:nilT E σ o=B e) :
  ∃v b,(execOp a.eval o).run P w = .ok (.value v) w/\v = .bool b/\(b=X->e=X):=by
 unfold nilT at h;split at h
 .rename_i t x y ty bW;split at h
  .rename_i el xs ti hx hy AH;split at h
   .rename_i hl;simp only[jb]at h;subst h;have ex:=lV hR x;have ey:=lV hR y;rw[hx]at ex;rw[hy]at ey;obtain⟨ad,cap,dj,hlen,_,DB,_⟩:=ex.1;have Bd:a.eval x = .slice ad (à xs) cap:=by simpa using dj
    have Lh:a.eval y = .slice Á 0 0:=ey.1;obtain⟨a',bD⟩:=Kn hl;obtain⟨hd,_⟩:=mX hT AH bD;refine⟨.bool ad.isNone,ad.isNone,?_,rfl,λhb=>?_⟩
    .simp only[execOp,bW,Bd,Lh,eqGuard,binOp];simp[run_equal_slice_nil w t ti.elem ad (à xs) cap hd]
    .have:ad=none:=by cases ad<;>simp_all
     have:=DB this;have:à xs=0:=aa;cases xs with
     |nil=>rfl
     |cons=>simp at this
   .simp at h
  .simp at h
 .simp at h
theorem DC{P:Â}{E:Env}(hT:cI P E.T)(hC:jS P E.C)(hR:Rel E.N E.np S0 w0 refs σ a w S γ){act:H (G×Æ)}(bc:qH (tm a) act){p:Æ}
  (hc:p=U->dn σ){o:Ä}(hd:lT E.N o=X){R:Type}{k:St->O R}{r:R}(h:run1 E p σ act o k=B r){next:À->Z->Prop}{Q:Ñ->À->Z->Prop}
  (hn:∀σ' a' w' S' γ',Rel E.N E.np S0 w0 refs σ' a' w' S' γ'->(p=U->dn σ')->k σ'=B r->next a' w'):o.wp P a w next Q:=by
 have hd:=xS hd
 have ei:∀(u:Ups)(s:Slot)(v:Y)(w':Z)(S':aU)(γ':G->Y),Rel E.N E.np S0 w0 refs (σ.upd u) a w' S' γ'->iH S' w' γ' (σ.upd u).bx (tm a) s v->s.bare=X->
   k (cond p ((σ.upd u).put o.dst s) ((σ.upd u).setD o.dst s))=B r->next (a.put o.dst v) w':=by
  intro u s v w' S' γ' cT hs hb hk;cases p with
  |true=>exact hn _ _ _ _ _ (Dz cT hd hs) af hk
  |false=>obtain⟨h1,h2⟩:=DA cT (To (hc rfl)) hd hs hb;exact hn _ _ _ _ _ h1 (λ_=>h2) hk
 unfold run1 at h
 replace h:=RC h
 split at h
 .rename_i e he
  have he:nilT E σ o=B e:=by
   cases hz:E.nz with
   |true=>rw[hz]at he;exact he
   |false=>rw[hz]at he;simp at he
  obtain⟨v,b,aM,rfl,hb⟩:=ϡ (P:=P) hT hR he;obtain⟨h1,h2⟩:=g_ h;unfold Ó;rw[aM,Õ];cases b with
  |true=>exact ei [] (.one (.one (.d .bool X))) (.bool X) w S γ hR ⟨rfl,λ_=>rfl⟩ rfl (h2 (hb rfl))
  |false=>exact ei [] (.one (.one (.d .bool U))) (.bool U) w S γ hR ⟨rfl,λ_=>rfl⟩ rfl h1
 split at h
 .simp at h
 .rename_i chk s u ho;cases chk with
  |false=>simp at h
  |true=>
   obtain⟨⟨v,w',S',γ',aM,cT,hs⟩,hb⟩:=Lb hT hR bc (λ_=> .inl rfl) ho;unfold Ó;rcases aM with aM|⟨aM,rfl⟩
   .rw[aM,Õ];exact ei u s v w' S' γ' cT hs hb h
   .rw[aM,â];exact ei u s undef w' S' γ' cT hs hb h
 .rename_i f args mk ho;obtain⟨hf,dU⟩:=hC f args R _ r h;obtain⟨vals,aM,nw,hb⟩:=Tl hR bc (λ_=> .inl rfl) ho hf dU;unfold Ó;rw[aM,Í];refine nw.mono ?_
  rintro e w' ⟨ret,hk,aw⟩
  split at hk
  .rename_i s u bA;obtain⟨v,S',γ',rfl,cT,hs⟩:=aw s u bA;exact ei u s v w' S' γ' cT hs (hb ret s u bA) hk
  .simp at hk
theorem Tp{P:Â}{E:Env}(hT:cI P E.T)(hC:jS P E.C){ops:Ã Ä}(dt:bare ops=X){R:Type}{k:St->O R}{r:R}{Q:Ñ->À->Z->Prop}
  (hn:∀σ' a' w' S' γ',Rel E.N E.np S0 w0 refs σ' a' w' S' γ'->dn σ'->k σ'=B r->Q .normal a' w') :
  ∀(n i:G)(σ:St)(a:À)(w:Z)(S:aU)(γ:G->Y),i+n=ops.size->Rel E.N E.np S0 w0 refs σ a w S γ->dn σ->oy E (ops.toList.drop i) σ k=B r->
   wpOps P ops Q (ñ i n) a w
 |0,i,σ,a,w,S,γ,hi,hR,hc,h=>by
  rw[jj ay]at h;exact hn _ _ _ _ _ hR hc h
 |n+1,i,σ,a,w,S,γ,hi,hR,hc,h=>by
  have au:i<ops.size:=aa;rw[jh (by simpa using au)]at h;simp only[oy]at h;split at h
  .rename_i hd;have ho:ops[i]? = B ops[i]:=jz au;simp only[yk,wpOps,ho];have hg:ops[i].guard=none:=by have:=ka.1 dt ops[i] af;simpa using this
   have hw:Å ops[i] (yielded ops a.tmps)=true:=by simp[Å,hg]
   simp only[hw,if_true];refine .inl (DC hT hC hR (act:=[]) (λg hg=>by simp at hg) (p:=U) (λ_=>hc) (by simpa using hd) (by simpa using h) (λσ' a' w' S' γ' cT dr hk=>?_));exact Tp hT hC dt hn n (i+1) σ' a' w' S' γ' aa cT (dr rfl) hk
  .simp at h
theorem Gx{ops:Ã Ä}{o:Ä}{g:G×Æ}(h:oq ops o=B g):Å o (yielded ops a.tmps)=X↔tm a g.1 = .bool g.2:=by
 unfold oq at h;split at h
 .simp at h
 .rename_i j wn Li;split at h
  .rename_i oj kQ;split at h
   .rename_i s hs;simp only[jb]at h;subst h;simp only[Å,Li,yielded,kQ,ja,hs,tm];cases hq:a.tmps[s]? with
    |none=>
     have:a.tmps.getD s undef=undef:=by simp[hq]
     rw[this];simp[undef]
    |some v=>
     have:a.tmps.getD s undef=v:=by simp[hq]
     rw[this];cases v<;>simp
   .simp at h
  .simp at h
theorem Lj(hR:Rel N np S0 w0 refs σ a w S γ):∀(n:G)(g:G×Æ),tm a g.1 = .bool g.2->qH (tm a) (σ.chain n g)
 |0,g,h=>by intro x hx;simp only[St.chain,qk]at hx;subst hx;exact h
 |n+1,g,h=>by
  simp only[St.chain];have hs:=hR.slot g.1;split
  .rename_i s b c hc;rw[hc]at hs
   have h2:tm a s = .bool b:=by
    rcases hs with hs|hs
    .exact hs.1
    .have:tm a g.1=undef:=hs.2;rw[h]at this;simp[undef]at this
   intro x hx;rcases jl.1 hx with rfl|hx
   .exact h
   .exact Lj hR n (s,b) h2 x hx
  .intro x hx;simp only[qk]at hx;subst hx;exact h
theorem Ϣ:∀(n:G)(g:G×Æ),g∈σ.chain n g
 |0,g=>by simp[St.chain]
 |n+1,g=>by simp only[St.chain];split<;>simp
theorem Tq(hR:Rel N np S0 w0 refs σ a w S γ):∀{l:H (G×Æ)}{b:Æ},actB σ l=B b->qH (tm a) l->b=X
 |[],b,h,_=>by simp[actB]at h;exact h
 |(s,wn)::r,b,h,ha=>by
  have ht:tm a s = .bool wn:=ha (s,wn) af;simp only[actB]at h;split at h
  .rename_i v hv
   have ϣ:v=wn:=by
    have hs:=hR.slot s;unfold gval at hv;split at hv
    .rename_i v' eN;simp only[jb]at hv;subst hv;rw[eN]at hs;have:tm a s = .bool v':=sq hs;rw[ht]at this;simpa using this.symm
    .rename_i s' b' v' eN;simp only[jb]at hv;subst hv;rw[eN]at hs;rcases hs with hs|hs
     .have:tm a s = .bool v':=sq hs.2;rw[ht]at this;simpa using this.symm
     .have:tm a s=undef:=hs.2;rw[ht]at this;simp[undef]at this
    .simp at hv
   subst ϣ;split at h
   .simp only[jb]at h;rw[<-h];cases v<;>rfl
   .split at h
    .rename_i b2 eF;simp only[jb]at h;have:=Tq hR eF (λg hg=>ha g (by simp[hg]));rw[<-h,this];cases v<;>rfl
    .simp at h
  .simp at h
theorem Lk(hR:Rel N np S0 w0 refs σ a w S γ){s:G}{x:Slot}(h:iH S w γ σ.bx (tm a) x (tm a s)):Rel N np S0 w0 refs (σ.setS s x) a w S γ:=by
 refine⟨hR.size,hR.defers,λi=>?_,hR.box,hR.own,hR.apart,hR.ext,hR.new,hR.here,hR.below,hR.grow,hR.os,hR.tape,hR.output,hR.par,hR.kept,hR.fix⟩;simp only[St.setS];split
 .rename_i hi;subst hi;exact h
 .exact hR.slot i
theorem Tr{R:Type}:∀(l:H (G×Æ)){σ:St}{k:St->Æ->O R}{r:R},Rel N np S0 w0 refs σ a w S γ->uS l σ k=B r->
  ∃σ' b,Rel N np S0 w0 refs σ' a w S γ/\k σ' b=B r/\(b=X↔qH (tm a) l)
 |[],σ,k,r,hR,h=>⟨σ,X,hR,h,by simp[qH]⟩
 |(s,wn)::l,σ,k,r,hR,h=>by
  simp only[uS]at h;obtain⟨σ1,b1,bB,dm,dG⟩:=Tr l hR h;cases b1 with
  |false=>
   refine⟨σ1,U,bB,dm,?_⟩;simp only[qd,false_iff]at dG ⊢
   exactλha=>dG (λg hg=>ha g (by simp[hg]))
  |true=>
   have Be:=dG.1 rfl;simp only at dm;split at dm
   .rename_i v hv
    have ht:tm a s = .bool v:=by
     have hs:=bB.slot s;unfold J0 at hv;split at hv
     .rename_i v' eN;simp only[jb]at hv;subst hv;rw[eN]at hs;exact sq hs
     .rename_i s' b' v' eN;split at hv
      .rename_i hm;simp only[jb]at hv;subst hv;rw[eN]at hs;have jV:(s',b')∈l:=by simpa using hm
       have:=Be _ jV;rcases hs with hs|hs
       .exact sq hs.2
       .exact absurd this hs.1
      .simp at hv
     .simp at hv
    have DD:∀b,b=v->Rel N np S0 w0 refs (σ1.setS s (.one (.one (.d .bool b)))) a w S γ:=by
     rintro b rfl
     refine Lk bB ⟨?_,λ_=>?_⟩
     .show Rep S w .bool b [tm a s];rw[ht];rfl
     .rw[ht];rfl
    cases v with
    |true=>
     simp only[jc]at dm;refine⟨_,wn,DD X rfl,dm,?_⟩;constructor
     .rintro rfl g hg
      rcases jl.1 hg with rfl|hg
      .exact ht
      .exact Be g hg
     .intro ha;have:=ha (s,wn) af;rw[ht]at this;simpa using this.symm
    |false=>
     simp only[jd]at dm;refine⟨_, !wn,DD U rfl,dm,?_⟩;constructor
     .intro hw g hg;have Ll:wn=false:=by simpa using hw
      subst Ll;rcases jl.1 hg with rfl|hg
      .exact ht
      .exact Be g hg
     .intro ha;have:=ha (s,wn) af;rw[ht]at this;have:U=wn:=by simpa using this
      rw[<-this];rfl
   .simp at dm
theorem Ϥ{P:Â}{E:Env}(hT:cI P E.T)(hC:jS P E.C)(hR:Rel E.N E.np S0 w0 refs σ a w S γ){ops:Ã Ä}{o:Ä}(hd:lT E.N o=X)
  {R:Type}{k:St->O R}{r:R}(h:Ct E ops σ o k=B r){next:À->Z->Prop}{Q:Ñ->À->Z->Prop}
  (hn:∀σ' a' w' S' γ',Rel E.N E.np S0 w0 refs σ' a' w' S' γ'->k σ'=B r->next a' w') :
  if Å o (yielded ops a.tmps) then o.wp P a w next Q\/(o.asks P a w/\ò Q) else next (a.put o.dst undef) w:=by
 have tK:=xS hd;unfold Ct at h;split at h
 .split at h
  .rename_i hg;have hw:Å o (yielded ops a.tmps)=true:=by simp[Å,hg]
   simp only[hw,if_true];exact .inl (DC hT hC hR (act:=[]) (λg hg=>by simp at hg) (p:=X) af hd h (λσ' a' w' S' γ' cT _ hk=>hn σ' a' w' S' γ' cT hk))
  .simp at h
 .rename_i g hg;dsimp only at h;have DE:=Gx (a:=a) hg
  have vX:uS (σ.chain 40 g) σ (λσ' a=>match a with
    |true=>run1 E X σ' (σ.chain 40 g) o k
    |false=>k (σ'.put o.dst (.one (.one .dead))))=B r->
    if Å o (yielded ops a.tmps) then o.wp P a w next Q\/(o.asks P a w/\ò Q) else next (a.put o.dst undef) w:=by
   intro hs;obtain⟨σ',b,cT,hk,hb⟩:=Tr _ hR hs;cases b with
   |true=>have bc:=hb.1 rfl;have hw:=DE.2 (bc g (Ϣ 40 g));simp only[hw,if_true];exact .inl (DC hT hC cT bc (p:=X) af hd hk (λσ' a' w' S' γ' cT _ hk=>hn σ' a' w' S' γ' cT hk))
   |false=>
    have hw:¬Å o (yielded ops a.tmps)=true:=λhw=>by
     have:=hb.2 (Lj hR 40 g (DE.1 hw));simp at this
    simp only[hw];exact hn _ _ _ _ _ (Dz cT tK (s:= .one (.one .dead)) (v:=undef) ⟨trivial,λh=>absurd rfl h⟩) hk
  split at h
  .rename_i chk c ho;split at h
   .rename_i ab cX;by_cases hw:Å o (yielded ops a.tmps)=X
    .have bc:=Lj hR 40 g (DE.1 hw);have:=Tq hR cX bc;subst this;simp only[hw,if_true];cases chk with
     |false=>simp at h
     |true=>
      simp only[jk,Bool.or_false,jc]at h;obtain⟨⟨v,w',S',γ',aM,cT,hs⟩,hb⟩:=Lb hT hR bc (λ_=> .inl rfl) ho;have mj:=Dz cT tK (s:= .cnd g.1 g.2 c) (v:=v) (.inl ⟨DE.1 hw,hs⟩);refine .inl ?_;unfold Ó;rcases aM with aM|⟨aM,rfl⟩
      .rw[aM,Õ];exact hn _ _ _ _ _ mj h
      .rw[aM,â];exact hn _ _ _ _ _ mj h
    .simp only[hw]
     have hk:k (σ.put o.dst (.cnd g.1 g.2 c))=B r:=by
      cases hc:(chk || !ab) with
      |true=>rw[hc]at h;exact h
      |false=>rw[hc]at h;simp at h
     exact hn _ _ _ _ _ (Dz hR tK (s:= .cnd g.1 g.2 c) (v:=undef) (.inr ⟨λhh=>hw (DE.2 hh),rfl⟩)) hk
   .exact vX h
  .exact vX h
theorem ϥ(hR:Rel N np S0 w0 refs σ a w S γ):Rel N np S0 w0 refs σ.clear a w S γ/\dn σ.clear:=by
 refine⟨⟨hR.size,hR.defers,λi=>?_,hR.box,hR.own,hR.apart,hR.ext,hR.new,hR.here,hR.below,hR.grow,hR.os,hR.tape,hR.output,hR.par,hR.kept,hR.fix⟩,λi=>?_⟩
 .have:=hR.slot i;simp only[St.clear];cases hs:σ.sl i with
  |one c=>rw[hs]at this;exact this
  |tup l=>rw[hs]at this;exact this
  |und=>rw[hs]at this;exact this
  |cnd s b c=>exact⟨trivial,λh=>absurd rfl h⟩
 .simp only[St.clear];cases σ.sl i<;>rfl
theorem Ts{P:Â}{E:Env}(hT:cI P E.T)(hC:jS P E.C){ops:Ã Ä}{R:Type}{k:St->O R}{r:R}{Q:Ñ->À->Z->Prop}
  (hn:∀σ' a' w' S' γ',Rel E.N E.np S0 w0 refs σ' a' w' S' γ'->dn σ'->k σ'=B r->Q .normal a' w') :
  ∀(n i:G)(σ:St)(a:À)(w:Z)(S:aU)(γ:G->Y),i+n=ops.size->Rel E.N E.np S0 w0 refs σ a w S γ->As E ops (ops.toList.drop i) σ k=B r->
   wpOps P ops Q (ñ i n) a w
 |0,i,σ,a,w,S,γ,hi,hR,h=>by
  rw[jj ay]at h;obtain⟨h1,h2⟩:=ϥ hR;exact hn _ _ _ _ _ h1 h2 h
 |n+1,i,σ,a,w,S,γ,hi,hR,h=>by
  have au:i<ops.size:=aa;rw[jh (by simpa using au)]at h;simp only[As]at h;split at h
  .rename_i hd;have ho:ops[i]? = B ops[i]:=jz au;simp only[yk,wpOps,ho];exact Ϥ hT hC hR (by simpa using hd) (by simpa using h) (λσ' a' w' S' γ' cT hk=>Ts hT hC hn n (i+1) σ' a' w' S' γ' aa cT hk)
  .simp at h
theorem Tt{P:Â}{E:Env}(hT:cI P E.T)(hC:jS P E.C)(hR:Rel E.N E.np S0 w0 refs σ a w S γ)(hc:dn σ){ops:Ã Ä}{R:Type}{k:St->O R}{r:R}
  {Q:Ñ->À->Z->Prop}(hn:∀σ' a' w' S' γ',Rel E.N E.np S0 w0 refs σ' a' w' S' γ'->dn σ'->k σ'=B r->Q .normal a' w')(h:pz E ops σ k=B r) :
  wpOps P ops Q (List.range ops.size) a w:=by
 rw[å];unfold pz at h;split at h
 .rename_i hb;exact Tp hT hC hb hn ops.size 0 σ a w S γ aa hR hc (by simpa using h)
 .exact Ts hT hC hn ops.size 0 σ a w S γ aa hR (by simpa using h)
end
section
variable{N:NT}{np:G}{S0:aU}{w0:Z}{refs:Refs}{σ:St}{a:À}{w:Z}{S:aU}{γ:G->Y}
theorem Lm(hR:Rel N np S0 w0 refs σ a w S γ){k:G}{b b':Bx}(hk:σ.bx k = .live b)(nO:kH b b')(cQ:∀bx',BxLe γ σ.bx γ bx'->eM S w γ bx' k b') :
  Rel N np S0 w0 refs (σ.setB k (.live b')) a w S γ:=by
 have hle:BxLe γ σ.bx γ (σ.setB k (.live b')).bx:=by
  intro k' bk;by_cases h:k'=k
  .subst h;rw[fm];exact⟨af,rfl,λx hx=>by simp at hx;subst hx;exact⟨b,hk,nO⟩⟩
  .rw[cu σ _ h];exact⟨bk,rfl,λx hx=>⟨x,hx,.refl x⟩⟩
 have bN:∀k' x,(σ.setB k (.live b')).bx k' = .live x->∃x',σ.bx k' = .live x':=by
  intro k' x hx;by_cases h:k'=k
  .subst h;exact⟨b,hk⟩
  .rw[cu σ _ h]at hx;exact⟨x,hx⟩
 refine Rel.step (bx':=(σ.setB k (.live b')).bx) hR (.refl S w) hle ?_ ?_ ?_ hR.new hR.here hR.below hR.grow hR.os hR.tape hR.output (λg _ _ h=>⟨rfl,λk' b' aK=>by obtain⟨b2,eF⟩:=bN k' b' aK;exact h k' b2 eF⟩)
 .intro k' x hx;by_cases h:k'=k
  .subst h;rw[fm]at hx;simp at hx;subst hx;exact cQ _ hle
  .rw[cu σ _ h]at hx;exact eM.keep (.refl S w) hle rfl (λg hg=>⟨rfl,λ_=>Iff.rfl⟩) (hR.box k' x hx)
 .intro k' x g hx hg;obtain⟨x',mL⟩:=bN k' x hx;exact hR.own k' x' g mL hg
 .intro k1 k2 x1 x2 g br h1 h2 hg;obtain⟨y1,xT⟩:=bN k1 x1 h1;obtain⟨y2,tW⟩:=bN k2 x2 h2;exact hR.apart k1 k2 y1 y2 g br xT tW hg
theorem All2.set_left{α β:Type}{R:α->β->Prop}:∀{as:H α}{bs:H β},All2 R as bs->∀(i:G)(x:α)(b:β),bs[i]? = B b->R x b->All2 R (as.set i x) bs
 |[],[],_,i,x,b,hb,_=>by simp at hb
 |_::_,_::_,h,0,x,b,hb,hr=>by simp at hb;subst hb;exact⟨hr,h.2⟩
 |_::_,_::_,h,i+1,x,b,hb,hr=>⟨h.1,All2.set_left h.2 i x b (by simpa using hb) hr⟩
 |[],_::_,h,_,_,_,_,_=>h.elim
 |_::_,[],h,_,_,_,_,_=>h.elim
theorem Ln:∀(l:H (Loc×Ty))(σ σ':St)(S:aU),Rel N np S0 w0 refs σ a w S γ->dn σ->Ax np l σ=B σ'->∃S',Rel N np S0 w0 refs σ' a w S' γ/\dn σ'
 |[],σ,σ',S,hR,hc,h=>by simp[Ax]at h;subst h;exact⟨S,hR,hc⟩
 |(l,t)::r,σ,σ',S,hR,hc,h=>by
  simp only[Ax]at h;split at h
  .rename_i v u hv;have bn:=xQ (np:=np) (σ:=σ) (rd:=mskM σ.bx) (RdR.msk λ_=> .inl rfl)
   suffices hs:∃S',Rel N np S0 w0 refs (xf (σ.upd u) l (.d t v)) a w S' γ/\dn (xf (σ.upd u) l (.d t v)) by
    obtain⟨S1,bB,eS⟩:=hs;exact Ln r _ σ' S1 bB eS h
   cases l with
   |slot i=>
    cases eN:σ.sl i with
    |tup x=>simp only[iU,eN]at hv;simp[jL,lK,lenL,kE]at hv
    |cnd x y z=>simp only[iU,eN]at hv;simp[jL,lK,lenL,kE]at hv
    |und=>simp only[iU,eN]at hv;simp[jL,lK,lenL,kE]at hv
    |one c=>
     cases c with
     |st ls=>simp only[iU,eN]at hv;simp[jL,lK,lenL,kE]at hv
     |av n b xs=>simp only[iU,eN]at hv;simp[jL,lK,lenL,kE]at hv
     |one x=>
      simp only[iU,eN]at hv;have vY:=hR.slot i;rw[eN]at vY;obtain⟨fD,hp⟩:=vD bn hR.box hv vY.1;obtain⟨S1,bB,cO,gq,_⟩:=na u σ S hR fD;have bI:=hp S1 w cO gq;refine⟨S1,?_,?_⟩
      .simp only[xf,tC,eN];exact Lk bB ⟨bI,λ_=>Rep.one _ _ _ bI _ (qk.2 rfl)⟩
      .intro j;simp only[xf,tC,eN,St.setS];split
       .rfl
       .exact hc j
   |cell k c=>
    have ml:iU σ (.cell k c) ≠ .dead:=λhd=>by rw[hd]at hv;simp[jL,lK,lenL,kE]at hv
    cases fa:σ.bx k with
    |free=>simp[iU,fa]at ml
    |gone=>simp[iU,fa]at ml
    |live b=>
     cases b with
     |lst e b xs f=>simp[iU,fa]at ml
     |arr n b xs=>simp[iU,fa]at ml
     |row e b n ls=>simp[iU,fa]at ml
     |cell ls f=>
      cases f with
      |true=>simp[iU,fa]at ml
      |false=>
       have hl:iU σ (.cell k c)=ls.getD c .dead:=by simp[iU,fa]
       rw[hl]at hv ml;obtain⟨g,cur,e,h1,h2,h3,h4,h5,h6⟩:=hR.box k _ fa;cases hg:ls[c]? with
       |none=>simp[hg]at ml
       |some x=>
        have KH:ls.getD c .dead=x:=by simp[hg]
        rw[KH]at hv;obtain⟨z,hz,Bf⟩:=h3.get c x hg;obtain⟨fD,hp⟩:=vD bn hR.box hv Bf;obtain⟨S1,bB,cO,gq,cR⟩:=na u σ S hR fD;have bI:=hp S1 w cO gq;have tX:=cR.cell fa;refine⟨S1,?_,?_⟩
        .simp only[xf,tX];refine Lm bB tX trivial (λbx' hle=>?_);obtain⟨g',lg,e',lX,kX,vT,Ϧ,ϧ,h6'⟩:=bB.box k _ tX;rw[h1]at lX;simp at lX;subst lX;rw[h2]at kX;simp at kX;obtain⟨rfl,rfl⟩:=kX;exact⟨g,cur,e,h1,h2,by rw[vk];exact All2.set_left (vT.mono (λx u hx=>bz.keep (.refl S1 w) hle hx)) c (.d t v) z hz bI,by rw[vk];exact Ϧ,ϧ,af⟩
        .intro j;simp only[xf,tX];show ((σ.upd u).sl j).bare=X;rw[tC];exact hc j
  .simp at h
theorem DF:∀(l:H oo)(σ σ':St)(S:aU),Rel N np S0 w0 refs σ a w S γ->dn σ->uU np l σ=B σ'->∃S',Rel N np S0 w0 refs σ' a w S' γ/\dn σ'
 |[],σ,σ',S,hR,hc,h=>by simp[uU]at h;subst h;exact⟨S,hR,hc⟩
 |x::r,σ,σ',S,hR,hc,h=>by
  simp only[uU]at h;split at h
  .split at h
   .split at h
    .split at h
     .rename_i e b xs f fa;split at h
      .simp at h
      .rename_i hp;simp only[qw,not_or,Ù]at hp;obtain⟨S1,bB,_⟩:=Kp hR hp.2 fa hp.1;exact DF r _ σ' S1 bB (λi=>hc i) h
     .simp at h
    .exact DF r σ σ' S hR hc h
   .exact DF r σ σ' S hR hc h
  .exact DF r σ σ' S hR hc h
theorem pN:∀{l:H G}{i j:G},l.idxOf? i=B j->l[j]? = B i
 |[],i,j,h=>by simp at h
 |x::l,i,j,h=>by
  rw[ó]at h;split at h
  .rename_i he;simp at h he;subst h;subst he;rfl
  .cases hq:l.idxOf? i with
   |none=>simp[hq]at h
   |some j'=>simp[hq]at h;subst h;simpa using pN hq
theorem Lo:∀{l:H G}{i:G},l.idxOf? i=Á->i∉l
 |[],i,_=>af
 |x::l,i,h=>by
  rw[ó]at h;split at h
  .simp at h
  .rename_i he;have hq:l.idxOf? i=none:=by simpa using h
   have:=Lo hq;simp only[jl,not_or];exact⟨λe=>he (by simp[e]),this⟩
theorem Lp{e:G}{t:Ty}{l:Loc}{k:O G}{xs:H t.den}{f:Æ}(h:Av σ e t l=B (k,xs,f)) :
  (k=Á/\isM e=U/\xs=[]/\iU σ l = .nil)\/∃k0,k=B k0/\iU σ l = .ol k0/\σ.bx k0 = .live (.lst e t xs f):=by
 unfold Av at h;split at h
 .rename_i hl;split at h
  .simp at h
  .rename_i hm;simp only[jb,jf]at h;exact .inl ⟨h.1.symm,by simpa using hm,h.2.1.symm,hl⟩
 .rename_i k0 hl;split at h
  .rename_i e' t' dg f' hb;split at h
   .rename_i v iX;split at h
    .rename_i he;simp only[jb,jf]at h;obtain⟨rfl,rfl,rfl⟩:=h;have:=mJ iX;cases this;subst he;exact .inr ⟨k0,rfl,hl,hb⟩
    .simp at h
   .simp at h
  .simp at h
 .simp at h
theorem Gy{e:G}{t:Ty}:∀{ls:H Loc}{k:O G}{xs:H t.den}{f:Æ},xe σ e t ls=B (k,xs,f)->
  (∃l∈ls,Av σ e t l=B (k,xs,f))/\∀l∈ls,∃dg f',Av σ e t l=B (k,dg,f')
 |[],_,_,_,h=>by simp[xe]at h
 |[l],k,xs,f,h=>by
  simp only[xe]at h;exact⟨⟨l,af,h⟩,λl' nX=>by simp at nX;subst nX;exact⟨_,_,h⟩⟩
 |l::l2::ls,k,xs,f,h=>by
  simp only[xe]at h;split at h
  .rename_i k1 Gg f1 k2 R2 f2 h1 h2;split at h
   .rename_i hk;simp only[jb,jf]at h;obtain⟨rfl,rfl,rfl⟩:=h;subst hk;obtain⟨_,aw⟩:=Gy h2;refine⟨⟨l,af,h1⟩,λl' nX=>?_⟩;rcases jl.1 nX with rfl|nX
    .exact⟨_,_,h1⟩
    .exact aw l' nX
   .simp at h
  .simp at h
def Tu(np:G)(σ:St)(bs:H G)(x:oo)(it:Item)(src:O G):Prop:=
 ∃xs f f',xe σ x.e x.a x.locs=B (src,xs,f)/\it = .b (.live (.lst x.e x.a xs f'))/\∀k0,src=B k0->f'=f/\k0∉bs/\parK np k0=U
theorem Tv{bs:H G}:∀{L:H oo}{is:H Item}{ks:H G},Aw np σ bs L=B (is,ks)->
  ∃fN:H (O G),ks=fN.filterMap id/\ks.Nodup/\∀(j:G)(x:oo),L[j]? = B x->∃it src,is[j]? = B it/\fN[j]? = B src/\Tu np σ bs x it src
 |[],is,ks,h=>by
  simp[Aw]at h;obtain⟨rfl,rfl⟩:=h;exact⟨[],rfl,ã,λj x hx=>by simp at hx⟩
 |x::L,is,ks,h=>by
  simp only[Aw]at h;split at h
  .rename_i k xs f is' J8 h1 h2;obtain⟨fN,e1,e2,e3⟩:=Tv h2;split at h
   .simp only[jb,jf]at h;obtain⟨rfl,rfl⟩:=h;refine⟨Á::fN,by simp[e1],e2,λj y hy=>?_⟩;cases j with
    |zero=>simp at hy;subst hy;exact⟨_,Á,rfl,rfl,xs,f,x.frz,h1,rfl,af⟩
    |succ j=>exact e3 j y (by simpa using hy)
   .rename_i k0;split at h
    .simp at h
    .rename_i hn;simp only[qw,not_or,Ù,qo,jr]at hn;simp only[jb,jf]at h;obtain⟨rfl,rfl⟩:=h;refine⟨B k0::fN,by simp[e1],zg.2 ⟨hn.1.1,e2⟩,λj y hy=>?_⟩;cases j with
     |zero=>simp at hy;subst hy;exact⟨_,B k0,rfl,rfl,xs,f,f,h1,rfl,λk1 dm=>by simp at dm;subst dm;exact⟨rfl,hn.1.2,hn.2⟩⟩
     |succ j=>exact e3 j y (by simpa using hy)
  .simp at h
theorem Tw:∀{fN:H (O G)},(fN.filterMap id).Nodup->∀{j j' k:G},fN[j]? = B (B k)->fN[j']? = B (B k)->j=j'
 |[],_,j,_,_,h,_=>by simp at h
 |s::fN,hn,j,j',k,h,h'=>by
  have iy:∀{i:G},fN[i]? = B (B k)->k∈fN.filterMap id:=λhi=>vw.2 ⟨B k,kp hi,rfl⟩
  have Lq:(fN.filterMap id).Nodup:=by
   cases s with
   |none=>simpa using hn
   |some y=>simp at hn;exact hn.2
  cases j with
  |zero=>
   cases j' with
   |zero=>rfl
   |succ j'=>simp at h h';subst h;simp at hn;exact absurd (by simpa using iy h') hn.1
  |succ j=>
   cases j' with
   |zero=>simp at h h';subst h';simp at hn;exact absurd (by simpa using iy h) hn.1
   |succ j'=>have:=Tw Lq (j:=j) (j':=j') (k:=k) (by simpa using h) (by simpa using h');omega
theorem Tx:∀{l:H G},l.Nodup->∀{i j n:G},l[i]? = B n->l[j]? = B n->i=j
 |[],_,i,_,_,hi,_=>by simp at hi
 |x::l,h,i,j,n,hi,hj=>by
  obtain⟨h1,h2⟩:=zg.1 h;cases i with
  |zero=>
   cases j with
   |zero=>rfl
   |succ j=>simp at hi hj;subst hi;exact absurd (kp hj) h1
  |succ i=>
   cases j with
   |zero=>simp at hi hj;subst hj;exact absurd (kp hi) h1
   |succ j=>rw[Tx h2 (i:=i) (j:=j) (n:=n) (by simpa using hi) (by simpa using hj)]
end
section
variable{N:NT}{np:G}{S0:aU}{w0:Z}{refs:Refs}{σ:St}{a:À}{w:Z}{S:aU}{γ:G->Y}
theorem Ϩ{K:Keep}{l:Loc}{n:G}(h:Cz K l=B n):∃(j:G)(x:oo),K.lists[j]? = B x/\x.name=n/\l∈x.locs:=by
 unfold Cz at h;obtain⟨x,hq,hn⟩:=Option.map_eq_some_iff.1 h;have h1:=List.find?_some hq;obtain⟨j,hj⟩:=vc.1 (List.mem_of_find?_eq_some hq);exact⟨j,x,hj,hn,by simpa using h1⟩
theorem Bg{K:Keep}{k:G}{x:BS}{b:Bx}(h:uT K k x = .live b):∃b0,x = .live b0/\kH b0 b:=by
 unfold uT at h;split at h
 .simp only[BS.live.injEq]at h;subst h;exact⟨_,rfl,trivial⟩
 .simp only[BS.live.injEq]at h;subst h;exact⟨_,rfl,.refl _⟩
 .simp only[BS.live.injEq]at h;subst h;exact⟨_,rfl,.refl _⟩
 .simp at h
theorem Bh{K:Keep}{k:G}{x:BS}:uT K k x ≠ .free:=by
 unfold uT;split<;>simp
theorem Tz{R:Leaf->Y->Prop}{f:Leaf×G->Leaf}:∀{ls:H Leaf}{cs:H Y}(n:G),(∀(j:G)(x:Leaf)(u:Y),ls[j]? = B x->cs[j]? = B u->R (f (x,n+j)) u)->ls.length=cs.length->
  All2 R ((ls.zipIdx n).map f) cs
 |[],[],_,_,_=>trivial
 |x::ls,c::cs,n,h,hl=>by
  refine⟨h 0 x c rfl rfl,Tz (n+1) (λj y u hy hu=>?_) (by simpa using hl)⟩;have:=h (j+1) y u (by simpa using hy) (by simpa using hu);rwa[show n+1+j=n+(j+1) by omega]
 |[],_::_,_,_,hl=>by simp at hl
 |_::_,[],_,_,hl=>by simp at hl
theorem ϩ{K:Keep}{s:Snap}(hR:Rel N np S0 w0 refs σ a w S γ)(hs:J5 np K σ=B s):∃γ',Rel N np S0 w0 refs (dv np K s) a w S γ'/\dn (dv np K s):=by
 unfold J5 at hs;cases hL:Aw np σ K.boxes K.lists with
 |none=>simp[hL]at hs
 |some p=>
 obtain⟨is,ks⟩:=p;simp only[hL]at hs;cases bJ:K.ok np with
 |false=>simp[bJ]at hs
 |true=>
 simp only[bJ,if_true,jb]at hs;obtain⟨fN,hks,dP,DG⟩:=Tv hL;rw[hks]at dP;simp only[Keep.ok,ji]at bJ;have xU:=xG bJ.1;have Dw:∀(j:G)(x:oo),K.lists[j]? = B x->x.name∉K.boxes:=by intro j x hx;have:=ka.1 bJ.2 x (kp hx);simp only[ji]at this;simpa using this.1
 have vZ:∀(j:G)(x:oo),K.lists[j]? = B x->parK np x.name=false:=by intro j x hx;have:=ka.1 bJ.2 x (kp hx);simp only[ji]at this;simpa using this.2
 let γ':G->Value:=λn=>match K.boxes.idxOf? n with
  |some _=>γ n
  |none=>match (K.lists.map (·.name)).idxOf? n with
   |some j=>match fN[j]? with
    |some (B k)=>γ k
    |_=> .slice Á 0 0
   |none=>γ n
 have fa:(dv np K s).bx=λn=>match K.boxes.idxOf? n with
  |some j=>uV s[K.slots.length+j]?
  |none=>match (K.lists.map (·.name)).idxOf? n with
   |some j=>uV s[K.slots.length+K.boxes.length+j]?
   |none=>if parK np n then .gone else .free:=rfl
 have hB:∀n,n∈K.boxes->(dv np K s).bx n=uT K n (σ.bx n)/\γ' n=γ n:=by
  intro n hn;rw[fa];cases hq:K.boxes.idxOf? n with
  |none=>exact absurd hn (Lo hq)
  |some j=>have hj:=pN hq;refine⟨?_,by simp only[γ',hq]⟩;simp only[hq,<-hs];rw[kv af];simp only[ky,Nat.add_sub_cancel_left];rw[Ë (by simp;exact(kf.1 hj).1)];simp[hj,uV]
 have Lr:∀(j:G)(x:oo),K.lists[j]? = B x->∃it src,fN[j]? = B src/\Tu np σ K.boxes x it src/\(dv np K s).bx x.name=uV (B it)/\
   γ' x.name=(match src with|some k=>γ k|none=> .slice Á 0 0):=by
  intro j x hx;obtain⟨it,src,h1,h2,h3⟩:=DG j x hx
  have wa:K.boxes.idxOf? x.name=none:=by
   cases hq:K.boxes.idxOf? x.name with
   |none=>rfl
   |some i=>exact absurd (kp (pN hq)) (Dw j x hx)
  have vM:(K.lists.map (·.name))[j]? = B x.name:=by simp[hx]
  cases hq:(K.lists.map (·.name)).idxOf? x.name with
  |none=>exact absurd (kp vM) (Lo hq)
  |some i=>
   have hi:=Tx xU (pN hq) vM;subst hi;refine⟨it,src,h2,h3,?_,?_⟩
   .rw[fa];simp only[wa,hq,<-hs];rw[kv ay,kv ay];have:K.slots.length+K.boxes.length+i-(K.slots.map λi=>Item.s (FZ K i (σ.sl i))).length-(K.boxes.map λk=>Item.b (uT K k (σ.bx k))).length=i:=ay;rw[this,h1]
   .simp only[γ',wa,hq,h2];cases src<;>rfl
 have hF:∀n b,(dv np K s).bx n = .live b->n∈K.boxes\/∃(j:G)(x:oo),K.lists[j]? = B x/\x.name=n:=by
  intro n b hb;by_cases hn:n∈K.boxes
  .exact .inl hn
  .right;rw[fa]at hb
   have wa:K.boxes.idxOf? n=none:=by
    cases hq:K.boxes.idxOf? n with
    |none=>rfl
    |some i=>exact absurd (kp (pN hq)) hn
   simp only[wa]at hb;split at hb
   .rename_i j hq;have hj:=pN hq;simp only[qt]at hj;cases hx:K.lists[j]? with
    |none=>simp[hx]at hj
    |some x=>simp[hx]at hj;exact⟨j,x,hx,hj⟩
   .split at hb<;>simp at hb
 have kL:∀(loc:O Loc)(x:Leaf)(u:Y),bz S w γ σ.bx x u->(x ≠ .dead->One u)->(∀l,loc=B l->iU σ l=x)->
   bz S w γ' (dv np K s).bx (oA K loc x) u/\(oA K loc x ≠ .dead->One u):=by
  intro loc x u hl h1 xV;have jB:bz S w γ' (dv np K s).bx .dead u/\(Leaf.dead ≠ .dead->One u):=⟨trivial,λh=>absurd rfl h⟩
  have kO:∀n,loc.bind (Cz K)=B n->∀(hu:(x = .nil)\/∃k,x = .ol k),bz S w γ' (dv np K s).bx (.ol n) u/\(Leaf.ol n ≠ .dead->One u):=by
   intro n hn hu;cases loc with
   |none=>simp at hn
   |some l=>
    simp only[ja]at hn;have oL:=xV l rfl;obtain⟨j,y,hy,Ϫ,Ky⟩:=Ϩ hn;obtain⟨it,src,_,⟨xs,f,f',jC,Bi,xW⟩,xX,sK⟩:=Lr j y hy;obtain⟨_,aw⟩:=Gy jC;obtain⟨dg,f1,rj⟩:=aw l Ky;have cV:One u:=h1 (by rcases hu with rfl|⟨k,rfl⟩<;>simp);rw[Ϫ]at xX sK;refine⟨⟨by rw[xX,Bi];simp[uV],cV,λb _=>?_⟩,λ_=>cV⟩;rw[sK];rcases Lp rj with⟨rfl,_,_,eX⟩|⟨k0,rfl,xY,db⟩
    .rw[oL]at eX;subst eX;exact hl
    .rw[oL]at xY;subst xY;exact hl.2.2 _ db
  cases x with
  |dead=>exact jB
  |nil=>
   simp only[oA];split
   .rename_i n hn;exact kO n hn (.inl rfl)
   .exact⟨hl,h1⟩
  |d t v=>exact⟨hl,h1⟩
  |ip ls=>exact⟨hl,h1⟩
  |clo f caps=>exact⟨hl,h1⟩
  |clr f ks=>
   simp only[oA];split
   .rename_i hks;obtain⟨cv,hu,ha⟩:=hl;refine⟨⟨cv,hu,?_⟩,λ_=>h1 af⟩
    have go:∀(ks:H G)(zs:H Y),ks.all (λk=>K.boxes.contains k)=X->All2 (CJ γ σ.bx) ks zs->All2 (CJ γ' (dv np K s).bx) ks zs:=by
     intro ks;induction ks with
     |nil=>intro zs _ h;cases zs with|nil=>trivial|cons _ _=>exact h.elim
     |cons k ks ih=>
      intro zs hc h;cases zs with
      |nil=>exact h.elim
      |cons z zs=>simp only[zo,ji]at hc;obtain⟨dG,eF⟩:=hB k (by simpa using hc.1);refine⟨⟨by rw[dG];exact Bh,h.1.2.1,λb hb=>?_⟩,ih zs hc.2 h.2⟩;rw[dG]at hb;obtain⟨b0,fk,_⟩:=Bg hb;rw[eF];exact h.1.2.2 b0 fk
    exact go ks cv.toList hks ha
   .exact jB
  |ep k i c=>exact jB
  |tl k i=>
   simp only[oA];split
   .rename_i hk;obtain⟨dG,eF⟩:=hB k (by simpa using hk);refine⟨⟨by rw[dG];exact Bh,hl.2.1,λb hb=>?_⟩,λ_=>hl.2.1⟩;rw[dG]at hb;obtain⟨b0,fk,iN⟩:=Bg hb;have h3:=hl.2.2 b0 fk;rw[eF]
    cases b0<;>cases b<;>simp only[kH]at iN<;>first
     |exact iN.elim
     |exact h3.elim
     |(obtain⟨rfl,rfl,nX⟩:=iN;simp only at h3 ⊢;obtain⟨hm,h3⟩:=h3;rw[<-nX hm];exact⟨hm,h3⟩)
   .exact jB
  |hd k i=>
   simp only[oA];split
   .rename_i hk;obtain⟨dG,eF⟩:=hB k (by simpa using hk);refine⟨⟨by rw[dG];exact Bh,hl.2.1,λb hb=>?_⟩,λ_=>hl.2.1⟩;rw[dG]at hb;obtain⟨b0,fk,iN⟩:=Bg hb;have h3:=hl.2.2 b0 fk;rw[eF]
    cases b0<;>cases b<;>simp only[kH]at iN<;>first
     |exact iN.elim
     |exact h3.elim
     |(obtain⟨rfl,rfl,nX⟩:=iN;simp only at h3 ⊢;obtain⟨hm,h3⟩:=h3;rw[<-nX hm];exact⟨hm,h3⟩)
   .exact jB
  |ol k=>
   simp only[oA];split
   .rename_i hk;obtain⟨dG,eF⟩:=hB k (by simpa using hk);refine⟨⟨by rw[dG];exact Bh,hl.2.1,λb hb=>?_⟩,λ_=>hl.2.1⟩;rw[dG]at hb;obtain⟨b0,fk,_⟩:=Bg hb;rw[eF];exact hl.2.2 b0 fk
   .split
    .rename_i n hn;exact kO n hn (.inr ⟨k,rfl⟩)
    .exact jB
  |bp k c=>
   simp only[oA];split
   .rename_i hk;obtain⟨dG,eF⟩:=hB k (by simpa using hk);refine⟨⟨by rw[dG];exact Bh,hl.2.1,λb hb=>?_⟩,λ_=>hl.2.1⟩;rw[dG]at hb;obtain⟨b0,fk,_⟩:=Bg hb;rw[eF];exact hl.2.2 b0 fk
   .exact jB
 have gO:∀n b,(dv np K s).bx n = .live b->(n∈K.boxes/\γ' n=γ n/\∃b0,σ.bx n = .live b0)\/(blk (γ' n)=Á)\/
   ∃(j:G)(x:oo)(k:G)(b0:Bx),K.lists[j]? = B x/\x.name=n/\fN[j]? = B (B k)/\γ' n=γ k/\σ.bx k = .live b0/\k∉K.boxes/\parK np k=false:=by
  intro n b hb;rcases hF n b hb with hn|⟨j,x,hx,rfl⟩
  .obtain⟨h1,h2⟩:=hB n hn;rw[h1]at hb;obtain⟨b0,fk,_⟩:=Bg hb;exact .inl ⟨hn,h2,b0,fk⟩
  .obtain⟨it,src,xW,⟨xs,f,f',jC,Bi,kN⟩,xX,sK⟩:=Lr j x hx;obtain⟨⟨l,_,rj⟩,_⟩:=Gy jC;rcases Lp rj with⟨rfl,_,_,_⟩|⟨k,rfl,_,db⟩
   .exact .inr (.inl (by rw[sK];rfl))
   .obtain⟨_,h2,h3⟩:=kN k rfl;exact .inr (.inr ⟨j,x,k,_,hx,rfl,xW,sK,db,h2,h3⟩)
 refine⟨γ',⟨hR.size,hR.defers,?_,?_,?_,?_,hR.ext,hR.new,hR.here,hR.below,hR.grow,hR.os,hR.tape,hR.output,?_,λg o h=>⟨(hR.kept g o h).1,λn b hb db=>by
  have cY:=(hR.kept g o h).2;rcases gO n b hb with⟨_,e,b0,fk⟩|e|⟨j,x,k,b0,_,_,_,e,fk,_⟩
  .rw[e]at db;exact cY n b0 fk db
  .rw[e]at db;simp at db
  .rw[e]at db;exact cY k b0 fk db⟩,hR.fix⟩,?_⟩
 ·-- slots
  intro i
  have eN:(dv np K s).sl i=match K.slots.idxOf? i with
   |some j=>xg s[j]?
   |none=> .one (.one .dead):=rfl
  rw[eN];cases hq:K.slots.idxOf? i with
  |none=>exact⟨trivial,λh=>absurd rfl h⟩
  |some j=>
   have hj:=pN hq;have DH:s[j]? = B (.s (FZ K i (σ.sl i))):=by rw[<-hs,Ë (by simp;exact(kf.1 hj).1)];simp[hj]
   simp only[DH,xg];have vY:=hR.slot i;show bM S w γ' (dv np K s).bx (FZ K i (σ.sl i)) _;cases kJ:σ.sl i with
   |tup l=>exact⟨trivial,λh=>absurd rfl h⟩
   |cnd x y z=>exact⟨trivial,λh=>absurd rfl h⟩
   |und=>exact⟨trivial,λh=>absurd rfl h⟩
   |one c=>
    rw[kJ]at vY;cases c with
    |one x=>exact kL (B (.slot i)) x _ vY.1 vY.2 (λl hl=>by simp at hl;subst hl;simp[iU,kJ])
    |st ls=>
     obtain⟨cs,hu,aw,h1⟩:=vY;refine⟨cs,hu,?_,h1⟩;refine All2.map_left.2 ?_
     have:∀{ls:H Leaf}{cs:H Y},All2 (bz S w γ σ.bx) ls cs->(∀u∈cs,One u)->All2 (λx u=>bz S w γ' (dv np K s).bx (oA K Á x) u) ls cs:=by
      intro ls;induction ls with
      |nil=>intro cs h _;cases cs with|nil=>trivial|cons _ _=>exact h.elim
      |cons x ls ih=>
       intro cs h h1;cases cs with
       |nil=>exact h.elim
       |cons u cs=>exact⟨(kL Á x u h.1 (λ_=>h1 u af) af).1,ih h.2 (λv hv=>h1 v (by simp[hv]))⟩
     exact this aw h1
    |av n b xs=>obtain⟨cs,hu,bI⟩:=vY;exact⟨cs,hu,bI⟩
 ·-- boxes
  intro n b hb;rcases hF n b hb with hn|⟨j,x,hx,rfl⟩
  .obtain⟨h1,h2⟩:=hB n hn;rw[h1]at hb;unfold uT at hb;split at hb
   .rename_i ls frz mm;simp only[BS.live.injEq]at hb;subst hb;obtain⟨g,cur,e,q1,q2,q3,q4,q5,q6⟩:=hR.box n _ mm;have pK:(ls.zipIdx.map λx=>oA K (if frz=X then Á else B (Loc.cell n x.2)) x.1).length=ls.length:=af;refine⟨g,cur,e,h2.trans q1,q2,?_,by rw[pK];exact q4,q5,q6⟩;rw[pK];refine Tz 0 (λj x u hx hu=>?_) q3.length;obtain⟨u',dT,iO⟩:=q3.get j x hx;rw[hu]at dT;simp at dT;subst dT;refine(kL _ x u iO (λ_=>q4 u (kp hu)) (λl hl=>?_)).1;cases frz with
    |true=>simp at hl
    |false=>simp at hl;subst hl;simp[iU,mm,hx]
   .rename_i m t xs mm;simp only[BS.live.injEq]at hb;subst hb;obtain⟨g,cur,e,q1,q2,q3,q4⟩:=hR.box n _ mm;exact⟨g,cur,e,h2.trans q1,q2,q3,q4⟩
   .rename_i e t xs frz mm;simp only[BS.live.injEq]at hb;subst hb;obtain⟨q1,q3⟩:=hR.box n _ mm;exact⟨by rw[h2];exact q1,by rw[h2];exact q3⟩
   .simp at hb
  .obtain⟨it,src,xW,⟨xs,f,f',jC,Bi,kN⟩,xX,sK⟩:=Lr j x hx;obtain⟨⟨l,_,rj⟩,_⟩:=Gy jC;rw[xX,Bi]at hb;simp only[uV,BS.live.injEq]at hb;subst hb;rcases Lp rj with⟨rfl,bY,rfl,_⟩|⟨k,rfl,_,db⟩
   .refine AD bY ⟨[],?_,trivial,λg hg=>?_⟩
    .rw[sK];exact⟨af,.inl ⟨rfl,rfl⟩⟩
    .rw[sK]at hg;simp[blk]at hg
   .obtain⟨rfl,_,_⟩:=kN k rfl;obtain⟨q1,q3⟩:=hR.box k _ db;exact⟨by rw[sK];exact q1,by rw[sK];exact q3⟩
 ·-- own
  intro n b g hb hg;rcases gO n b hb with⟨_,h2,b0,h3⟩|h|⟨j,x,k,b0,_,_,_,h2,h3,_,h5⟩
  .rw[h2]at hg;exact hR.own n b0 g h3 hg
  .rw[h]at hg;simp at hg
  .rw[h2]at hg;rcases hR.own k b0 g h3 hg with h|h
   .exact .inl h
   .rw[h5]at h;simp at h
 ·-- apart
  intro n n' b b' g br hb aK hg az;rcases gO n b hb with⟨m1,h2,b0,h3⟩|h|⟨j,x,k,b0,hx,ϫ,hj,h2,h3,h4,_⟩
  .rw[h2]at hg;rcases gO n' b' aK with⟨_,i2,b1,i3⟩|i|⟨j',x',k',b1,_,_,_,i2,i3,i4,_⟩
   .rw[i2]at az;exact hR.apart n n' b0 b1 g br h3 i3 hg az
   .rw[i]at az;simp at az
   .rw[i2]at az;exact hR.apart n k' b0 b1 g (by rintro rfl;exact i4 m1) h3 i3 hg az
  .rw[h]at hg;simp at hg
  .rw[h2]at hg;rcases gO n' b' aK with⟨m1,i2,b1,i3⟩|i|⟨j',x',k',b1,mL,Ls,jI,i2,i3,i4,_⟩
   .rw[i2]at az;exact hR.apart k n' b0 b1 g (by rintro rfl;exact h4 m1) h3 i3 hg az
   .rw[i]at az;simp at az
   .rw[i2]at az;by_cases bO:k=k'
    .subst bO;have:=Tw dP hj jI;subst this;rw[hx]at mL;simp at mL;subst mL;exact br (ϫ.symm.trans Ls)
    .exact hR.apart k k' b0 b1 g bO h3 i3 hg az
 ·-- parameters
  intro k v hv;obtain⟨p1,p2,p3⟩:=hR.par k v hv;refine⟨p1,?_,?_⟩
  .by_cases hk:k∈K.boxes
   .rw[(hB k hk).1];exact Bh
   .rw[fa]
    have wa:K.boxes.idxOf? k=none:=by
     cases hq:K.boxes.idxOf? k with
     |none=>rfl
     |some i=>exact absurd (kp (pN hq)) hk
    simp only[wa];split
    .rename_i j hq;have hj:=pN hq;simp only[qt]at hj;cases hx:K.lists[j]? with
     |none=>simp[hx]at hj
     |some x=>simp[hx]at hj;have:=vZ j x hx;rw[hj,p1]at this;simp at this
    .simp[p1]
  .by_cases hk:k∈K.boxes
   .rw[(hB k hk).2];exact p3
   .have wa:K.boxes.idxOf? k=none:=by
     cases hq:K.boxes.idxOf? k with
     |none=>rfl
     |some i=>exact absurd (kp (pN hq)) hk
    simp only[γ',wa];split
    .rename_i j hq;have hj:=pN hq;simp only[qt]at hj;cases hx:K.lists[j]? with
     |none=>simp[hx]at hj
     |some x=>simp[hx]at hj;have:=vZ j x hx;rw[hj,p1]at this;simp at this
    .exact p3
 .intro i;show ((match K.slots.idxOf? i with|some j=>xg s[j]?|none=>Slot.one (.one .dead)):Slot).bare=X;split
  .unfold xg;split<;>rfl
  .rfl
theorem wb{K:Keep}{s:Snap}(hR:Rel N np S0 w0 refs σ a w S γ)(hc:dn σ)(hs:jM np K σ=B s):∃S' γ',Rel N np S0 w0 refs (dv np K s) a w S' γ'/\dn (dv np K s):=by
 unfold jM at hs;split at hs
 .rename_i σ1 h1;split at hs
  .rename_i σ2 h2;obtain⟨S1,bB,eS⟩:=Ln _ _ _ _ hR hc h1;obtain⟨S2,cB,fy⟩:=DF _ _ _ _ bB eS h2;obtain⟨γ',fI,tY⟩:=ϩ cB hs;exact⟨S2,γ',fI,tY⟩
  .simp at hs
 .simp at hs
end
def RdLe(rd bH:G->BS):Prop:=∀k,rd k=bH k\/rd k = .gone
theorem RdLe.live{rd bH:G->BS}(h:RdLe rd bH){k:G}{b:Bx}(hk:rd k = .live b):bH k = .live b:=by
 rcases h k with h|h
 .rw[<-h];exact hk
 .rw[h]at hk;simp at hk
theorem RdLe.free{rd bH:G->BS}(h:RdLe rd bH){k:G}(hk:gT (rd k)=X):gT (bH k)=true:=by
 rcases h k with h|h
 .rw[<-h];exact hk
 .rw[h]at hk;simp[gT]at hk
theorem RdLe.isLive{rd bH:G->BS}(h:RdLe rd bH){k:G}(hk:isLive (rd k)=X):isLive (bH k)=true:=by
 rcases h k with h|h
 .rw[<-h];exact hk
 .rw[h]at hk;simp[Lft.isLive]at hk
theorem RdLe.rdf{rd bH:G->BS}(h:RdLe rd bH)(np:G):RdLe (λk=>if parK np k then .gone else rd k) (λk=>if parK np k then .gone else bH k):=by
 intro k;dsimp only;split
 .exact .inl rfl
 .exact h k
theorem RdLe.msk{rd bH:G->BS}(h:RdLe rd bH):RdLe (mskM rd) (mskM bH):=by
 intro k;rcases h k with h|h
 .left;unfold mskM;rw[h]
 .right;unfold mskM;rw[h]
theorem Lt(M:H G)(rd:G->BS):RdLe (jG M rd) rd:=by
 intro k;unfold jG;split
 .exact .inr rfl
 .exact .inl rfl
section
variable{rd bH:G->BS}(hle:RdLe rd bH)
include hle
theorem Ϭ{t:Ty}{l:Leaf}{x}(h:kE rd t l=B x):kE bH t l=B x:=by
 unfold kE at h ⊢;split at h
 .exact h
 .exact h
 .split at h
  .rename_i hk;rw[hle.live hk];exact h
  .simp at h
 .simp at h
theorem ϭ{l:Leaf}{n:G}(h:lenL rd l=B n):lenL bH l=B n:=by
 unfold lenL at h ⊢;split at h
 .simp at h
 .exact h
 .split at h
  .rename_i hk;rw[hle.live hk];exact h
  .rename_i hk;rw[hle.live hk];exact h
  .simp at h
 .simp at h
theorem Ϯ{t:Ty}{l:Leaf}{x}(h:kE rd t l=B x):lenL bH l=lenL rd l:=by
 cases l with
 |ol k=>
  simp only[kE]at h;split at h
  .rename_i hk;simp only[lenL,hk,hle.live hk]
  .simp at h
 |d t' v=>cases t'<;>first|rfl|(rename_i b;cases b<;>rfl)
 |_=>rfl
theorem TA{t:Ty}{l:Leaf}{x}(h:jL rd t l=B x):jL bH t l=B x:=by
 unfold jL at h ⊢;cases hH:lK rd t l with
 |some v=>
  rw[hH]at h
  have:lK bH t l=B v:=by
   unfold lK at hH ⊢;split at hH
   .rename_i n hn;rw[ϭ hle hn];exact hH
   .simp at hH
  rw[this];exact h
 |none=>
  rw[hH]at h;have:lK bH t l=none:=by unfold lK at hH ⊢;rw[Ϯ hle h];exact hH
  rw[this];exact Ϭ hle h
theorem Gz:∀(t:Ty){ls:H Leaf}{x},gath rd t ls=B x->gath bH t ls=B x:=by
 intro t;induction t with
 |unit=>intro ls x h;simpa[gath]using h
 |wrap a ih=>
  intro ls x h;simp only[gath]at h ⊢;split at h
  .rename_i hg;rw[ih hg];exact h
  .simp at h
 |pair a b su sv=>
  intro ls x h;simp only[gath]at h ⊢;split at h
  .rename_i hg;rw[su hg];dsimp only;split at h
   .rename_i gC;rw[sv gC];exact h
   .simp at h
  .simp at h
 |arr n a ih=>intro ls x h;simp[gath]at h
 |_=>
  intro ls x h;cases ls with
  |nil=>simp[gath]at h
  |cons l ls=>
   simp only[gath]at h ⊢;split at h
   .rename_i hl;rw[TA hle hl];exact h
   .simp at h
theorem Lu{t:Ty}{c:Cel}{x}(h:px rd t c=B x):px bH t c=B x:=by
 unfold px at h ⊢;split at h
 .split at h
  .simp at h
  .rename_i ha;simp only[ha,zi,qd];split at h
   .rename_i hg;rw[Gz hle _ hg];exact h
   .simp at h
 .split at h
  .rename_i ha;simp only[ha,if_true];split at h
   .rename_i hg;rw[Gz hle _ hg];exact h
   .simp at h
  .simp at h
 .exact h
theorem ϯ{ti:TyI}{l:Leaf}{x}(h:ou rd ti l=B x):ou bH ti l=B x:=by
 unfold ou at h ⊢;split at h
 .split at h
  .rename_i hk;rw[hle.live hk];exact h
  .rename_i hk;rw[hle.live hk];exact h
  .simp at h
 .split at h
  .rename_i hk;rw[hle.live hk];exact h
  .rename_i hk;rw[hle.live hk];exact h
  .rename_i hk;rw[hle.live hk];exact h
  .simp at h
 .exact h
 .simp at h
theorem ϰ{ti:TyI}{i:G}{l:Leaf}{x}(h:py rd ti i l=B x):py bH ti i l=B x:=by
 unfold py at h ⊢;split at h
 .split at h
  .split at h
   .rename_i hl;simp only[hle.isLive hl,if_true];exact h
   .simp at h
  .simp at h
 .split at h
  .split at h
   .rename_i hl;simp only[hle.isLive hl,if_true];exact h
   .simp at h
  .simp at h
 .exact h
 .simp at h
theorem ϱ{ti:TyI}{l i:Leaf}{x}(h:tc rd ti l i=B x):tc bH ti l i=B x:=by
 unfold tc at h ⊢;split at h
 .split at h
  .rename_i hk;rw[hle.live hk];exact h
  .rename_i hk;rw[hle.live hk];exact h
  .simp at h
 .exact h
 .split at h
  .rename_i hk;rw[hle.live hk];exact h
  .rename_i hk;rw[hle.live hk];exact h
  .simp at h
 .split at h
  .rename_i hk;rw[hle.live hk];exact h
  .simp at h
 .simp at h
theorem TB(a:Ty):∀{ls:H Leaf}{x},sY rd a ls=B x->sY bH a ls=B x
 |[],_,h=>h
 |l::ls,x,h=>by
  simp only[sY]at h ⊢;split at h
  .rename_i h1 h2;rw[TA hle h1,TB a h2];exact h
  .simp at h
theorem ϲ{t:O Ty}{l:Leaf}{x}(h:sZ rd t l=B x):sZ bH t l=B x:=by
 unfold sZ at h ⊢;split at h
 .split at h
  .split at h
   .rename_i hi;rw[if_pos hi];split at h
    .rename_i hk;rw[hle.live hk];exact h
    .simp at h
   .simp at h
  .simp at h
 .simp at h
theorem ϳ{ti:TyI}{l:Leaf}{c:Cel}(h:sZ rd ti.ty l=Á)(hc:ou rd ti l=B c):sZ bH ti.ty l=none:=by
 unfold sZ at h ⊢;split at h
 .rename_i k;split at h
  .rename_i m el bD;split at h
   .rename_i hi;rw[if_pos hi];simp only[ou]at hc;split at hc
    .rename_i ls frz hk;rw[hle.live hk];cases frz with
     |true=>rfl
     |false=>rw[hk]at h;simp at h
    .rename_i hk;rw[hle.live hk]
    .simp at hc
   .rename_i hi;rw[if_neg hi]
  .rfl
 .rfl
theorem Lv(a:Ty):∀(ps:H (G×Cel)){xs:H a.den}{u:Ups}{x},kF rd a xs u ps=B x->kF bH a xs u ps=B x
 |[],_,_,_,h=>h
 |(i,c)::r,xs,u,x,h=>by
  simp only[kF]at h ⊢;split at h
  .rename_i hd;rw[Lu hle hd];dsimp only;split at h
   .rename_i hi;simp only[hi,if_true];exact Lv a r h
   .simp at h
  .simp at h
theorem ϴ{t:O Ty}{l:Leaf}{x}(h:lenC rd t l=B x):lenC bH t l=B x:=by
 unfold lenC at h ⊢;split at h
 .exact h
 .split at h
  .rename_i hk;rw[hle.live hk];exact h
  .rename_i hk;rw[hle.live hk];exact h
  .simp at h
 .exact h
 .exact h
 .split at h
  .rename_i hk;rw[hle.live hk];exact h
  .simp at h
 .split at h
  .rename_i hk;rw[hle.live hk];exact h
  .simp at h
 .simp at h
theorem ϵ{e:G}{a:Ty}{s l:Leaf}{x}(h:appH rd e a s l=B x):appH bH e a s l=B x:=by
 unfold appH at h ⊢;split at h
 .split at h
  .rename_i bO;rw[if_pos bO];split at h
   .rename_i hk;rw[hle.live hk];exact h
   .simp at h
  .simp at h
 .simp at h
omit hle in
theorem Ϸ{e e':G}{a a':Ty}{s l:Leaf}{x}(h:appS rd e a s=B x):appH bH e' a' s l=none:=by
 unfold appS at h;split at h
 .rfl
 .rfl
 .simp at h
omit hle in
theorem ϸ{fr TC:Æ}(hf:fr=X->TC=X){e:G}{a:Ty}{n len:G}{ps:H (G×Cel)}{x}(h:one1 fr e a n len ps=B x):one1 TC e a n len ps=B x:=by
 unfold one1 at h ⊢;split at h
 .split at h
  .split at h
   .rename_i hc;rw[if_pos ⟨hc.1,hc.2.1,hc.2.2.1,hf hc.2.2.2.1,hc.2.2.2.2⟩];exact h
   .simp at h
  .simp at h
 .simp at h
omit hle in
theorem Ϲ{rdf dQ:G->BS}(eZ:RdLe rdf dQ){e:G}{a:Ty}{l:Leaf}{x}(h:rowS rdf e a l=B x):rowS dQ e a l=B x:=by
 unfold rowS at h ⊢;split at h
 .exact h
 .split at h
  .rename_i hk;rw[eZ.live hk];exact h
  .simp at h
 .simp at h
theorem Ϻ{rdf dQ:G->BS}(eZ:RdLe rdf dQ){e:G}{a:Ty}{n:G}{s l:Leaf}{x}(h:appN rd rdf e a n s l=B x):appN bH dQ e a n s l=B x:=by
 unfold appN at h ⊢;split at h
 .split at h
  .rename_i hk;rw[eZ.live hk];dsimp only;split at h
   .rename_i hr;rw[Ϲ eZ hr];dsimp only;split at h
    .rename_i hc;rw[if_pos ⟨hc.1,hc.2.1,hc.2.2.1,hle.free hc.2.2.2⟩];exact h
    .simp at h
   .simp at h
  .simp at h
 .simp at h
omit hle in
theorem ϻ{rdf:G->BS}{e e':G}{a a':Ty}{n:G}{s l:Leaf}{x}(h:appN rd rdf e a n s l=B x):appH bH e' a' s l=none:=by
 unfold appN at h;split at h
 .unfold appH;split
  .rename_i hc;cases hc
  .rfl
 .simp at h
omit hle in
theorem Ā{dQ TD:G->BS}(fe:∀k,dQ k = .gone\/dQ k=TD k){e:G}{a a':Ty}{n:G}{s l:Leaf}{x}(h:appX TD a l=B x):appN rd dQ e a' n s l=none:=by
 unfold appN;split
 .rename_i k;unfold appX at h;dsimp only at h;split at h
  .rename_i hk;rcases fe k with h1|h1
   .rw[h1]
   .rw[h1,hk]
  .simp at h
 .rfl
theorem ā{ti:TyI}{l m:Leaf}{lo hi:O Leaf}{x}(h:Ao rd ti l lo hi m=B x):Ao bH ti l lo hi m=B x:=by
 unfold Ao at h ⊢;split at h
 .split at h
  .rename_i hk;rw[hle.live hk];exact h
  .simp at h
 .simp at h
theorem Ă{e:G}{a:Ty}{l:Leaf}{x}(h:appS rd e a l=B x):appS bH e a l=B x:=by
 unfold appS at h ⊢;split at h
 .split at h
  .rename_i hk;rw[hle.live hk];exact h
  .simp at h
 .exact h
 .simp at h
theorem Lw{a:Ty}{l:Leaf}{x}(h:appX rd a l=B x):appX bH a l=B x:=by
 unfold appX at h ⊢;split at h
 .split at h
  .rename_i hk;rw[hle.live hk];exact h
  .simp at h
 .exact h
 .exact h
 .split at h
  .rename_i hk;rw[hle.live hk];exact h
  .simp at h
 .simp at h
theorem ă{t:O Ty}{l m:Leaf}{x}(h:Ap rd t l m=B x):Ap bH t l m=B x:=by
 unfold Ap at h ⊢;split at h
 .split at h
  .rename_i hk;rw[hle.live hk];dsimp only;split at h
   .rename_i ht;rw[if_pos ht];split at h
    .rename_i hy;rw[Lw hle hy];exact h
    .simp at h
   .simp at h
  .simp at h
 .simp at h
theorem Ą{t:O Ty}{l:Leaf}{x}(h:Aq rd t l=B x):Aq bH t l=B x:=by
 unfold Aq at h ⊢;split at h
 .split at h
  .rename_i hk;rw[hle.live hk];exact h
  .simp at h
 .simp at h
theorem GA:∀(ls:H Leaf){x},tvs rd ls=B x->tvs bH ls=B x
 |[],_,h=>h
 |l::ls,x,h=>by
  simp only[tvs]at h ⊢;split at h
  .rename_i hr;rw[GA ls hr];dsimp only;split at h
   .exact h
   .split at h
    .rename_i hk;rw[hle.live hk];exact h
    .simp at h
   .simp at h
  .simp at h
theorem TE:∀(cs:H Cel){x},uP rd cs=B x->uP bH cs=B x
 |[],_,h=>h
 |c::cs,x,h=>by
  simp only[uP]at h ⊢;split at h
  .rename_i hr;rw[TE cs hr];dsimp only;split at h
   .exact h
   .split at h
    .rename_i hk;rw[hle.live hk];dsimp only;split at h
     .rename_i ht;rw[GA hle _ ht];exact h
     .simp at h
    .simp at h
   .simp at h
  .simp at h
end
theorem ą{rd bH rdf dQ:G->BS}(hle:RdLe rd bH)(eZ:RdLe rdf dQ){n:G}{c:Cel}{l:Leaf}{x}(h:uO rd rdf n c l=B x):uO bH dQ n c l=B x:=by
 unfold uO at h ⊢;split at h
 .split at h
  .rename_i hk;rw[hle.live hk];exact h
  .rename_i hk;rw[hle.live hk];exact h
  .simp at h
 .split at h
  .rename_i hk;rw[hle.live hk];dsimp only;split at h
   .split at h
    .rename_i hi;rw[if_pos hi];split at h
     .rename_i hg;rw[Gz eZ _ hg];exact h
     .simp at h
    .simp at h
   .simp at h
  .rename_i hk;rw[hle.live hk];dsimp only;split at h
   .split at h
    .rename_i hi;rw[if_pos hi];split at h
     .rename_i hg;rw[Gz eZ _ hg];exact h
     .simp at h
    .simp at h
   .simp at h
  .rename_i hk;rw[hle.live hk];exact h
  .simp at h
 .simp at h
theorem Ć{par:G->Æ}{rd bH:G->BS}(hle:RdLe rd bH){ti:TyI}{n:G}{l:Leaf}{lo hi:O Leaf}{x}(h:An par rd ti n l lo hi=B x):An par bH ti n l lo hi=B x:=by
 unfold An at h ⊢;split at h
 .exact h
 .split at h
  .split at h
   .rename_i hk;rw[hle.live hk];exact h
   .simp at h
  .split at h
   .rename_i hk;rw[hle.live hk];dsimp only;split at h
    .rename_i bD;rw[if_pos bD];split at h
     .split at h
      .rename_i hp;rw[if_pos hp];exact h
      .rename_i hp;rw[if_neg hp];split at h
       .rename_i hl;rw[if_pos hl];split at h
        .rename_i hf;rw[if_pos (hle.free hf)];exact h
        .simp at h
       .rename_i hl;rw[if_neg hl];exact h
     .simp at h
    .simp at h
   .simp at h
 .split at h
  .rename_i hk;rw[hle.live hk];exact h
  .simp at h
 .simp at h
theorem ć{rd bH rdf dQ:G->BS}(hle:RdLe rd bH)(eZ:RdLe rdf dQ){t:O TyI}{mv rl:Æ}{c:Cel}{x}(h:uQ rd rdf t mv rl c=B x):uQ bH dQ t mv rl c=B x:=by
 unfold uQ at h ⊢;split at h
 .split at h
  .rename_i hk;rw[hle.live hk];dsimp only;split at h
   .rename_i ht;rw[GA eZ _ ht];exact h
   .simp at h
  .rename_i hk;rw[hle.live hk];dsimp only;split at h
   .rename_i ht;rw[GA eZ _ ht];exact h
   .simp at h
  .simp at h
 .exact h
 .exact h
 .split at h
  .cases mv with
   |true=>
    simp only[jc]at h ⊢;split at h
    .rename_i hk;rw[eZ.live hk];exact h
    .simp at h
   |false=>
    simp only[jd]at h ⊢;split at h
    .rename_i hk;rw[hle.live hk];exact h
    .simp at h
  .split at h
   .rename_i hk;rw[eZ.live hk];exact h
   .simp at h
 .split at h
  .split at h
   .split at h
    .rename_i hd;rw[Lu eZ hd];exact h
    .simp at h
   .simp at h
  .simp at h
theorem Lx{rd bH rdf dQ:G->BS}(hle:RdLe rd bH)(eZ:RdLe rdf dQ){T:G->O TyI}{mv:Æ}:∀(cs:H Cel){ts:H G}{ms:H Æ}{x},ow rd rdf T mv ts ms cs=B x->ow bH dQ T mv ts ms cs=B x
 |[],_,_,_,h=>h
 |c::cs,ts,ms,x,h=>by
  simp only[ow]at h ⊢;split at h
  .rename_i ha;rw[ć hle eZ ha];dsimp only;split at h
   .rename_i hr;rw[Lx hle eZ cs hr];exact h
   .simp at h
  .simp at h
theorem Ĉ{rd bH rdf dQ:G->BS}(hle:RdLe rd bH)(eZ:RdLe rdf dQ){n m:G}{us:Ups}{fs:H Bk}{os:H Out}{x}(h:mkHd rd rdf n us fs m os=B x):mkHd bH dQ n us fs m os=B x:=by
 unfold mkHd at h ⊢;split at h
 .split at h
  .split at h
   .rename_i hf;simp only[ji]at hf;rw[if_pos (by simp only[ji];exact⟨hle.free hf.1,eZ.isLive hf.2⟩)];exact h
   .simp at h
  .simp at h
 .simp at h
theorem TF{rd bH rdf dQ:G->BS}(hle:RdLe rd bH)(eZ:RdLe rdf dQ){n:G}{us:Ups}{fs:H Bk}{r:Ret}{x}(h:td rd rdf n us fs r=B x):td bH dQ n us fs r=B x:=by
 unfold td at h ⊢;split at h
 .exact Ĉ hle eZ h
 .unfold Cs at h ⊢;split at h
  .split at h
   .rename_i hf;simp only[ji]at hf;rw[if_pos (by simp only[ji];exact⟨hf.1,ka.2 λe he=>hle.free (ka.1 hf.2 e he)⟩)];exact h
   .simp at h
  .simp at h
 .split at h
  .split at h
   .split at h
    .rename_i hf;rw[if_pos (ka.2 λe he=>hle.free (ka.1 hf e he))];exact h
    .simp at h
   .simp at h
  .simp at h
inductive ActLe:Act->Act->Prop
 |val (chk:Æ) (s:Slot) (u:Ups):ActLe (.val chk s u) (.val chk s u)
 |call (f:G) (args:H Arg) (mk mk':Ret->O (Slot×Ups)):(∀r x,mk r=B x->mk' r=B x)->ActLe (.call f args mk) (.call f args mk')
theorem ActLe.refl(x:Act):ActLe x x:=by cases x with
 |val chk s u=>exact .val chk s u
 |call f args mk=>exact .call f args mk mk λ_ _ h=>h
theorem TH{x y:O Leaf}(h:∀z,x=B z->y=B z){r:Act}(hr:mW x=B r):mW y=B r:=by
 cases x with
 |none=>simp[mW]at hr
 |some z=>rw[h z rfl];exact hr
theorem ĉ{x y:O (Æ×Leaf)}(h:∀z,x=B z->y=B z){r:Act}(hr:oChk x=B r):oChk y=B r:=by
 cases x with
 |none=>simp[oChk]at hr
 |some z=>rw[h z rfl];exact hr
theorem TI{rd bH:G->BS}(hle:RdLe rd bH){t:G}{k v:Ty}{x y:Leaf}{z}(h:mapC rd t k v x y=B z):mapC bH t k v x y=B z:=by
 unfold mapC at h ⊢;split at h
 .split at h
  .rename_i hb;simp only[hle.live hb];exact h
  .simp at h
 .simp at h
theorem TJ{E:Env}{ev:Ô->Slot}{rd bH:G->BS}(ix:RdLe rd bH){act:H (G×Æ)}{o:Ä}{A:Act}(h:dY E ev rd act o=B A):∃A',dY E ev bH act o=B A'/\ActLe A A':=by
 have hle:=ix.msk;have eZ:=hle.rdf E.np;have fe:∀k,(if parK E.np k then BS.gone else mskM bH k) = .gone\/(if parK E.np k then BS.gone else mskM bH k)=mskM bH k:=λk=>by by_cases hp:parK E.np k=X<;>simp[hp]
 have same:dY E ev bH act o=B A->∃A',dY E ev bH act o=B A'/\ActLe A A':=λh=>⟨A,h,.refl A⟩;obtain⟨dst,op,type,pos,after,guard⟩:=o;cases op
 case alloc t=>
  refine same ?_;simp only[dY]at h ⊢;split at h
  .split at h
   .rename_i hf;simp only[hle.free hf,if_true];exact h
   .simp at h
  .simp at h
 case box t x=>
  refine same ?_;simp only[dY]at h ⊢;split at h
  .rename_i hf;simp only[hle.free hf,if_true];exact h
  .simp at h
 case build t ps=>
  refine same ?_;simp only[dY]at h ⊢;split at h
  .split at h
   .split at h
    .rename_i hi;simp only[hi,if_true];exact h
    rename_i hi;rw[if_neg hi];split at h
    .rename_i hb;rw[Lv eZ _ _ hb];exact h
    .simp at h
   .exact h
   .simp at h
  .simp at h
 case buildSlice t n ps=>
  refine same ?_;simp only[dY]at h ⊢;split at h
  .split at h
   .split at h
    .rename_i dG;rw[if_pos dG];exact ϸ hle.free h
    rename_i dG;rw[if_neg dG];split at h
    .simp at h
    .rename_i hn;simp only[hn,zi];split at h
     .rename_i hb;rw[Lv eZ _ _ hb];dsimp only;split at h
      .rename_i hf;simp only[hle.free hf,if_true];exact h
      .simp at h
     .simp at h
   .simp at h
  .simp at h
 case load t x=>
  refine same ?_;simp only[dY]at h ⊢;split at h
  .split at h
   .rename_i rj;split at h
    .rename_i hg;rw[ϲ hle rj];dsimp only;rw[TB eZ _ hg];exact h
    .simp at h
   .rename_i rj;cases tD:ou (mskM rd) _ (lf ((ev x).cel act)) with
    |none=>rw[tD]at h;simp[oCel]at h
    |some c=>rw[ϳ hle rj tD,ϯ hle tD];rw[tD]at h;exact h
  .simp at h
 case store t x y=>
  refine same ?_;simp only[dY]at h ⊢;split at h
  .split at h
   .rename_i hs;rw[ą hle eZ hs];exact h
   .simp at h
  .simp at h
 case nilCheck x=>
  refine same ?_;simp only[dY]at h ⊢;split at h
  .split at h
   .rename_i hl;simp only[hle.isLive hl,if_true];exact h
   .simp at h
  .split at h
   .rename_i hl;simp only[hle.isLive hl,if_true];exact h
   .simp at h
  .exact h
  .simp at h
 case makeFunc fn first captured=>
  refine same ?_;cases fn with
  |func f=>
   simp only[dY]at h ⊢;split at h
   .rename_i hf;simp only[hf,if_true];split at h
    .rename_i qY;simp only[qY,if_true];exact h
    .rename_i qY;simp only[qY];split at h
     .rename_i hc;rw[TE eZ _ hc];exact h
     .simp at h
   .simp at h
  |_=>simp[dY]at h
 case fieldAddr t x i=>
  refine same ?_;simp only[dY]at h ⊢;split at h
  .exact TH (λz hz=>ϰ hle hz) h
  .simp at h
 case indexAddr t x i=>
  refine same ?_;simp only[dY]at h ⊢;split at h
  .exact ĉ (λz hz=>ϱ hle hz) h
  .simp at h
 case call c=>
  simp only[dY]at h ⊢;cases hc:c.callee with
  |invoke r m=>simp[hc]at h
  |value f=>
   simp only[hc]at h ⊢;split at h
   .split at h
    .rename_i ha;rw[Lx ix eZ _ ha];dsimp only;split at h
     .rename_i hb;simp only[hb,if_true];simp only[jb]at h;subst h;exact⟨_,rfl,.call _ _ _ _ λr x hx=>TF hle eZ hx⟩
     .simp at h
    .simp at h
   .split at h
    .rename_i ha;rw[Lx ix eZ _ ha];dsimp only;split at h
     .rename_i hb;simp only[hb,if_true];simp only[jb]at h;subst h;exact⟨_,rfl,.call _ _ _ _ λr x hx=>TF hle eZ hx⟩
     .simp at h
    .simp at h
   .simp at h
  |builtin b=>
   simp only[hc]at h ⊢;cases b
   case len=>
    refine⟨A,?_,.refl A⟩;dsimp only at h ⊢;split at h
    .split at h
     .exact TH (λz hz=>ϴ hle hz) h
     .simp at h
    .simp at h
   case append=>
    refine⟨A,?_,.refl A⟩;dsimp only at h ⊢;split at h
    .split at h
     .rename_i ht;rw[if_pos ht];split at h
      .split at h
       .rename_i bD;split at h
        .rename_i hh;rw[ϵ hle hh];exact h
        split at h
        .rename_i hh;rw[ϻ hh];dsimp only;rw[Ϻ hle eZ hh];exact h
        split at h
        .rename_i h1 h2;rw[Ϸ h1];dsimp only;rw[Ā fe (Lw hle h2),Ă eZ h1,Lw hle h2];dsimp only;split at h
         .rename_i hf;simp only[hle.free hf,if_true];exact h
         .simp at h
        .simp at h
       .simp at h
      .simp at h
     .simp at h
    .simp at h
   case copy=>
    refine⟨A,?_,.refl A⟩;dsimp only at h ⊢;split at h
    .split at h
     .rename_i ht;rw[if_pos ht];split at h
      .split at h
       .rename_i hq;rw[ă hle hq];exact h
       .simp at h
      .simp at h
     .simp at h
    .simp at h
   case clear=>
    refine⟨A,?_,.refl A⟩;dsimp only at h ⊢;split at h
    .split at h
     .split at h
      .rename_i hq;rw[Ą hle hq];exact h
      .simp at h
     .simp at h
    .simp at h
   all_goals exact⟨A,h,.refl A⟩
 case slice t x lo hi mx=>
  refine same ?_;cases mx with
  |some m=>
   simp only[dY]at h ⊢;split at h
   .split at h
    .rename_i hq;rw[ā hle hq];exact h
    .simp at h
   .simp at h
  |none=>
   simp only[dY]at h ⊢;split at h
   .split at h
    .rename_i hq;rw[Ć hle hq];exact h
    .simp at h
   .simp at h
 case makeMap t x=>
  refine same ?_;cases x with
  |some m=>simp[dY]at h
  |none=>
   simp only[dY]at h ⊢;split at h
   .split at h
    .rename_i hf;simp only[hle.free hf,if_true];exact h
    .simp at h
   .simp at h
 case lookup t x i ok=>
  refine same ?_;simp only[dY]at h ⊢;split at h
  .split at h
   .rename_i hq;rw[TI ix hq];exact h
   .simp at h
  .simp at h
 case mapUpdate t x i y=>
  refine same ?_;simp only[dY]at h ⊢;split at h
  .split at h
   .rename_i hq hd;rw[TI ix hq,Lu eZ hd];exact h
   .simp at h
  .simp at h
 all_goals exact⟨A,h,.refl A⟩
section
variable{N:NT}{np:G}{S0:aU}{w0:Z}{refs:Refs}{σ:St}{a:À}{w:Z}{S:aU}{γ:G->Y}
def CFun(C:G->H Arg->(R:Type)->(Ret->O R)->O R):Prop:=
 ∀f args,∃o:O Ret,∀(R:Type)(k:Ret->O R),C f args R k=o.bind k
theorem TK{E:Env}{ev pO:Ô->Slot}{rd:G->BS}{act:H (G×Æ)}{o:Ä}(h:∀x∈o.op.operands,ev x=pO x):dY E ev rd act o=dY E pO rd act o:=by
 have wc:∀ps:Ã (G×Ô),(∀x∈ps.toList.map (·.2),ev x=pO x)->
   (ps.toList.map λp=>(p.1,(ev p.2).cel act))=(ps.toList.map λp=>(p.1,(pO p.2).cel act)):=λps hp=>
  é λp hm=>by simp only[hp p.2 (ki.2 ⟨p,hm,rfl⟩)]
 have args:∀ps:Ã Ô,(∀x∈ps,ev x=pO x)->(ps.toList.map λp=>(ev p).cel act)=(ps.toList.map λp=>(pO p).cel act):=λps hp=>
  é λp hm=>by rw[hp p (by simpa using hm)]
 obtain⟨dst,op,type,pos,after,guard⟩:=o;cases op<;>simp only[Op.operands]at h<;>simp only[dY]
 case build t ps=>rw[wc ps λx hx=>h x (by simpa using hx)]
 case buildSlice t n ps=>rw[wc ps λx hx=>h x (by simpa using hx)]
 case makeFunc fn first captured=>
  have e:=args captured λx hx=>h x (by simp[hx]);cases fn with
  |func f=>simp only[e]
  |_=>rfl
 case call c=>
  have ha:=args c.args (λx hx=>h x (by simp[Call.operands,hx]));have oM:∀x∈c.args.toList,ev x=pO x:=λx hx=>h x (by simp[Call.operands];right;simpa using hx);simp only[ha];cases hc:c.callee with
  |value f=>have hf:ev f=pO f:=h f (by simp[Call.operands,hc]);simp only[hf]
  |invoke r m=>rfl
  |builtin b=>
   cases b<;>simp only
   case len=>
    split
    .rename_i x t fX nv;have:=oM x (by rw[fX];simp);simp only[this]
    .rfl
   case append=>
    split
    .rename_i t t' s x nv fX;have e1:=oM s (by rw[fX];simp);have e2:=oM x (by rw[fX];simp);simp only[e1,e2]
    .rfl
   case copy=>
    split
    .rename_i t t' s x nv fX;have e1:=oM s (by rw[fX];simp);have e2:=oM x (by rw[fX];simp);simp only[e1,e2]
    .rfl
   case clear=>
    split
    .rename_i t x nv fX;have e1:=oM x (by rw[fX];simp);simp only[e1]
    .rfl
 case slice t x lo hi mx=>
  have e1:=h x af
  have eo:∀y:O Ô,(∀z,y=B z->ev z=pO z)->(y.map λx=>lf ((ev x).cel act))=(y.map λx=>lf ((pO x).cel act)):=by
   intro y hy;cases y with
   |none=>rfl
   |some z=>simp only[qa,hy z rfl]
  have e2:=eo lo (λz hz=>h z (by simp[hz]));have e3:=eo hi (λz hz=>h z (by simp[hz]));cases mx with
  |some m=>have e4:=h m af;simp only[e1,e2,e3,e4]
  |none=>simp only[e1,e2,e3]
 case makeMap t x=>cases x<;>rfl
 all_goals (first|rfl|(simp_all;done))
def ShEq:BS->BS->Prop
 |.live (.cell _ _),.live (.cell _ _)=>True
 |.live (.lst e a xs _),.live (.lst e' a' dg _)=>e=e'/\a=a'/\xs.length=dg.length
 |.live (.arr n a _),.live (.arr n' a' _)=>n=n'/\a=a'
 |.live (.row e a n _),.live (.row e' a' n' _)=>e=e'/\a=a'/\n=n'
 |.free,.free=>True
 |.gone,.gone=>True
 |_,_=>False
theorem ShEq.refl:∀b:BS,ShEq b b
 |.live (.cell _ _)=>trivial
 |.live (.lst _ _ _ _)=>⟨rfl,rfl,rfl⟩
 |.live (.arr _ _ _)=>⟨rfl,rfl⟩
 |.live (.row _ _ _ _)=>⟨rfl,rfl,rfl⟩
 |.free=>trivial
 |.gone=>trivial
theorem ShEq.symm{b c:BS}(h:ShEq b c):ShEq c b:=by
 cases b with
 |free=>cases c<;>simp_all[ShEq]
 |gone=>cases c<;>simp_all[ShEq]
 |live b=>
  cases c with
  |free=>cases b<;>simp[ShEq]at h
  |gone=>cases b<;>simp[ShEq]at h
  |live c=>
   cases b<;>cases c<;>simp only[ShEq]at h ⊢
   .exact⟨h.1.symm,h.2.1.symm,h.2.2.symm⟩
   .exact⟨h.1.symm,h.2.symm⟩
   .exact⟨h.1.symm,h.2.1.symm,h.2.2.symm⟩
theorem ShEq.trans{b c d:BS}(h:ShEq b c)(h':ShEq c d):ShEq b d:=by
 cases b with
 |free=>cases c with
  |free=>exact h'
  |gone=>simp[ShEq]at h
  |live c=>cases c<;>simp[ShEq]at h
 |gone=>cases c with
  |gone=>exact h'
  |free=>simp[ShEq]at h
  |live c=>cases c<;>simp[ShEq]at h
 |live b=>cases c with
  |free=>cases b<;>simp[ShEq]at h
  |gone=>cases b<;>simp[ShEq]at h
  |live c=>cases d with
   |free=>cases c<;>simp[ShEq]at h'
   |gone=>cases c<;>simp[ShEq]at h'
   |live d=>
    cases b<;>cases c<;>simp only[ShEq]at h<;>cases d<;>simp only[ShEq]at h' ⊢
    .exact⟨h.1.trans h'.1,h.2.1.trans h'.2.1,h.2.2.trans h'.2.2⟩
    .exact⟨h.1.trans h'.1,h.2.trans h'.2⟩
    .exact⟨h.1.trans h'.1,h.2.1.trans h'.2.1,h.2.2.trans h'.2.2⟩
theorem ShEq.mask{rd bH:G->BS}{M:H G}(h:∀k,M.contains k=U->ShEq (rd k) (bH k))(k:G):ShEq (jG M rd k) (jG M bH k):=by
 unfold jG;split
 .trivial
 .rename_i hc;exact h k (by simpa using hc)
theorem GB{b c:BS}(h:ShEq b c):isLive b=isLive c:=by
 cases b with
 |free=>cases c<;>simp_all[ShEq,isLive]
 |gone=>cases c<;>simp_all[ShEq,isLive]
 |live b=>cases c with
  |free=>cases b<;>simp[ShEq]at h
  |gone=>cases b<;>simp[ShEq]at h
  |live c=>rfl
theorem Ċ{rd bH:G->BS}(h:∀k,ShEq (rd k) (bH k))(ti:TyI)(l i:Leaf):tc rd ti l i=tc bH ti l i:=by
 unfold tc;split
 .rename_i k _ _;have hk:=h k;generalize rd k=b at hk;generalize bH k=c at hk;cases b with
  |free=>cases c<;>simp_all[ShEq]
  |gone=>cases c<;>simp_all[ShEq]
  |live b=>cases c with
   |free=>cases b<;>simp[ShEq]at hk
   |gone=>cases b<;>simp[ShEq]at hk
   |live c=>
    cases b with
    |lst e a xs f=>cases c with
     |lst e' a' dg f'=>simp only[ShEq]at hk;obtain⟨rfl,rfl,hl⟩:=hk;dsimp only;rw[hl]
     |cell _ _=>simp[ShEq]at hk
     |arr _ _ _=>simp[ShEq]at hk
     |row _ _ _ _=>simp[ShEq]at hk
    |cell _ _=>cases c<;>first|rfl|(simp[ShEq]at hk)
    |arr _ _ _=>cases c<;>first|rfl|(simp[ShEq]at hk)
    |row e a n _=>cases c with
     |row e' a' n' _=>simp only[ShEq]at hk;obtain⟨rfl,rfl,rfl⟩:=hk;rfl
     |_=>simp[ShEq]at hk
 .rfl
 .rename_i k _ _;have hk:=h k;generalize rd k=b at hk;generalize bH k=c at hk;cases b with
  |free=>cases c<;>simp_all[ShEq]
  |gone=>cases c<;>simp_all[ShEq]
  |live b=>cases c with
   |free=>cases b<;>simp[ShEq]at hk
   |gone=>cases b<;>simp[ShEq]at hk
   |live c=>
    cases b with
    |arr n a xs=>cases c with
     |arr n' a' dg=>simp only[ShEq]at hk;obtain⟨rfl,rfl⟩:=hk;rfl
     |cell _ _=>simp[ShEq]at hk
     |lst _ _ _ _=>simp[ShEq]at hk
     |row _ _ _ _=>simp[ShEq]at hk
    |cell _ _=>cases c<;>first|rfl|(simp[ShEq]at hk)
    |lst _ _ _ _=>cases c<;>first|rfl|(simp[ShEq]at hk)
    |row _ _ _ _=>cases c<;>first|rfl|(simp[ShEq]at hk)
 .rename_i k _ _ _;have hk:=h k;generalize rd k=b at hk;generalize bH k=c at hk;cases b with
  |free=>cases c<;>simp_all[ShEq]
  |gone=>cases c<;>simp_all[ShEq]
  |live b=>cases c with
   |free=>cases b<;>simp[ShEq]at hk
   |gone=>cases b<;>simp[ShEq]at hk
   |live c=>
    cases b with
    |lst e a xs f=>cases c with
     |lst e' a' dg f'=>simp only[ShEq]at hk;obtain⟨rfl,rfl,hl⟩:=hk;dsimp only;rw[hl]
     |cell _ _=>simp[ShEq]at hk
     |arr _ _ _=>simp[ShEq]at hk
     |row _ _ _ _=>simp[ShEq]at hk
    |cell _ _=>cases c<;>first|rfl|(simp[ShEq]at hk)
    |arr _ _ _=>cases c<;>first|rfl|(simp[ShEq]at hk)
    |row _ _ _ _=>cases c<;>first|rfl|(simp[ShEq]at hk)
 .rfl
theorem ċ{rd bH:G->BS}(h:∀k,ShEq (rd k) (bH k))(ti:TyI)(i:G)(l:Leaf):py rd ti i l=py bH ti i l:=by
 unfold py;split
 .rw[GB (h _)]
 .rw[GB (h _)]
 .rfl
 .rfl
theorem ShEq.msk{rd bH:G->BS}{k:G}(h:ShEq (rd k) (bH k)):ShEq (mskM rd k) (mskM bH k):=by
 unfold mskM;generalize rd k=a at h;generalize bH k=b at h;cases a with
 |free=>cases b<;>simp_all[ShEq]
 |gone=>cases b<;>simp_all[ShEq]
 |live a=>
  cases b with
  |free=>cases a<;>simp[ShEq]at h
  |gone=>cases a<;>simp[ShEq]at h
  |live b=>
   cases a<;>cases b<;>simp only[ShEq]at h<;>dsimp only
   .trivial
   .obtain⟨rfl,rfl,h3⟩:=h;rename_i e _ _ _ _ _;cases isM e
    .exact⟨rfl,rfl,h3⟩
    .trivial
   .exact h
   .exact h
theorem Č{E:Env}{ev:Ô->Slot}{rd bH:G->BS}{act:H (G×Æ)}{o:Ä}(ha:qE o=X)(h:∀k,ShEq (rd k) (bH k)):dY E ev rd act o=dY E ev bH act o:=by
 have h:∀k,ShEq (mskM rd k) (mskM bH k):=λk=>(h k).msk;obtain⟨dst,op,type,pos,after,guard⟩:=o;cases op<;>simp only[qE,qd]at ha
 .simp only[dY];split
  .rw[GB (h _)]
  .rw[GB (h _)]
  .rfl
  .rfl
 .simp only[dY];split
  .rw[ċ h]
  .rfl
 .simp only[dY];split
  .rw[Ċ h]
  .rfl
theorem TL:∀(u:Ups)(σ:St),(∀e∈u,ShEq (σ.bx e.1) e.2)->∀k,ShEq (σ.bx k) ((σ.upd u).bx k)
 |[],σ,_,k=>ShEq.refl _
 |e::u,σ,h,k=>by
  have h0:∀k,ShEq (σ.bx k) ((σ.setB e.1 e.2).bx k):=by
   intro k;simp only[St.setB];split
   .rename_i hk;rw[hk];exact h e af
   .exact ShEq.refl _
  have h1:=TL u (σ.setB e.1 e.2) (λx hx=>(h0 x.1).symm.trans (h x (by simp[hx]))) k;exact(h0 k).trans h1
def UpSh(rd:G->BS)(u:Ups):Prop:=∀e∈u,ShEq (rd e.1) e.2/\isLive e.2=X
theorem č{rd:G->BS}{t:Ty}{l:Leaf}{v:t.den}{u:Ups}(h:kE rd t l=B (v,u)):UpSh rd u:=by
 unfold kE at h;split at h
 .split at h
  .simp only[jb,jf]at h;rw[<-h.2];intro e he;simp at he
  .simp at h
 .split at h
  .simp only[jb,jf]at h;rw[<-h.2];intro e he;simp at he
  .simp at h
 .split at h
  .rename_i hk;split at h
   .simp only[jb,jf]at h;rw[<-h.2];intro e he;simp only[qk]at he;subst he;dsimp only;rw[hk];exact⟨⟨rfl,rfl,rfl⟩,rfl⟩
   .simp at h
  .simp at h
 .simp at h
theorem Ď{rd:G->BS}{t:Ty}{l:Leaf}{v:t.den}{u:Ups}(h:jL rd t l=B (v,u)):UpSh rd u:=by
 unfold jL at h;split at h
 .simp only[jb,jf]at h;rw[<-h.2];intro e he;simp at he
 .exact č h
theorem UpSh.app{rd:G->BS}{u v:Ups}(h:UpSh rd u)(h':UpSh rd v):UpSh rd (u++v):=by
 intro e he;rcases js.1 he with he|he
 .exact h e he
 .exact h' e he
theorem TM{rd:G->BS}:∀(t:Ty){ls:H Leaf}{v:t.den}{r:H Leaf}{u:Ups},gath rd t ls=B (v,r,u)->UpSh rd u:=by
 intro t;induction t with
 |unit=>intro ls v r u h;simp only[gath,jb,jf]at h;rw[<-h.2.2];intro e he;simp at he
 |wrap a ih=>
  intro ls v r u h;simp only[gath]at h;split at h
  .rename_i hg;simp only[jb,jf]at h;rw[<-h.2.2];exact ih hg
  .simp at h
 |pair a b su sv=>
  intro ls v r u h;simp only[gath]at h;split at h
  .rename_i hg;split at h
   .rename_i gC;simp only[jb,jf]at h;rw[<-h.2.2];exact(su hg).app (sv gC)
   .simp at h
  .simp at h
 |arr n a ih=>intro ls v r u h;simp[gath]at h
 |_=>
  intro ls v r u h;cases ls with
  |nil=>simp[gath]at h
  |cons l ls=>
   simp only[gath]at h;split at h
   .rename_i hl;simp only[jb,jf]at h;rw[<-h.2.2];exact Ď hl
   .simp at h
theorem ď{rd rdf:G->BS}(bn:RdLe rdf rd){n:G}{c:Cel}{l:Leaf}{u:Ups}(h:uO rd rdf n c l=B u):UpSh rd u:=by
 have one:∀(k:G)(b b':Bx),rd k = .live b->ShEq (.live b) (.live b')->UpSh rd [(k,.live b')]:=by intro k b b' hk hs e he;simp only[qk]at he;subst he;exact⟨by rw[hk];exact hs,rfl⟩
 have lift:∀u,UpSh rdf u->UpSh rd u:=by
  intro u hu e he;obtain⟨h1,h2⟩:=hu e he;rcases bn e.1 with hq|hq
  .rw[hq]at h1;exact⟨h1,h2⟩
  .rw[hq]at h1;cases h3:e.2 with
   |free=>rw[h3]at h2;simp[isLive]at h2
   |gone=>rw[h3]at h2;simp[isLive]at h2
   |live b=>rw[h3]at h1;cases b<;>simp[ShEq]at h1
 unfold uO at h;split at h
 .split at h
  .rename_i hk;split at h
   .split at h
    .simp only[jb]at h;subst h;exact one _ _ _ hk trivial
    .simp at h
   .simp at h
  .rename_i hk;split at h
   .split at h
    .split at h
     .split at h
      .simp only[jb]at h;subst h;exact one _ _ _ hk ⟨rfl,rfl⟩
      .simp at h
     .simp at h
    .simp at h
   .simp at h
  .simp at h
 .split at h
  .rename_i hk;split at h
   .split at h
    .split at h
     .rename_i hg;split at h
      .simp at h
      .simp only[jb]at h;subst h;exact(lift _ (TM _ hg)).app (one _ _ _ hk ⟨rfl,rfl,af⟩)
     .simp at h
    .simp at h
   .simp at h
  .rename_i hk;split at h
   .split at h
    .split at h
     .rename_i hg;split at h
      .simp at h
      .simp only[jb]at h;subst h;exact(lift _ (TM _ hg)).app (one _ _ _ hk ⟨rfl,rfl⟩)
     .simp at h
    .simp at h
   .simp at h
  .rename_i hk;split at h
   .split at h
    .simp only[jb]at h;subst h;exact one _ _ _ hk ⟨rfl,rfl,rfl⟩
    .simp at h
   .simp at h
  .simp at h
 .simp at h
theorem Đ(np:G)(rd:G->BS):RdLe (λk=>if parK np k then .gone else rd k) rd:=by
 intro k;dsimp only;split
 .exact .inr rfl
 .exact .inl rfl
theorem UpSh.le{rd bH:G->BS}(hle:RdLe rd bH){u:Ups}(h:UpSh rd u):UpSh bH u:=by
 intro e he;obtain⟨h1,h2⟩:=h e he;rcases hle e.1 with hq|hq
 .rw[hq]at h1;exact⟨h1,h2⟩
 .rw[hq]at h1;cases h3:e.2 with
  |free=>rw[h3]at h2;simp[isLive]at h2
  |gone=>rw[h3]at h2;simp[isLive]at h2
  |live b=>rw[h3]at h1;cases b<;>simp[ShEq]at h1
theorem đ(rd:G->BS):RdLe (mskM rd) rd:=λk=>RZ k
theorem Ē{E:Env}{ev:Ô->Slot}{rd:G->BS}{act:H (G×Æ)}{o:Ä}(ho:th o=X){chk:Æ}{s:Slot}{u:Ups}(h:dY E ev rd act o=B (.val chk s u)):UpSh rd u:=by
 obtain⟨dst,op,type,pos,after,guard⟩:=o;cases op<;>simp only[th,qd]at ho;simp only[dY]at h;split at h
 .split at h
  .rename_i hs;simp only[jb,Act.val.injEq]at h;rw[<-h.2.2];exact(ď (Đ E.np (mskM rd)) hs).le (đ rd)
  .simp at h
 .simp at h
theorem ē{E:Env}{ev:Ô->Slot}{rd:G->BS}{act:H (G×Æ)}{o:Ä}(ho:th o=X){f:G}{args:H Arg}{mk:Ret->O (Slot×Ups)}:dY E ev rd act o≠B (.call f args mk):=by
 obtain⟨dst,op,type,pos,after,guard⟩:=o;cases op<;>simp only[th,qd]at ho;intro h;simp only[dY]at h;split at h
 .split at h
  .simp at h
  .simp at h
 .simp at h
theorem UpSh.unmask{rd:G->BS}{M:H G}{u:Ups}(h:UpSh (jG M rd) u):UpSh rd u:=by
 intro e he;obtain⟨h1,h2⟩:=h e he;rcases Lt M rd e.1 with hq|hq
 .rw[hq]at h1;exact⟨h1,h2⟩
 .rw[hq]at h1;cases h3:e.2 with
  |free=>rw[h3]at h2;simp[isLive]at h2
  |gone=>rw[h3]at h2;simp[isLive]at h2
  |live b=>rw[h3]at h1;cases b<;>simp[ShEq]at h1
end
section
variable{N:NT}{np:G}{S0:aU}{w0:Z}{refs:Refs}{σ:St}{a:À}{w:Z}{S:aU}{γ:G->Y}
inductive Bef(ops:Ã Ä):G->G->Prop
 |dep {i j:G} {o:Ä}:ops[i]? = B o->j∈oz o->Bef ops i j
 |trans {i j k:G}:Bef ops i j->Bef ops j k->Bef ops i k
structure DOkR(ops:Ã Ä)(A:H (H G)):Prop where
 lt:∀i o,ops[i]? = B o->∀j∈oz o,j<i
 addr:∀i o,ops[i]? = B o->qE o=X->∀k,k∉A.getD i []
 dst:∀i j oi oj t,ops[i]? = B oi->ops[j]? = B oj->i≠j->oj.dst=B t->oi.dst≠B t/\(t∈oi.looksAt ops->Bef ops i j\/Bef ops j i)
 box:∀i j oi oj k,ops[i]? = B oi->ops[j]? = B oj->i≠j->k∈A.getD i []->k∈A.getD j []->Bef ops i j\/Bef ops j i
theorem DOkR.bef{ops:Ã Ä}{A:H (H G)}(h:DOkR ops A){i j:G}(hb:Bef ops i j):j<i:=by
 induction hb with
 |dep ho hj=>exact h.lt _ _ ho _ hj
 |trans _ _ h1 h2=>omega
def ClOk(ops:Ã Ä)(cl:H G):Prop:=∀i j,(cl.getD i 0).testBit j=X->Bef ops i j
theorem TN{ops:Ã Ä}{cls:H G}(hc:ClOk ops cls){i:G}{o:Ä}(ho:ops[i]? = B o):∀(l:H G)(m:G),(∀j∈l,j∈oz o)->(∀j,m.testBit j=X->Bef ops i j)->
  ∀j,(l.foldl (λm j=>m|||(2^j|||cls.getD j 0)) m).testBit j=X->Bef ops i j
 |[],m,_,hm,j,h=>hm j h
 |x::l,m,hl,hm,j,h=>by
  refine TN hc ho l _ (λj hj=>hl j (by simp[hj])) (λj hj=>?_) j h;simp only[Nat.testBit_or,qw,Nat.testBit_two_pow,jr]at hj;rcases hj with hj|hj|hj
  .exact hm j hj
  .subst hj;exact .dep ho (hl x af)
  .exact .trans (.dep ho (hl x af)) (hc x j hj)
theorem TO{ops:Ã Ä}:∀(l:H Ä)(cls:H G),ClOk ops cls->(∀k o,l[k]? = B o->ops[cls.length+k]? = B o)->ClOk ops (Cv l cls)
 |[],cls,hc,_=>hc
 |o::os,cls,hc,hl=>by
  have ho:ops[cls.length]? = B o:=by have:=hl 0 o rfl;simpa using this
  refine TO os _ ?_ (λk x hk=>by
   have:=hl (k+1) x (by simpa using hk);rw[jn,qs];rwa[show cls.length+1+k=cls.length+(k+1) by omega])
  intro i j ee;rcases vp i cls.length with hi|hi|hi
  .rw[É,Ë hi,<-É]at ee;exact hc i j ee
  .subst hi;rw[É,kv (jy _),Nat.sub_self]at ee;simp only[List.getElem?_cons_zero,zj]at ee;exact TN hc ho (oz o) 0 (λ_ h=>h) (λj h=>by simp at h) j ee
  .rw[É,qz ay]at ee;simp at ee
theorem Ly{ops:Ã Ä}{cl:H G}(hc:ClOk ops cl){i j:G}(h:Cw cl i j=X):i=j\/Bef ops i j\/Bef ops j i:=by
 simp only[Cw,qw,va]at h;rcases h with (h|h)|h
 .exact .inl h
 .exact .inr (.inl (hc i j h))
 .exact .inr (.inr (hc j i h))
theorem Ĕ{ops:Ã Ä}{cl:H G}{A:H (H G)}(hc:ClOk ops cl)(bJ:RD ops cl A=X):DOkR ops A:=by
 have hz:∀{i:G}{o:Ä},ops[i]? = B o->(o,i)∈ops.toList.zipIdx:=by intro i o ho;rw[vc];exact⟨i,by rw[æ];simp[ho]⟩
 have oO:∀i k,k∈A.getD i []->A.isEmpty=false:=by
  intro i k hk;cases A with
  |nil=>simp at hk
  |cons _ _=>rfl
 have aw:∀{i:G}{o:Ä},ops[i]? = B o->(∀j∈oz o,j<i)/\(A.isEmpty || !qE o||(A.getD i []).isEmpty)=X/\∀j oj,ops[j]? = B oj->FY ops cl A i o j oj=true:=by intro i o ho;have:=ka.1 bJ (o,i) (hz ho);simp only[ji]at this;exact⟨λj hj=>by simpa using ka.1 this.1.1 j hj,this.1.2,λj oj kQ=>ka.1 this.2 (oj,j) (hz kQ)⟩
 refine⟨λi o ho=>(aw ho).1,λi o ho mn k hk=>?_,λi j oi oj t hi hj ee ht=>?_,λi j oi oj k hi hj ee hk bk=>?_⟩
 .have:=(aw ho).2.1;rw[oO i k hk,mn]at this;simp only[jk,yp,List.isEmpty_iff]at this;rw[this]at hk;simp at hk
 .have:=(aw hi).2.2 j oj hj;simp only[FY,ht,ji]at this;have h1:=this.1;simp only[qw,va,ee,false_or,ji,bne_iff_ne,ne_eq,qi,qo,ku]at h1;refine⟨h1.1,λhm=>?_⟩;rcases h1.2 with h|h
  .exact absurd hm h
  .exact(Ly hc h).resolve_left ee
 .have:=(aw hi).2.2 j oj hj;simp only[FY,ji]at this;have h2:=this.2;rw[oO i k hk]at h2;simp only[yp,qw]at h2;rcases h2 with h|h
  .exact(Ly hc h).resolve_left ee
  .have:=ka.1 h k hk;simp only[qo,qi,ku]at this;exact absurd bk this
theorem TP{ops:Ã Ä}{cl:H G}{A:H (H G)}(hc:ClOk ops cl){i:G}{oi:Ä}{k:G}(hm:(tj ops cl A i oi).contains k=U){j:G}{oj:Ä}(hj:ops[j]? = B oj)(hk:k∈A.getD j []) :
  i=j\/Bef ops i j\/Bef ops j i\/(qE oi=X/\th oj=X):=by
 have hz:(oj,j)∈ops.toList.zipIdx:=by rw[vc];exact⟨j,by rw[æ];simp[hj]⟩
 have br:A.isEmpty=false:=by
  cases A with
  |nil=>simp at hk
  |cons _ _=>rfl
 unfold tj at hm;rw[br]at hm;simp only[qd,zi,qo,ku,qy,not_exists,not_and]at hm;have:=hm (oj,j) hz;dsimp only at this;split at this
 .rename_i h;simp only[qw,ji]at h;rcases h with h|h
  .rcases Ly hc h with h|h|h
   .exact .inl h
   .exact .inr (.inl h)
   .exact .inr (.inr (.inl h))
  .exact .inr (.inr (.inr h))
 .exact absurd hk this
inductive DStep(P:Â)(E:Env)(ops:Ã Ä)(M Ai:H G)(o:Ä)(σ:St):St->Prop
 |skip (s:G) (wn v:Æ):oq ops o=B (s,wn)->σ.sl s = .one (.one (.d .bool v))->v≠wn->DStep P E ops M Ai o σ (σ.setD o.dst .und)
 |skipU (s:G) (wn:Æ):oq ops o=B (s,wn)->σ.sl s = .und->DStep P E ops M Ai o σ (σ.setD o.dst .und)
 |val (s:Slot) (u:Ups):(o.guard=Á\/∃s wn,oq ops o=B (s,wn)/\σ.sl s = .one (.one (.d .bool wn)))->dY E σ.ev (jG M σ.bx) [] o=B (.val X s u)->(∀e∈u,e.1∈Ai)->
  DStep P E ops M Ai o σ ((σ.upd u).setD o.dst s)
 |call (f:G) (args:H Arg) (mk:Ret->O (Slot×Ups)) (ret:Ret) (s:Slot) (u:Ups):(o.guard=Á\/∃s wn,oq ops o=B (s,wn)/\σ.sl s = .one (.one (.d .bool wn)))->
  dY E σ.ev (jG M σ.bx) [] o=B (.call f args mk)->Fun P f->Gm P f args (λr=>r=ret)->mk ret=B (s,u)->(∀e∈u,e.1∈Ai)->DStep P E ops M Ai o σ ((σ.upd u).setD o.dst s)
theorem TQ{s:G}{x:Slot}(h:σ.sl s=x):σ.setS s x=σ:=by
 unfold St.setS
 have:(λj=>if j=s then x else σ.sl j)=σ.sl:=by
  funext j
  split
  .rename_i hj;subst hj;exact h.symm
  .rfl
 rw[this]
theorem TR{u:Ups}{Ai:H G}(h:(u.all λe=>Ai.contains e.1)=X):∀e∈u,e.1∈Ai:=λe he=>by simpa using ka.1 h e he
theorem Lz{P:Â}{E:Env}(hC:jS P E.C)(hF:CFun E.C){ops:Ã Ä}{M Ai:H G}{o:Ä}{R:Type}{k:St->O R}{r:R}
  (hg:o.guard=Á\/∃s wn,oq ops o=B (s,wn)/\σ.sl s = .one (.one (.d .bool wn)))(h:runD E M Ai σ o k=B r):∃σ',DStep P E ops M Ai o σ σ'/\k σ'=B r:=by
 unfold runD at h
 replace h:=RC h
 split at h
 .simp at h
 .rename_i chk s u ho;split at h
  .rename_i hb;cases chk with
   |false=>simp at h
   |true=>exact⟨_,.val s u hg ho (TR hb),h⟩
  .simp at h
 .rename_i f args mk ho;obtain⟨x,hx⟩:=hF f args;rw[hx]at h;cases x with
  |none=>simp at h
  |some ret=>
   simp only[ja]at h;obtain⟨hf,dU⟩:=hC f args Ret B ret (by rw[hx];rfl);split at h
   .rename_i s u bA;split at h
    .rename_i hb
     exact⟨_,.call f args mk ret s u hg ho hf (by
      intro w S vals ha hn hS;refine(dU w S vals ha hn hS).mono ?_
      rintro e w' ⟨r',tF,rest⟩
      exact⟨r',by simpa using tF,rest⟩) bA (TR hb),h⟩
    .simp at h
   .simp at h
theorem ĕ{P:Â}{E:Env}(hC:jS P E.C)(hF:CFun E.C){ops:Ã Ä}{M Ai:H G}{o:Ä}{R:Type}{k:St->O R}{r:R}
  (h:Cx E ops M Ai σ o k=B r):∃σ',DStep P E ops M Ai o σ σ'/\k σ'=B r:=by
 unfold Cx at h;split at h
 .rename_i hg;exact Lz hC hF (.inl hg) h
 .split at h
  .rename_i s wn hg;split at h
   .rename_i v hv;cases v with
    |true=>
     rw[jc,TQ hv]at h;cases wn with
     |true=>exact Lz hC hF (.inr ⟨s,X,hg,hv⟩) h
     |false=>exact⟨_,.skip s U X hg hv af,h⟩
    |false=>
     rw[jd,TQ hv]at h;cases wn with
     |false=>exact Lz hC hF (.inr ⟨s,U,hg,hv⟩) h
     |true=>exact⟨_,.skip s X U hg hv af,h⟩
   .rename_i hv;exact⟨_,.skipU s wn hg hv,h⟩
   .simp at h
  .simp at h
theorem TS{P:Â}{E:Env}(hC:jS P E.C)(hF:CFun E.C){ops:Ã Ä}{cl:H G}{A:H (H G)}{R:Type}{k:St->O R}{r:R}:∀(n i:G)(σ:St),i+n=ops.size->Au E ops cl A (ops.toList.drop i) i σ k=B r->
  ∃τ:G->St,τ i=σ/\k (τ ops.size)=B r/\∀j o,i<=j->ops[j]? = B o->lT E.N o=X/\DStep P E ops (tj ops cl A j o) (A.getD j []) o (τ j) (τ (j+1))
 |0,i,σ,hi,h=>by
  rw[jj ay]at h;refine⟨λ_=>σ,rfl,h,λj o hj ho=>?_⟩;have:=(jp.1 ho).1;omega
 |n+1,i,σ,hi,h=>by
  have au:i<ops.size:=aa;rw[jh (by simpa using au)]at h;simp only[Au]at h;split at h
  .rename_i hd;obtain⟨σ1,hs,hk⟩:=ĕ (P:=P) hC hF h;obtain⟨τ1,h1,h2,h3⟩:=TS hC hF n (i+1) σ1 aa hk;refine⟨λj=>if j=i then σ else τ1 j,af,?_,λj o hj ho=>?_⟩
   .simp only[show ops.size≠i by omega,zi];exact h2
   .by_cases pP:j=i
    .subst pP;have xZ:ops[j]? = B ops[j]:=jz au;rw[xZ]at ho;simp only[jb]at ho;subst ho;refine⟨by simpa using hd,?_⟩;simp only[if_true,show j+1≠j by omega,zi,h1];simpa using hs
    .simp only[pP,zi,show j+1≠i by omega];exact h3 j o aa ho
  .simp at h
theorem Rel.drawn(hR:Rel N np S0 w0 refs σ a w S γ)(n:G):Rel N np S0 w0 refs σ a { w with drawn:=n } S γ:=
 Rel.step (bx':=σ.bx) (γ':=γ) hR (λ_ _ h=>⟨h,rfl⟩) (.refl _ _) (λk b hb=>eM.keep (w:=w) (w':={ w with drawn:=n }) (λ_ _ h=>⟨h,rfl⟩) (.refl _ _) rfl (λ_ _=>⟨rfl,λ_=>Iff.rfl⟩) (hR.box k b hb))
  hR.own hR.apart hR.new hR.here hR.below hR.grow hR.os hR.tape hR.output (λ_ _ _ h=>⟨rfl,h⟩)
theorem D_wp{P:Â}{E:Env}(hT:cI P E.T)(hR:Rel E.N E.np S0 w0 refs σ a w S γ)(hc:dn σ){ops:Ã Ä}{M Ai:H G}{i:G}{o:Ä}(ho:ops[i]? = B o)(hd:lT E.N o=X)
  {τ τ':St}(hs:DStep P E ops M Ai o τ τ')(fa:(∀k,jG M σ.bx k=jG M τ.bx k)\/(qE o=X/\∀k,ShEq (jG M σ.bx k) (jG M τ.bx k)))(rm:∀t,t∈o.looksAt ops->σ.sl t=τ.sl t){K:À->Z->Prop}{Q:Ñ->À->Z->Prop}
  (hK:∀(s:Slot)(u:Ups)(a':À)(w':Z)(S':aU)(γ':G->Y),τ'=(τ.upd u).setD o.dst s->(∀e∈u,e.1∈Ai)->Rel E.N E.np S0 w0 refs ((σ.upd u).setD o.dst s) a' w' S' γ'->dn ((σ.upd u).setD o.dst s)->K a' w') :
  wpOp P ops Q i K a w:=by
 have tK:=xS hd
 have mO:∀x∈o.op.operands,σ.ev x=τ.ev x:=by
  intro x hx;cases x with
  |tmp t=>exact rm t (jx _ (vw.2 ⟨.tmp t,by simpa using hx,rfl⟩))
  |_=>rfl
 have xv:∀s wn,oq ops o=B (s,wn)->s∈o.looksAt ops:=by
  intro s wn hg;refine jw _ ?_;unfold oq at hg;split at hg
  .simp at hg
  .rename_i j w' Li;split at hg
   .rename_i oj kQ;split at hg
    .rename_i s' dy;simp only[jb,jf]at hg;simp[Li,kQ,dy,hg.1]
    .simp at hg
   .simp at hg
 have yA:∀s v,oq ops o≠Á->s∈o.looksAt ops->τ.sl s = .one (.one (.d .bool v))->tm a s = .bool v:=by intro s v _ hm hv;have:=hR.slot s;rw[rm s hm,hv]at this;exact sq this
 have bc:dY E σ.ev (jG M σ.bx) [] o=dY E τ.ev (jG M τ.bx) [] o:=by
  rcases fa with fa|⟨mn,fa⟩
  .rw[show jG M σ.bx=jG M τ.bx from funext fa];exact TK mO
  .rw[Č mn fa];exact TK mO
 have ei:∀(s:Slot)(u:Ups)(v:Y)(w':Z)(S':aU)(γ':G->Y),τ'=(τ.upd u).setD o.dst s->(∀e∈u,e.1∈Ai)->Rel E.N E.np S0 w0 refs (σ.upd u) a w' S' γ'->
   iH S' w' γ' (σ.upd u).bx (tm a) s v->s.bare=X->K (a.put o.dst v) w':=by
  intro s u v w' S' γ' he hb cT dy dt;obtain⟨h1,h2⟩:=DA cT (To hc) tK dy dt;exact hK s u _ w' S' γ' he hb h1 h2
 have we:(o.guard=Á\/∃s wn,oq ops o=B (s,wn)/\τ.sl s = .one (.one (.d .bool wn)))->Å o (yielded ops a.tmps)=true:=by
  rintro (hg|⟨s,wn,hg,hv⟩)
  .simp[Å,hg]
  .exact(Gx hg).2 (yA s wn (by rw[hg];simp) (xv s wn hg) hv)
 unfold wpOp;simp only[ho];cases hs with
 |skip s wn v hg hv br=>
  have hw:¬Å o (yielded ops a.tmps)=true:=λhw=>by
   have h1:=(Gx hg).1 hw;rw[yA s v (by rw[hg];simp) (xv s wn hg) hv]at h1;exact br (by simpa using h1)
  simp only[hw,zi,qd];exact ei .und [] undef w S γ rfl af hR rfl rfl
 |skipU s wn hg hv=>
  have hu:tm a s=undef:=by have:=hR.slot s;rw[rm s (xv s wn hg),hv]at this;exact this
  have hw:¬Å o (yielded ops a.tmps)=true:=λhw=>by
   have h1:=(Gx hg).1 hw;rw[hu]at h1;simp[undef]at h1
  simp only[hw,zi,qd];exact ei .und [] undef w S γ rfl af hR rfl rfl
 |val s u hg bW hb=>
  simp only[we hg,if_true];rw[<-bc]at bW;obtain⟨A',yB,hle⟩:=TJ (Lt M σ.bx) bW;cases hle;obtain⟨⟨v,w',S',γ',aM,cT,dy⟩,dt⟩:=Lb hT hR (act:=[]) (λg hg=>by simp at hg) (λ_=> .inl rfl) yB;refine .inl ?_;unfold Ó;rcases aM with aM|⟨aM,rfl⟩
  .rw[aM,Õ];exact ei s u v w' S' γ' rfl hb cT dy dt
  .rw[aM,â];exact ei s u undef w' S' γ' rfl hb cT dy dt
 |call f args mk ret s u hg bW hf dU bA hb=>
  simp only[we hg,if_true];rw[<-bc]at bW;obtain⟨A',yB,hle⟩:=TJ (Lt M σ.bx) bW;cases hle with
  |call _ _ _ mk' wg=>
   have DI:=wg _ _ bA;obtain⟨vals,aM,nw,dt⟩:=Tl hR (act:=[]) (λg hg=>by simp at hg) (λ_=> .inl rfl) yB hf dU;refine .inl ?_;unfold Ó;rw[aM,Í];refine nw.mono ?_
   rintro e w' ⟨Ė,rfl,aw⟩
   obtain⟨v,S',γ',rfl,cT,dy⟩:=aw s u DI;exact ei s u v w' S' γ' rfl hb cT dy (dt _ s u DI)
end
section
variable{S0:aU}{w0:Z}{refs:Refs}{σ:St}{a:À}{w:Z}{S:aU}{γ:G->Y}
theorem LA{o:Ä}{j:G}:j∈oz o↔∃e∈o.after,Region.binds .any e=X/\e.on=j:=by
 simp only[oz,vw];constructor
 .rintro⟨e,he,h⟩
  split at h
  .rename_i hb;simp only[jb]at h;exact⟨e,by simpa using he,hb,h⟩
  .simp at h
 .rintro⟨e,he,hb,h⟩
  exact⟨e,by simpa using he,by simp[hb,h]⟩
theorem ė{ops:Ã Ä}{aD:Ã Æ}{i:G}(h:i∈í .any ops aD) :
  aD.getD i X=U/\∃o,ops[i]? = B o/\∀j∈oz o,aD.getD j U=true:=by
 obtain⟨h0,o,ho,h1⟩:=mem_ready.1 h;exact⟨h0,o,ho,λj hj=>by obtain⟨e,he,hb,rfl⟩:=LA.1 hj;exact h1 e he hb⟩
def tZ(P:Â)(E:Env)(ops:Ã Ä)(cl:H G)(A:H (H G))(τ:G->St):Prop:=
 ∀j o,ops[j]? = B o->lT E.N o=X/\DStep P E ops (tj ops cl A j o) (A.getD j []) o (τ j) (τ (j+1))
theorem GC:∀(u:Ups)(σ:St)(t:G),(σ.upd u).sl t=σ.sl t
 |[],_,_=>rfl
 |e::u,σ,t=>GC u (σ.setB e.1 e.2) t
theorem yC(σ:St)(d:O G)(s:Slot):(σ.setD d s).bx=σ.bx:=by cases d<;>rfl
theorem LB{σ:St}{d:O G}{s:Slot}{t:G}(h:d≠B t):(σ.setD d s).sl t=σ.sl t:=by
 cases d with
 |none=>rfl
 |some d=>have:t≠d:=λe=>h (by rw[e]);simp[St.setD,St.setS,this]
theorem TT{σ:St}{s:Slot}{t:G}:(σ.setD (B t) s).sl t=s:=by simp[St.setD,St.setS]
theorem GD:∀(u:Ups)(σ:St)(k:G),(∀e∈u,e.1≠k)->(σ.upd u).bx k=σ.bx k
 |[],_,_,_=>rfl
 |e::u,σ,k,h=>by
  have h1:=GD u (σ.setB e.1 e.2) k (λx hx=>h x (by simp[hx]));show ((σ.setB e.1 e.2).upd u).bx k=_;rw[h1];have:=h e af;have br:¬k=e.1:=λhk=>this hk.symm;simp[St.setB,br]
theorem TU:∀(u:Ups)(σ τ:St)(k:G),σ.bx k=τ.bx k->(σ.upd u).bx k=(τ.upd u).bx k
 |[],_,_,_,h=>h
 |e::u,σ,τ,k,h=>by
  refine TU u (σ.setB e.1 e.2) (τ.setB e.1 e.2) k ?_;simp only[St.setB];split
  .rfl
  .exact h
section
variable{P:Â}{E:Env}{ops:Ã Ä}{cl:H G}{A:H (H G)}{τ:G->St}
theorem LC(h:tZ P E ops cl A τ){j:G}{o:Ä}(ho:ops[j]? = B o):∃s u,τ (j+1)=((τ j).upd u).setD o.dst s/\(∀e∈u,e.1∈A.getD j [])/\(th o=X->∀k,ShEq ((τ j).bx k) ((τ (j+1)).bx k)):=by
 obtain⟨_,hs⟩:=h j o ho;generalize hq:τ (j+1)=σ' at hs;cases hs with
 |skip s wn v hg hv br=>exact⟨.und,[],rfl,af,λ_ k=>by rw[yC];exact ShEq.refl _⟩
 |skipU s wn hg hv=>exact⟨.und,[],rfl,af,λ_ k=>by rw[yC];exact ShEq.refl _⟩
 |val s u hg bW hb=>exact⟨s,u,rfl,hb,λaO k=>by
  rw[yC];exact TL u (τ j) (λe he=>((Ē aO bW).unmask e he).1) k⟩
 |call f args mk ret s u hg bW hf dU bA hb=>exact⟨s,u,rfl,hb,λaO=>absurd bW (ē aO)⟩
theorem Ę(h:tZ P E ops cl A τ){j:G}{o:Ä}(ho:ops[j]? = B o){t:G}(ht:o.dst≠B t):(τ (j+1)).sl t=(τ j).sl t:=by
 obtain⟨s,u,he,_⟩:=LC h ho;rw[he,LB ht,GC]
theorem TW(h:tZ P E ops cl A τ){j:G}{o:Ä}(ho:ops[j]? = B o){k:G}(hk:k∉A.getD j []):(τ (j+1)).bx k=(τ j).bx k:=by
 obtain⟨s,u,he,hu,_⟩:=LC h ho;rw[he,yC];exact GD u _ k (λe hm sH=>hk (sH▸hu e hm))
theorem DJ(h:tZ P E ops cl A τ){t j:G}:∀n,j+n<=ops.size->(∀k o,j<=k->k<j+n->ops[k]? = B o->o.dst≠B t)->(τ (j+n)).sl t=(τ j).sl t
 |0,_,_=>rfl
 |n+1,hn,hk=>by
  have au:j+n<ops.size:=aa;have ho:ops[j+n]? = B ops[j+n]:=jz au;rw[<-ë,Ę h ho (hk _ _ aa aa ho)];exact DJ h n aa (λk o h1 h2=>hk k o h1 aa)
theorem DK(h:tZ P E ops cl A τ){k j:G}:∀n,j+n<=ops.size->(∀i o,j<=i->i<j+n->ops[i]? = B o->k∉A.getD i [])->(τ (j+n)).bx k=(τ j).bx k
 |0,_,_=>rfl
 |n+1,hn,hk=>by
  have au:j+n<ops.size:=aa;have ho:ops[j+n]? = B ops[j+n]:=jz au;rw[<-ë,TW h ho (hk _ _ aa aa ho)];exact DK h n aa (λi o h1 h2=>hk i o h1 aa)
theorem GF(h:tZ P E ops cl A τ){k j:G}:∀n,j+n<=ops.size->(∀i o,j<=i->i<j+n->ops[i]? = B o->k∈A.getD i []->th o=X)->ShEq ((τ j).bx k) ((τ (j+n)).bx k)
 |0,_,_=>ShEq.refl _
 |n+1,hn,hk=>by
  have au:j+n<ops.size:=aa;have ho:ops[j+n]? = B ops[j+n]:=jz au;have ih:=GF h n aa (λi o h1 h2=>hk i o h1 aa);refine ih.trans ?_;rw[<-ë];by_cases hm:k∈A.getD (j+n) []
  .obtain⟨_,_,_,_,aO⟩:=LC h ho;exact aO (hk _ _ aa aa ho hm) k
  .rw[TW h ho hm];exact ShEq.refl _
structure Ph(ops:Ã Ä)(A:H (H G))(τ:G->St)(aD:Ã Æ)(σ:St):Prop where
 closed:∀j o,ops[j]? = B o->aD.getD j U=X->∀d∈oz o,aD.getD d U=X
 done:∀j o t,ops[j]? = B o->o.dst=B t->aD.getD j U=X->σ.sl t=(τ (j+1)).sl t
 rest:∀t,(∀j o,ops[j]? = B o->o.dst=B t->aD.getD j U=U)->σ.sl t=(τ 0).sl t
 bdone:∀j k,j<ops.size->k∈A.getD j []->aD.getD j U=X->(∀i,i<ops.size->k∈A.getD i []->aD.getD i U=X->i<=j)->σ.bx k=(τ (j+1)).bx k
 brest:∀k,(∀j,j<ops.size->k∈A.getD j []->aD.getD j U=U)->σ.bx k=(τ 0).bx k
theorem Ph.bef{aD:Ã Æ}(hp:Ph ops A τ aD σ){i j:G}(hb:Bef ops i j)(hi:aD.getD i U=X):aD.getD j U=true:=by
 induction hb with
 |dep ho hj=>exact hp.closed _ _ ho hi _ hj
 |trans _ _ h1 h2=>exact h2 (h1 hi)
theorem Ph.befd{aD:Ã Æ}(hp:Ph ops A τ aD σ){i j:G}{o:Ä}(ho:ops[i]? = B o)(hd:∀j∈oz o,aD.getD j U=X)(hb:Bef ops i j):aD.getD j U=true:=by
 induction hb with
 |dep xZ hj=>rw[ho]at xZ;simp only[jb]at xZ;subst xZ;exact hd _ hj
 |trans dG eF h1 h2=>exact hp.bef eF (h1 ho)
theorem GG(p:G->Prop):∀n,(∃j,j<n/\p j)->∃m,m<n/\p m/\∀j,j<n->p j->j<=m
 |0,h=>by obtain⟨j,hj,_⟩:=h;omega
 |n+1,h=>by
  by_cases hn:p n
  .exact⟨n,aa,hn,λj hj _=>aa⟩
  .obtain⟨j,hj,hp⟩:=h
   have vM:j<n:=by
    rcases qx j n with h|h
    .exact h
    .have:j=n:=aa;subst this;exact absurd hp hn
   obtain⟨m,hm,ę,aw⟩:=GG p n ⟨j,vM,hp⟩;refine⟨m,aa,ę,λi hi TX=>?_⟩;rcases qx i n with h|h
   .exact aw i h TX
   .have:i=n:=aa;subst this;exact absurd TX hn
theorem TY{l:Ã Æ}{i:G}(h:l.getD i X=U):l.getD i U=false:=by
 rcases qx i l.size with h'|h'
 .simp[h']at h ⊢;exact h
 .simp[Ý h']
theorem rq{l:Ã Æ}{i j:G}(hi:i<l.size):(l.setIfInBounds i X).getD j U=X↔j=i\/l.getD j U=true:=by
 by_cases h:i=j
 .subst h;simp[hi]
 .rw[getD_set_ne U h];exact⟨.inr,λhh=>hh.resolve_left λe=>h e.symm⟩
theorem DL{l:Ã Æ}{i:G}(h:¬l.getD i U=X):l.getD i U=false:=by
 cases hq:l.getD i U with
 |false=>rfl
 |true=>exact absurd hq h
section
variable(bJ:DOkR ops A)(h:tZ P E ops cl A τ){aD:Ã Æ}(hp:Ph ops A τ aD σ){i:G}{o:Ä}(hi:ops[i]? = B o)(jU:aD.getD i U=U)(eA:∀j∈oz o,aD.getD j U=X)
include bJ h hp hi jU eA
theorem Ě:∀t,t∈o.looksAt ops->σ.sl t=(τ i).sl t:=by
 intro t C9;have lb:i<ops.size:=(jp.1 hi).1;have GH:∀j oj,ops[j]? = B oj->oj.dst=B t->j≠i->Bef ops i j\/Bef ops j i:=λj oj hj ht br=>(bJ.dst i j o oj t hi hj (λe=>br e.symm) ht).2 C9;by_cases hex:∃(j:G)(oj:Ä),ops[j]? = B oj/\oj.dst=B t/\aD.getD j U=X
 .obtain⟨j,oj,hj,ht,nY⟩:=hex;have pP:j≠i:=λe=>by rw[e,jU]at nY;simp at nY
  have yD:Bef ops i j:=by
   rcases GH j oj hj ht pP with hd|hd
   .exact hd
   .have:=hp.bef hd nY;rw[jU]at this;simp at this
  have au:=bJ.bef yD;rw[hp.done j oj t hj ht nY];have:=DJ h (t:=t) (j:=j+1) (i-(j+1)) aa (λk ok h1 h2 hk=>(bJ.dst k j ok oj t hk hj aa ht).1);rw[show j+1+(i-(j+1))=i by omega]at this;exact this.symm
 .rw[hp.rest t (λj oj hj ht=>DL λhq=>hex ⟨j,oj,hj,ht,hq⟩)]
  have:=DJ h (t:=t) (j:=0) i aa (λk ok _ hk oP sy=>by
   have sL:k≠i:=aa;rcases GH k ok oP sy sL with hd|hd
   .exact hex ⟨k,ok,oP,sy,hp.befd hi eA hd⟩
   .have:=bJ.bef hd;omega)
  rw[ko]at this;exact this.symm
theorem TZ{k:G}(hk:∀j oj,ops[j]? = B oj->k∈A.getD j []->i=j\/Bef ops i j\/Bef ops j i):σ.bx k=(τ i).bx k:=by
 have lb:i<ops.size:=(jp.1 hi).1;by_cases hex:∃j,j<ops.size/\(k∈A.getD j []/\aD.getD j U=X)
 .obtain⟨m,hm,⟨rr,sM⟩,eI⟩:=GG _ _ hex;have LD:ops[m]? = B ops[m]:=jz hm;have LF:i≠m:=λe=>by rw[<-e,jU]at sM;simp at sM
  have yD:Bef ops i m:=by
   rcases hk m _ LD rr with hd|hd|hd
   .exact absurd hd LF
   .exact hd
   .have:=hp.bef hd sM;rw[jU]at this;simp at this
  have au:=bJ.bef yD;rw[hp.bdone m k hm rr sM (λj hj eJ nY=>eI j hj ⟨eJ,nY⟩)]
  have:=DK h (k:=k) (j:=m+1) (i-(m+1)) aa (λj oj h1 h2 hj eJ=>by
   rcases hk j oj hj eJ with hd|hd|hd
   .omega
   .have:=eI j aa ⟨eJ,hp.befd hi eA hd⟩;omega
   .have:=bJ.bef hd;omega)
  rw[show m+1+(i-(m+1))=i by omega]at this;exact this.symm
 .rw[hp.brest k (λj hj eJ=>DL λhq=>hex ⟨j,hj,eJ,hq⟩)]
  have:=DK h (k:=k) (j:=0) i aa (λj oj h1 h2 hj eJ=>by
   rcases hk j oj hj eJ with hd|hd|hd
   .omega
   .exact hex ⟨j,aa,eJ,hp.befd hi eA hd⟩
   .have:=bJ.bef hd;omega)
  rw[ko]at this;exact this.symm
theorem ě(mn:qE o=X){k:G}(hk:∀j oj,ops[j]? = B oj->k∈A.getD j []->i=j\/Bef ops i j\/Bef ops j i\/th oj=X):ShEq (σ.bx k) ((τ i).bx k):=by
 have lb:i<ops.size:=(jp.1 hi).1;by_cases hex:∃j,j<ops.size/\(k∈A.getD j []/\aD.getD j U=X)
 .obtain⟨m,hm,⟨rr,sM⟩,eI⟩:=GG _ _ hex;have LD:ops[m]? = B ops[m]:=jz hm;rw[hp.bdone m k hm rr sM (λj hj eJ nY=>eI j hj ⟨eJ,nY⟩)];rcases qx m i with LF|LF
  .have:=GF h (k:=k) (j:=m+1) (i-(m+1)) aa (λj oj h1 h2 hj eJ=>by
    rcases hk j oj hj eJ with hd|hd|hd|hd
    .omega
    .have:=eI j aa ⟨eJ,hp.befd hi eA hd⟩;omega
    .have:=bJ.bef hd;omega
    .exact hd)
   rwa[show m+1+(i-(m+1))=i by omega]at this
  .have Ĝ:i≠m:=λe=>by rw[<-e,jU]at sM;simp at sM
   have:=GF h (k:=k) (j:=i) (m+1-i) aa (λj oj h1 h2 hj eJ=>by
    have nY:aD.getD j U=true:=by
     by_cases wh:j=m
     .rw[wh];exact sM
     .rcases bJ.box j m oj ops[m] k hj LD wh eJ rr with hd|hd
      .have:=bJ.bef hd;omega
      .exact hp.bef hd sM
    rcases hk j oj hj eJ with hd|hd|hd|hd
    .rw[<-hd,jU]at nY;simp at nY
    .have:=bJ.bef hd;omega
    .have:=hp.bef hd nY;rw[jU]at this;simp at this
    .exact hd)
   rw[show i+(m+1-i)=m+1 by omega]at this;exact this.symm
 .rw[hp.brest k (λj hj eJ=>DL λhq=>hex ⟨j,hj,eJ,hq⟩)]
  have:=GF h (k:=k) (j:=0) i aa (λj oj h1 h2 hj eJ=>by
   rcases hk j oj hj eJ with hd|hd|hd|hd
   .omega
   .exact absurd ⟨j,aa,eJ,hp.befd hi eA hd⟩ hex
   .have:=bJ.bef hd;omega
   .exact hd)
  rwa[ko]at this
theorem ĝ(hc:ClOk ops cl):(∀k,jG (tj ops cl A i o) σ.bx k=jG (tj ops cl A i o) (τ i).bx k)\/(qE o=X/\∀k,ShEq (jG (tj ops cl A i o) σ.bx k) (jG (tj ops cl A i o) (τ i).bx k)):=by
 by_cases mn:qE o=X
 .refine .inr ⟨mn,ShEq.mask λk hk=>ě bJ h hp hi jU eA mn λj oj hj eJ=>?_⟩;rcases TP hc hk hj eJ with hd|hd|hd|hd
  .exact .inl hd
  .exact .inr (.inl hd)
  .exact .inr (.inr (.inl hd))
  .exact .inr (.inr (.inr hd.2))
 .refine .inl λk=>?_;unfold jG;split
  .rfl
  .rename_i hk
   exact TZ bJ h hp hi jU eA λj oj hj eJ=>by
    rcases TP hc (by simpa using hk) hj eJ with hd|hd|hd|hd
    .exact .inl hd
    .exact .inr (.inl hd)
    .exact .inr (.inr hd)
    .exact absurd hd.1 mn
theorem Ğ(bT:ops.size<=aD.size){s:Slot}{u:Ups}(he:τ (i+1)=((τ i).upd u).setD o.dst s)(hu:∀e∈u,e.1∈A.getD i []):Ph ops A τ (aD.setIfInBounds i X) ((σ.upd u).setD o.dst s):=by
 have lb:i<ops.size:=(jp.1 hi).1;have fE:i<aD.size:=aa
 have mm:∀k,k∈A.getD i []->σ.bx k=(τ i).bx k:=λk hk=>TZ bJ h hp hi jU eA λj oj hj eJ=>by
  by_cases ee:i=j
  .exact .inl ee
  .exact .inr (bJ.box i j o oj k hi hj ee hk eJ)
 refine⟨?_,?_,?_,?_,?_⟩
 .intro j oj kQ hj d mZ;rcases (rq fE).1 hj with rfl|hj
  .rw[hi]at kQ;simp only[jb]at kQ;subst kQ;exact(rq fE).2 (.inr (eA d mZ))
  .exact(rq fE).2 (.inr (hp.closed j oj kQ hj d mZ))
 .intro j oj t kQ ht hj;by_cases pP:j=i
  .subst pP;rw[hi]at kQ;simp only[jb]at kQ;subst kQ;rw[he,ht,TT,TT]
  .rcases (rq fE).1 hj with hj|hj
   .exact absurd hj pP
   .rw[LB (bJ.dst i j o oj t hi kQ (λe=>pP e.symm) ht).1,GC];exact hp.done j oj t kQ ht hj
 .intro t aw
  have ğ:o.dst≠B t:=λe=>by
   have:=aw i o hi e;have h2:=(rq (j:=i) fE).2 (.inl rfl);rw[this]at h2;simp at h2
  rw[LB ğ,GC]
  exact hp.rest t λj oj kQ ht=>DL λhq=>by
   have:=aw j oj kQ ht;have h2:=(rq (i:=i) fE).2 (.inr hq);rw[this]at h2;simp at h2
 .intro j k hj eJ nY eI;rw[yC];by_cases pP:j=i
  .subst pP;rw[he,yC];exact TU u σ (τ j) k (mm k eJ)
  .have DM:aD.getD j U=true:=by
    rcases (rq fE).1 nY with e|hh
    .exact absurd e pP
    .exact hh
   have sL:k∉A.getD i []:=λsL=>by
    have hle:=eI i lb sL ((rq fE).2 (.inl rfl));have kQ:ops[j]? = B ops[j]:=jz hj;rcases bJ.box i j o _ k hi kQ (λe=>pP e.symm) sL eJ with hd|hd
    .have:=bJ.bef hd;omega
    .have:=hp.bef hd DM;rw[jU]at this;simp at this
   rw[GD u σ k (λe hm sH=>sL (sH▸hu e hm))];exact hp.bdone j k hj eJ DM (λi' ct bk nX=>eI i' ct bk ((rq fE).2 (.inr nX)))
 .intro k aw
  have sL:k∉A.getD i []:=λsL=>by
   have:=aw i lb sL;have h2:=(rq (j:=i) fE).2 (.inl rfl);rw[this]at h2;simp at h2
  rw[yC,GD u σ k (λe hm sH=>sL (sH▸hu e hm))]
  exact hp.brest k λj hj eJ=>DL λhq=>by
   have:=aw j hj eJ;have h2:=(rq (i:=i) fE).2 (.inr hq);rw[this]at h2;simp at h2
end
theorem Ġ(bJ:DOkR ops A)(h:tZ P E ops cl A τ){aD:Ã Æ}(hp:Ph ops A τ aD σ)(aw:∀j,j<ops.size->aD.getD j U=X):σ=τ ops.size:=by
 have eN:σ.sl=(τ ops.size).sl:=by
  funext t
  by_cases hex:∃(j:G)(oj:Ä),ops[j]? = B oj/\oj.dst=B t
  .obtain⟨j,oj,hj,ht⟩:=hex;have au:j<ops.size:=(jp.1 hj).1;rw[hp.done j oj t hj ht (aw j au)];have:=DJ h (t:=t) (j:=j+1) (ops.size-(j+1)) aa (λk ok h1 h2 hk=>(bJ.dst k j ok oj t hk hj aa ht).1);rw[show j+1+(ops.size-(j+1))=ops.size by omega]at this;exact this.symm
  .rw[hp.rest t (λj oj hj ht=>absurd ⟨j,oj,hj,ht⟩ hex)];have:=DJ h (t:=t) (j:=0) ops.size aa (λk ok _ hk oP sy=>hex ⟨k,ok,oP,sy⟩);rw[ko]at this;exact this.symm
 have fa:σ.bx=(τ ops.size).bx:=by
  funext k
  by_cases hex:∃j,j<ops.size/\k∈A.getD j []
  .obtain⟨m,hm,rr,eI⟩:=GG _ _ hex;rw[hp.bdone m k hm rr (aw m hm) (λj hj eJ _=>eI j hj eJ)];have:=DK h (k:=k) (j:=m+1) (ops.size-(m+1)) aa (λj oj h1 h2 hj eJ=>by have:=eI j aa eJ;omega);rw[show m+1+(ops.size-(m+1))=ops.size by omega]at this;exact this.symm
  .rw[hp.brest k (λj hj eJ=>absurd ⟨j,hj,eJ⟩ hex)];have:=DK h (k:=k) (j:=0) ops.size aa (λj oj h1 h2 hj eJ=>hex ⟨j,aa,eJ⟩);rw[ko]at this;exact this.symm
 cases σ;cases hq:τ ops.size;rw[hq]at fa eN;simp only at fa eN;rw[fa,eN]
end
theorem ġ{l:Ã Æ}{i:G}(hi:l.getD i X=U):(l.setIfInBounds i X).toList.count U+1=l.toList.count false:=by
 have au:i<l.size:=by
  rcases qx i l.size with h|h
  .exact h
  .simp[Ý h]at hi
 have hv:l.toList[i]'(by simpa using au)=false:=by simp[au]at hi;simpa using hi
 have bU:0<l.toList.count false:=List.count_pos_iff.2 (hv▸ju _);have hc:(l.toList.set i X).count U=l.toList.count U-(if l.toList[i]'(by simpa using au)==U then 1 else 0)+(if X==U then 1 else 0):=List.count_set (by simpa using au);rw[hv]at hc;rw[Array.toList_setIfInBounds];simp only[ql,if_true,show (X==U)=U from rfl,qd,zi,Nat.add_zero]at hc;omega
theorem Ģ{l:Ã Æ}(h:l.toList.count U=0){j:G}(hj:j<l.size):l.getD j U=true:=by
 have h0:U∉l.toList:=List.count_eq_zero.1 h;simp only[zu,jz hj,zj];cases hv:l[j]with
 |true=>rfl
 |false=>exact absurd (hv▸by simp:U∈l.toList) h0
theorem ģ{ops:Ã Ä}{A:H (H G)}(bJ:DOkR ops A){aD:Ã Æ}(hs:aD.size=ops.size)(h:í .any ops aD=[]):∀j,j<ops.size->aD.getD j U=true:=by
 intro j;induction j using ø with
 |_ j ih=>
  intro hj;cases hq:aD.getD j U with
  |true=>rfl
  |false=>
   have ho:ops[j]? = B ops[j]:=jz hj
   have hm:j∈í .any ops aD:=mem_ready.2 ⟨by
    have jI:j<aD.size:=aa;simp[jI]at hq ⊢;exact hq,ops[j],ho,λe he hb=>ih _ (bJ.lt j _ ho _ (LA.2 ⟨e,he,hb,rfl⟩)) (Nat.lt_trans (bJ.lt j _ ho _ (LA.2 ⟨e,he,hb,rfl⟩)) hj)⟩
   rw[h]at hm;simp at hm
theorem Ĥ{P:Â}{E:Env}(hT:cI P E.T){ops:Ã Ä}{cl:H G}{A:H (H G)}(dL:ClOk ops cl)(bJ:DOkR ops A){τ:G->St}(h:tZ P E ops cl A τ)
  {Q:Ñ->À->Z->Prop}(hn:∀a' w' S' γ',Rel E.N E.np S0 w0 refs (τ ops.size) a' w' S' γ'->dn (τ ops.size)->Q .normal a' w') :
  ∀(fuel:G)(aD:Ã Æ){σ:St}{a:À}{w:Z}{S:aU}{γ:G->Y},aD.size=ops.size->aD.toList.count U<=fuel->Rel E.N E.np S0 w0 refs σ a w S γ->dn σ->
   Ph ops A τ aD σ->wpAny P .any ops Q fuel aD a w:=by
 have gP:∀(aD:Ã Æ){σ:St}{a:À}{w:Z}{S:aU}{γ:G->Y},Rel E.N E.np S0 w0 refs σ a w S γ->dn σ->Ph ops A τ aD σ->(∀j,j<ops.size->aD.getD j U=X)->Q .normal a w:=by intro aD σ a w S γ hR hc wi aw;have he:=Ġ bJ h wi aw;subst he;exact hn a w S γ hR hc
 intro fuel;induction fuel with
 |zero=>
  intro aD σ a w S γ hs DN hR hc wi;have aw:∀j,j<ops.size->aD.getD j U=true:=λj hj=>Ģ aa aa;refine⟨?_,gP aD hR hc wi aw⟩;refine List.eq_nil_iff_forall_not_mem.2 λi hi=>?_;have h0:=(mem_ready.1 hi).1;have au:i<ops.size:=by obtain⟨_,o,ho,_⟩:=mem_ready.1 hi;exact(jp.1 ho).1
  have:=aw i au;rw[TY h0]at this;simp at this
 |succ fuel ih=>
  intro aD σ a w S γ hs DN hR hc wi;refine⟨λeX=>gP aD hR hc wi (ģ bJ hs eX),λi hi=>?_⟩;obtain⟨jU,o,ho,eA⟩:=ė hi;have yE:=TY jU;have dj:=ġ jU;have bT:(aD.setIfInBounds i X).size=ops.size:=by simpa using hs
  obtain⟨hd,gQ⟩:=h i o ho;refine D_wp hT hR hc ho hd gQ (ĝ bJ h wi ho yE eA dL) (Ě bJ h wi ho yE eA) ?_;intro s u a' w' S' γ' he hu cT dr;exact ih _ bT aa cT dr (Ğ bJ h wi ho yE eA (Nat.le_of_eq hs.symm) he hu)
theorem ĥ{P:Â}{E:Env}(hT:cI P E.T)(hC:jS P E.C)(hF:CFun E.C)(hR:Rel E.N E.np S0 w0 refs σ a w S γ)(hc:dn σ){ops:Ã Ä}{A:H (H G)}
  {R:Type}{k:St->O R}{r:R}{Q:Ñ->À->Z->Prop}(hn:∀σ' a' w' S' γ',Rel E.N E.np S0 w0 refs σ' a' w' S' γ'->dn σ'->k σ'=B r->Q .normal a' w')(h:Cy E ops A σ k=B r) :
  wpAny P .any ops Q ops.size (Ö ops.size U) a { w with drawn:=w.drawn+1 }:=by
 unfold Cy at h;split at h
 .rename_i bJ;obtain⟨τ,h1,h2,h3⟩:=TS (P:=P) (ops:=ops) hC hF ops.size 0 σ (ko _) (by simpa using h)
  have ny:∀j,(Ö ops.size U).getD j U=false:=by
   intro j;rcases qx j ops.size with hj|hj
   .simp[hj]
   .simp[hj]
  have dL:ClOk ops (Cv ops.toList []):=TO ops.toList [] (λi j h=>by simp at h) (λk o hk=>by simpa using hk);refine Ĥ hT dL (Ĕ dL bJ) (τ:=τ) (λj o ho=>h3 j o (kq _) ho) (λa' w' S' γ' cT dr=>hn _ a' w' S' γ' cT dr h2) ops.size _ af af (hR.drawn _) hc ?_
  exact⟨λj o _ hj=>by rw[ny]at hj;simp at hj,λj o t _ _ hj=>by rw[ny]at hj;simp at hj,λt _=>by rw[h1],
   λj k _ _ hj=>by rw[ny]at hj;simp at hj,λk _=>by rw[h1]⟩
 .simp at h
end
def FR(ro:O G):Fence:={ Ú with round:=ro }
theorem T0(ro:O G)(n:G):(FR ro).room n:=λd h=>by simp[FR,Ú]at h
section
variable{P:Â}{ro:O G}{n:G}
theorem Ħ{f:FuncId}{args:Ã Y}{w:Z}{R:Ending->Z->Prop}(h:Calls P f args w R):ý (FR ro) n P f args w R:=(callsIn_wide (n:=n)).2 h
theorem ħ{f:FuncId}{args:Ã Y}{w:Z}{R:Ending->Z->Prop}(h:ý (FR ro) n P f args w R):Calls P f args w R:=(callsIn_wide (n:=n)).1 h
theorem Ĩ{m:G}{c:Ò}{Q:Ñ->À->Z->Prop}{a:À}{w:Z}(h:c.wpIn (FR ro) n P Q a w):c.wpIn (FR ro) m P Q a w:=
 λb k cs gr hb hr=>h b k cs gr hb (T0 _ _)
theorem ĩ{row:String}{args:Ã Y}{w:Z}{R:Y->Z->Prop}(h:Rows P row args w R):RowsIn (FR ro) n P row args w R:=
 λc cs _=>let ⟨v,w',r,s⟩:=h c cs;⟨v,w',r,stepsIn_wide.2 s⟩
theorem GI{o:Ä}(hp:ro=Á\/∀c,o.op ≠ .defer c){a:À}{w:Z}{K K':À->Z->Prop}{Q:Ñ->À->Z->Prop}(hK:∀a w,K a w->K' a w)
  (h:o.wp P a w K Q):o.wpIn (FR ro) n P a w K' Q:=by
 refine⟨λ_ _=>trivial,?_⟩
 have e:o.semAt (FR ro).round a.eval=execOp a.eval o:=by
  rcases hp with rfl|hp
  .rfl
  .exact Oper.semAt_eq _ _ _ hp
 rw[e];unfold Ó at h;revert h;cases (execOp a.eval o).run P w with
 |ok x w'=>
  cases x with
  |value v=>intro h;exact hK _ _ h
  |skip=>intro h;exact hK _ _ h
  |defer d=>intro h;exact hK _ _ h
  |enter f args=>
   intro h;refine⟨λhd=>by simp[FR,Ú]at hd,Ħ (Calls.mono h λe xk he=>?_)⟩;cases e with
   |returned v=>exact hK _ _ he
   |panicked c=>exact he
   |outgrown=>exact he
  |row r args=>intro h;exact⟨λhd=>by simp[FR,Ú]at hd,ĩ (Rows.mono h λv xk he=>hK _ _ he)⟩
  |round l f tmps x y=>intro h;exact h.elim
  |_=>intro h;exact h.elim
 |halt x w'=>cases x<;>intro h<;>exact h
theorem Bj{ops:Ã Ä}{Q:Ñ->À->Z->Prop}(hp:ro=Á\/∀o∈ops.toList,∀c,o.op ≠ .defer c)(cY:¬ò Q):∀(l:H G)(a:À)(w:Z),wpOps P ops Q l a w->wpOpsIn (FR ro) n P ops Q l a w
 |[],a,w,h=>h
 |i::r,a,w,h=>by
  simp only[wpOps]at h;simp only[wpOpsIn];cases ho:ops[i]? with
  |none=>simp only[ho]at h ⊢;exact Bj hp cY r a w h
  |some o=>
   simp only[ho]at h ⊢;split
   .rename_i hw;simp only[hw,if_true]at h;rcases h with h|⟨_,h⟩
    .refine GI (hp.imp id λhh=>hh o ?_) (λa w=>Bj hp cY r a w) h;obtain⟨au,rfl⟩:=jp.1 ho;exact Array.mem_toList_iff.2 (ð au)
    .exact absurd h cY
   .rename_i hw;simp only[hw]at h;exact⟨λ_ _=>trivial,Bj hp cY r _ w h⟩
theorem GJ{md:Region.Mode}{ops:Ã Ä}{Q:Ñ->À->Z->Prop}(hp:ro=Á\/∀o∈ops.toList,∀c,o.op ≠ .defer c)(cY:¬ò Q) :
  ∀(fuel:G)(aD:Ã Æ)(a:À)(w:Z),wpAny P md ops Q fuel aD a w->wpAnyIn (FR ro) n P md ops Q fuel aD a w
 |0,_,_,_,h=>h
 |fuel+1,aD,a,w,h=>by
  refine⟨h.1,λi hi=>?_⟩;have h2:=h.2 i hi;unfold wpOp at h2;unfold wpOpIn;cases ho:ops[i]? with
  |none=>simp only[ho]at h2 ⊢;exact GJ hp cY fuel _ a w h2
  |some o=>
   simp only[ho]at h2 ⊢;split
   .rename_i hw;simp only[hw,if_true]at h2;rcases h2 with h2|⟨_,h2⟩
    .refine GI (hp.imp id λhh=>hh o ?_) (λa w=>GJ hp cY fuel _ a w) h2;obtain⟨au,rfl⟩:=jp.1 ho;exact Array.mem_toList_iff.2 (ð au)
    .exact absurd h2 cY
   .rename_i hw;simp only[hw]at h2;exact⟨λ_ _=>trivial,GJ hp cY fuel _ _ w h2⟩
end
section
variable{N:NT}{np:G}{S0:aU}{w0:Z}{refs:Refs}{σ:St}{a:À}{w:Z}{S:aU}{γ:G->Y}
theorem Rel.allocO(hR:Rel N np S0 w0 refs σ a w S γ)(o:Obj):Rel N np S0 w0 refs σ a (w.alloc o) S γ:=
 Rel.step (bx':=σ.bx) (γ':=γ) hR (xp hR o) (.refl _ _) (λk b hb=>eM.keep (xp hR o) (.refl _ _) rfl (λg hg=>⟨heap_alloc_old w o (jQ (hR.box k b hb) hg),λ_=>Iff.rfl⟩) (hR.box k b hb))
  hR.own hR.apart hR.new (λg i h=>by have:=hR.here g i h;simp;omega) (λg hg hr=>(heap_alloc_old w o (zb hg hR.grow)).trans (hR.below g hg hr)) (by have:=hR.grow;simp;omega) hR.os hR.tape hR.output
  (λg hg _ h=>⟨heap_alloc_old w o hg,h⟩)
structure Grew(w w':Z):Prop where
 old:∀g,g<w.heap.size->w'.heap[g]? = w.heap[g]?
 size:w.heap.size<=w'.heap.size
 os:w'.os=w.os
 tape:w'.tape=w.tape
 output:w'.output=w.output
structure Bl(S:aU)(w:Z)(S':aU)(w':Z):Prop where
 sub:∀g o,S g o->S' g o
 new:∀g o,S' g o->S g o\/w.heap.size<=g
 here:∀g o,S' g o->g<w'.heap.size
theorem Rel.grew(hR:Rel N np S0 w0 refs σ a w S γ){S':aU}{w':Z}(h:Grew w w')(hs:Bl S w S' w'):Rel N np S0 w0 refs σ a w' S' γ:=
 have aO:dD S w S' w':=λg o hg=>⟨hs.sub g o hg,Ç (h.old g (hR.here g o hg))⟩
 Rel.step (bx':=σ.bx) (γ':=γ) hR aO (.refl _ _) (λk b hb=>eM.keep aO (.refl _ _) rfl (λg hg=>
   have hl:=jQ (hR.box k b hb) hg
   ⟨h.old g hl,λo=>⟨λh1=>(hs.new g o h1).resolve_right aa,hs.sub g o⟩⟩) (hR.box k b hb))
  hR.own hR.apart (λg o h1=>(hs.new g o h1).elim (hR.new g o) λh2=> .inr (.inl (qc hR.grow h2))) hs.here (λg hg hr=>(h.old g (zb hg hR.grow)).trans (hR.below g hg hr)) (qc hR.grow h.size) (h.os.trans hR.os) (h.tape.trans hR.tape) (h.output.trans hR.output)
  (λg hg _ hn=>⟨h.old g hg,hn⟩)
theorem Rel.swap(hR:Rel N np S0 w0 refs σ a w S γ){N':NT}{refs':Refs}{a':À}(hb:refs'.blks=refs.blks)(hv:refs'.val=refs.val)(bT:a'.tmps.size=N'.n)(wj:a'.defers=refs'.ds)
  (ru:∀i,iH S w γ σ.bx (tm a') (σ.sl i) (tm a' i))(hk:∀g o,refs'.kw g=B o->w.heap[g]? = B o/\∀k b,σ.bx k = .live b->blk (γ k)≠B g)
  (hf:∀i v,refs'.fix i=B v->N'.pin i=X/\a'.tmps.getD i undef=v)(GK:refs'.mv=refs.mv:=by rfl):Rel N' np S0 w0 refs' σ a' w S γ:=
 have hm:∀g,g∈refs'↔g∈refs:=λg=>by show g∈refs'.blks↔g∈refs.blks;rw[hb]
 ⟨bT,wj,ru,hR.box,λk b g h h'=>(hR.own k b g h h').imp (λh=>Own.swap h hb GK) λh=>⟨(hm g).2 h.1,h.2⟩,hR.apart,hR.ext,λg o h=>(hR.new g o h).imp id λh=>Own.swap h hb GK,hR.here,λg h h'=>hR.below g h λh2=>h' ((hm g).2 h2),
  hR.grow,hR.os,hR.tape,hR.output,λk v h=>hR.par k v (hv▸h),hk,hf⟩
theorem T1{g o:G}{x:Obj}(h:w.heap[g]? = B x)(hc:x.isCells=U):w.cell? ⟨g,o,Á⟩=none:=by
 unfold World.cell?;simp only[h];cases x<;>first|rfl|(simp[Obj.isCells]at hc)
theorem Rel.putO(hR:Rel N np S0 w0 refs σ a w S γ){l:G}{o o':Obj}(hk:refs.kw l=B o)(hl:w0.heap.size<=l)(hc:o.isCells=U)(dr:o'.isCells=U) :
  Rel N np S0 w0 { refs with kw:=λg=>if g=l then B o' else refs.kw g } σ a (w.putObj l o') S γ:=by
 obtain⟨hw,cY⟩:=hR.kept l o hk;have au:=(jp.1 hw).1
 have aO:dD S w S (w.putObj l o'):=λg i h=>⟨h,by
  by_cases hg:g=l
  .subst hg;rw[T1 hw hc,T1 (Þ au) dr]
  .exact Ç (È hg)⟩
 have bB:Rel N np S0 w0 { refs with kw:=λg=>if g=l then Á else refs.kw g } σ a w S γ:=
  Rel.swap hR rfl rfl hR.size hR.defers hR.slot (λg x h=>by
   simp only at h;split at h
   .simp at h
   .exact hR.kept g x h) hR.fix
 have cB:Rel N np S0 w0 { refs with kw:=λg=>if g=l then Á else refs.kw g } σ a (w.putObj l o') S γ:=
  Rel.step (bx':=σ.bx) (γ':=γ) bB aO (.refl _ _) (λk b hb=>eM.keep aO (.refl _ _) rfl (λg hg=>⟨È (λe=>cY k b hb (e▸hg)),λ_=>Iff.rfl⟩) (hR.box k b hb))
   bB.own bB.apart bB.new (λg i h=>by simpa using hR.here g i h) (λg hg hr=>(È aa).trans (bB.below g hg hr)) (by simpa using hR.grow) hR.os hR.tape hR.output
   (λg _ ng h=>⟨È (λe=>by subst e;simp at ng),h⟩)
 refine Rel.swap cB rfl rfl cB.size cB.defers cB.slot (λg x h=>?_) cB.fix;simp only at h;split at h
 .rename_i e;subst e;simp only[jb]at h;subst h;exact⟨Þ au,cY⟩
 .rename_i e;have h1:=hR.kept g x h;exact⟨(È e).trans h1.1,h1.2⟩
theorem Ī(np:G)(K:Keep)(s:Snap)(i:G):(∃c,(dv np K s).sl i = .one c)/\(i∉K.slots->(dv np K s).sl i = .one (.one .dead)):=by
 have eN:(dv np K s).sl i=match K.slots.idxOf? i with
  |some j=>xg s[j]?
  |none=> .one (.one .dead):=rfl
 rw[eN];cases hq:K.slots.idxOf? i with
 |none=>exact⟨⟨_,rfl⟩,λ_=>rfl⟩
 |some j=>refine⟨?_,λh=>absurd (kp (pN hq)) h⟩;simp only;unfold xg;split<;>exact⟨_,rfl⟩
theorem Rel.frame{K:Keep}{s:Snap}(hR:Rel N np S0 w0 refs (dv np K s) a w S γ){N':NT}{refs':Refs}{a':À}(hb:refs'.blks=refs.blks)(hv:refs'.val=refs.val)(bT:a'.tmps.size=N'.n)(wj:a'.defers=refs'.ds)
  (eN:∀i∈K.slots,tm a' i=tm a i)(hk:∀g o,refs'.kw g=B o->w.heap[g]? = B o/\∀k b,(dv np K s).bx k = .live b->blk (γ k)≠B g)
  (hf:∀i v,refs'.fix i=B v->N'.pin i=X/\a'.tmps.getD i undef=v)(GK:refs'.mv=refs.mv:=by rfl):Rel N' np S0 w0 refs' (dv np K s) a' w S γ:=by
 refine hR.swap hb hv bT wj (λi=>?_) hk hf GK;obtain⟨⟨c,hc⟩,hd⟩:=Ī np K s i;by_cases hi:i∈K.slots
 .have:=hR.slot i;rw[hc]at this ⊢;rw[eN i hi];exact this
 .rw[hd hi];exact⟨trivial,λh=>absurd rfl h⟩
end
section
variable{P:Â}{F:Fence}{n:G}{b:Frame}{a:À}{k:H Go.Item}{cs:H Frame}{w:Z}{Q:Ñ->À->Z->Prop}
theorem Bm{c:Ò}:step P (lone (b.atR a (.code (.scope c)::k)) cs w) = .next (lone (b.atR a (.code c :: .inScope c::k)) cs w):=
 step_lone_go (by simp[stepG,stepG.exec,Frame.atR])
theorem ī{c:Ò}:step P (lone (b.atR a (.inScope c::k)) cs w) = .next (lone (b.atR a k) cs w):=
 step_lone_go (by simp[stepG,stepG.exec,Frame.atR])
theorem Ĭ{c:Ò}(ĭ:∀l a w,¬Q (.goto l) a w)(h:c.wpIn F n P Q a w):(Code.scope c).wpIn F n P Q a w:=by
 intro b k cs gr hb hr;have h0:(lone (b.atR a (.code (.scope c)::k)) cs w).fenced P F:=fenced_calm hb hr rfl;obtain⟨e,a₁,w₁,hq,oQ⟩:=h b (.inScope c::k) cs gr hb hr;cases e with
 |normal=>exact⟨.normal,a₁,w₁,hq,.head h0 Bm (StepsIn.trans oQ (.one (fenced_calm hb hr rfl) ī))⟩
 |exit id=>
  have hx:exitTo id (.inScope c::k)=exitTo id k:=by simp[exitTo]
  exact⟨_,a₁,w₁,hq,λk' hk=> .head h0 Bm (oQ.1 k' (by rw[hx];exact hk)),
   λtF hk=>let ⟨k₁,h1,h2⟩:=oQ.2 tF (by rw[hx];exact hk);⟨k₁,h1,.head h0 Bm h2⟩⟩
 |goto l=>exact absurd hq (ĭ l a₁ w₁)
 |ret=>exact⟨_,a₁,w₁,hq,.of_steps (.one h0 Bm) oQ⟩
 |panic ch=>exact⟨_,a₁,w₁,hq,.of_steps (.one h0 Bm) oQ⟩
 |outgrown=>exact⟨_,a₁,w₁,hq,.of_steps (.one h0 Bm) oQ⟩
end
section
variable{N:NT}{np:G}{S0:aU}{w0:Z}{refs:Refs}{σ:St}{a:À}{w:Z}{S:aU}{γ:G->Y}
theorem T2{t:Ty}:∀{xs:H t.den}{css:H (H Y)}{bx:G->BS},All2 (λx c=>Rep S w t x c) xs css->All2 (bz S w γ bx) (xs.flatMap λx=>(scat t x).map TV.leaf) css.flatten
 |[],[],_,_=>trivial
 |[],_::_,_,h=>h.elim
 |_::_,[],_,h=>h.elim
 |x::xs,c::css,_,h=>(qI (oE t x c h.1)).append (T2 h.2)
theorem Į{t:Ty}(xs:H t.den):rowL t xs.length xs=xs.flatMap λx=>(scat t x).map TV.leaf:=by
 unfold rowL;rw[ô,ô];exact kj List.flatten (R6 (λx=>(scat t x).map TV.leaf) t.dflt xs)
theorem T3{rd:G->BS}(aW:RdF np σ rd)(hB:vC S w γ σ.bx)(t:Ty):∀{n:G}{ls:H Leaf}{xs:H t.den}{u:Ups}{cs:H Y},Ay rd t n ls=B (xs,u)->All2 (bz S w γ σ.bx) ls cs->cs.length=n*t.size->
  FrzL np σ.bx u/\xs.length=n/\∀S' w',dD S w S' w'->Froz σ.bx γ S' w' u->∃css,css.flatten=cs/\All2 (λx c=>Rep S' w' t x c) xs css
 |0,[],xs,u,cs,h,ha,hc=>by
  simp only[Ay,jb,jf]at h;obtain⟨rfl,rfl⟩:=h;have:cs=[]:=ke (by rw[hc,Nat.zero_mul]);subst this;exact⟨.nil,rfl,λS' w' _ _=>⟨[],rfl,trivial⟩⟩
 |0,_::_,_,_,_,h,_,_=>by simp[Ay]at h
 |n+1,ls,xs,u,cs,h,ha,hc=>by
  simp only[Ay]at h;split at h
  case h_2=>simp at h
  rename_i x r u1 hx;split at h
  case h_2=>simp at h
  rename_i dg v fX;simp only[jb,jf]at h;obtain⟨rfl,rfl⟩:=h;obtain⟨f1,e1,p1⟩:=vE aW hB t hx ha;have sr:All2 (bz S w γ σ.bx) r (cs.drop t.size):=by rw[e1];exact ha.drop _
  obtain⟨f2,l2,p2⟩:=T3 aW hB t fX sr (by rw[zd,hc,vj];omega);refine⟨FrzL.app.2 ⟨f1,f2⟩,by rw[jq,l2],λS' w' hk hf=>?_⟩;obtain⟨nd,qL⟩:=Froz.app.1 hf;obtain⟨css,e3,q3⟩:=p2 S' w' hk qL;exact⟨cs.take t.size::css,by rw[kz,e3,zh],p1 S' w' hk nd,q3⟩
theorem į(hR:Rel N np S0 w0 refs σ a w S γ)(hc:dn σ){g:Gh}{σ':St}(h:Az np σ g=B (X,σ')):∃S' γ',Rel N np S0 w0 refs σ' a w S' γ'/\dn σ':=by
 cases g with
 |ex k c n m=>
  simp only[Az]at h;split at h
  case h_2=>simp at h
  rename_i ls hk;split at h
  case h_2=>simp at h
  rename_i b hs;split at h
  case h_2=>simp at h
  rename_i e t xs hb;split at h
  case isTrue=>simp at h
  rename_i cg;simp only[jb,jf]at h;obtain⟨h1,rfl⟩:=h;have h1:xs.length=m:=á h1;subst h1;simp only[qw,not_or,Ù,beq_eq_false_iff_ne,Bool.not_eq_false']at cg;obtain⟨⟨⟨⟨hm,hp⟩,xX⟩,db⟩,hn⟩:=cg
  have hn:σ.bx n = .free:=by
   revert hn
   cases σ.bx n<;>simp[gT]
  have ng:k≠n:=by rintro rfl;rw[hn]at hk;simp at hk
  obtain⟨gk,LG,ek,xL,T4,GH,bJ,R7,_⟩:=hR.box k _ hk
  have Dd:ls[c]? = B (.ol b):=by
   cases dr:ls[c]? with
   |none=>simp[dr]at hs
   |some x=>simp[dr]at hs;rw[hs]
  obtain⟨z,hz,fo⟩:=GH.get c _ Dd;have hu:z=γ b:=fo.2.2 _ hb;obtain⟨css,aL,aw,hS⟩:=iI hm (hR.box b _ hb);have bB:=AO hR hb;have nA:(σ.setB b .gone).bx n = .free:=by rw[cu σ _ (Ne.symm xX)];exact hn
  obtain⟨cB,eV⟩:=KR bB nA (v':=γ b) (b:= .row e t xs.length (rowL t xs.length xs)) (λg' az=>by
   refine⟨⟨?_,hR.kw_live hb az⟩,λk' b' aK bk=>?_⟩
   .rcases hR.own b _ g' hb az with h|h
    .exact h
    .rw[hp]at h;simp at h
   .have bO:k'≠b:=by rintro rfl;rw[fm]at aK;simp at aK
    rw[cu σ _ bO]at aK;exact hR.apart k' b _ _ g' bO aK hb bk az) (by
   refine⟨hm,⟨css.flatten,by rw[ew];exact aL,by rw[Į];exact T2 aw,λu hu=>?_⟩,λg hg o=>?_⟩
   .obtain⟨c',dr,tw⟩:=List.mem_flatten.1 hu;obtain⟨x,_,hx⟩:=aw.mem_right c' dr;exact Rep.one t x c' hx u tw
   .rw[ew]at hg;exact(hS g hg).1 rfl o)
  have eR:((σ.setB b .gone).setB n (.live (.row e t xs.length (rowL t xs.length xs)))).bx k = .live (.cell ls U):=by rw[cu _ _ ng,cu _ _ (λh=>db h.symm)];exact hk
  refine⟨S,_,Lm cB eR (b':= .cell (ls.set c (.ol n)) U) trivial (λbx' oF=>?_),λi=>hc i⟩;obtain⟨g3,İ,e3,q1,q2,q3,q4,q5,_⟩:=cB.box k _ eR;rw[fA γ _ ng,xL]at q1;simp at q1;subst q1;rw[T4]at q2;simp at q2;obtain⟨rfl,rfl⟩:=q2;refine⟨gk,LG,ek,by rw[fA γ _ ng];exact xL,T4,?_,by rw[vk];exact q4,q5,af⟩;rw[vk];refine All2.set_left (q3.mono (λx u hx=>bz.keep (.refl S w) oF hx)) c (.ol n) z hz ?_;have yF:((σ.setB b .gone).setB n (.live (.row e t xs.length (rowL t xs.length xs)))).bx n = .live (.row e t xs.length (rowL t xs.length xs)):=fm _ _ _;refine bz.keep (.refl S w) oF (x:= .ol n) ⟨by rw[yF];simp,fo.2.1,λb' aK=>?_⟩;rw[ew];exact hu
 |rl k=>
  simp only[Az]at h;split at h
  .rename_i e t n ls hk;split at h
   case h_2=>simp at h
   rename_i xs u hx;split at h
   case isTrue=>simp at h
   rename_i gp;simp only[jb,jf,qm]at h;subst h;have gp:u.any (λy=>y.1==k)=false:=qj.2 gp;have aW:RdF np σ (λj=>if parK np j then .gone else mskM σ.bx j):=xQ (RdR.msk λ_=> .inl rfl);obtain⟨hm,⟨cs,aL,aw,h1⟩,_⟩:=hR.box k _ hk;obtain⟨hf,hl,hp⟩:=T3 aW hR.box t hx aw aL.1;obtain⟨S1,bB,cO,gq,cR⟩:=na u σ S hR hf;have dm:(σ.upd u).bx k = .live (.row e t n ls):=(jR u σ gp).trans hk;obtain⟨css,C8,DO⟩:=hp S1 w cO gq;have cB:=Lm bB dm (b':= .lst e t xs U) ⟨rfl,rfl,hm,hl.symm⟩ (λbx' hle=>AD hm ⟨css,by rw[C8,hl];exact aL,DO,λg hg=>⟨λ_=>(bB.box k _ dm).2.2 g hg,af⟩⟩);refine⟨S1,γ,by rw[iW];exact cB,λi=>?_⟩;rw[tC];exact hc i
  .simp only[jb,jf,qm]at h;subst h;exact⟨S,γ,hR,hc⟩
 |se k=>
  simp only[Az]at h;split at h
  case h_2=>simp at h
  rename_i ls hk;split at h
  case isTrue=>simp at h
  rename_i hp;split at h
  case h_2=>simp at h
  rename_i xs u hx;split at h
  case isTrue=>simp at h
  rename_i gp;simp only[jb,jf,qm]at h;subst h;have hp:parK np k=false:=qj.2 hp;have gp:u.any (λy=>y.1==k)=false:=qj.2 gp;have aW:RdF np σ (λj=>if parK np j then .gone else mskM σ.bx j):=xQ (RdR.msk λ_=> .inl rfl);obtain⟨g,cur,e,hg,hh,ea,_⟩:=hR.box k _ hk;obtain⟨hf,sF⟩:=xF aW hx ea;obtain⟨S1,bB,cO,gq,cR⟩:=na u σ S hR hf;have dm:(σ.upd u).bx k = .live (.cell ls U):=(jR u σ gp).trans hk
  obtain⟨S2,g2,cB,_⟩:=Sv bB dm hp (xs:=xs) (λg' lg e' az vA _=>by
   rw[hg]at az;simp at az;subst az;rw[hh]at vA;simp at vA;obtain⟨rfl,_⟩:=vA;exact sF S1 w cO gq)
  refine⟨S2,γ,by rw[iW];exact cB,λi=>?_⟩;rw[tC];exact hc i
 |da l=>
  simp only[Az]at h;split at h
  .rename_i σ1 hd;simp only[jb,jf,qm]at h;subst h;obtain⟨S',cT,dr⟩:=Ln l σ σ1 S hR hc hd;exact⟨S',γ,cT,dr⟩
  .simp at h
theorem LH{R:Type}{r:R}:∀{gs:H Gh}{σ:St}{S:aU}{γ:G->Y}{k:St->O R},Rel N np S0 w0 refs σ a w S γ->dn σ->xh np gs σ k=B r->
  ∃σ' S' γ',Rel N np S0 w0 refs σ' a w S' γ'/\dn σ'/\k σ'=B r
 |[],σ,S,γ,k,hR,hc,h=>⟨σ,S,γ,hR,hc,h⟩
 |g::gs,σ,S,γ,k,hR,hc,h=>by
  simp only[xh]at h;split at h
  .rename_i b σ1 hg;cases b with
   |false=>simp at h
   |true=>obtain⟨S1,γ1,bB,eS⟩:=į hR hc hg;exact LH bB eS h
  .simp at h
end
section
variable{N:NT}{np:G}{S0:aU}{w0:Z}{refs:Refs}{σ:St}{a:À}{w:Z}{S:aU}{γ:G->Y}
def exOf:Ex->Ñ
 |.normal=> .normal
 |.exit i=> .exit i
 |.ret=> .ret
def Bn(E:Env)(b:G)(c:Ò):Prop:=
 ∀(s:Snap)(R:Type)(k:Ex->Snap->O R)(r:R),E.L b s R k=B r->∃n e s',loopN (J7 E b c) n s=B (e,s')/\k e s'=B r
def MrOK(E:Env)(b:G)(c:Ò):Prop:=
 ∀(m nm:G)(p:MrP),E.mr b=B (m,nm)->mrP b c=B p->∀(s:Snap)(R:Type)(k:Snap->O R)(r:R),E.M b s R k=B r->
  ∃(em:G)(v:Ty)(xs ys:H (Ï×v.den)),isM em=X/\s=kG s em v xs/\
   (∀zs,(dv E.np (E.keep b) (kG s em v zs)).bx nm = .live (.lst em (.pair (.int .i64) v) zs U)/\(dv E.np (E.keep b) (kG s em v zs)).sl m = .one (.one (.ol nm)))/\
   All2 (λx y=>y.1=x.1/\∀zs,CH E b p m (kG s em v zs) v x.1 x.2 B=B (kG s em v (@iq _ _ (Ty.int .i64).keq zs x.1 y.2))) xs ys/\k (kG s em v ys)=B r
theorem wk(p:G->Prop):∀n,p n->∃m,p m/\∀j,p j->m<=j:=by
 intro n;induction n using ø with
 |_ n ih=>
  intro h;by_cases hj:∃j,j<n/\p j
  .obtain⟨j,hj,hp⟩:=hj;exact ih j hj hp
  .exact⟨n,h,λj hp=>Nat.le_of_not_lt λhl=>hj ⟨j,hl,hp⟩⟩
open Classical in
noncomputable def GL(p:G->Prop):Nat:=if h:∃n,p n then (wk p h.choose h.choose_spec).choose else 0
theorem T5{p:G->Prop}{n:G}(h:p n):p (GL p)/\GL p<=n:=by
 unfold GL;have hx:∃n,p n:=⟨n,h⟩;rw[dif_pos hx];exact⟨(wk p hx.choose hx.choose_spec).choose_spec.1,(wk p hx.choose hx.choose_spec).choose_spec.2 n h⟩
theorem T6{P:Â}{F:Fence}{n0:G}{Q:Ñ->À->Z->Prop}{c:Ò}(I:G->À->Z->Prop){n:G}(h₀:I n a w)
  (round:∀n a w,I n a w->c.wpIn F n0 P (Exit.then (λa' w'=>∃m,m<n/\I m a' w') Q) a w):(Code.loop c).wpIn F n0 P Q a w:=by
 refine wpIn_loop (λa w=>∃n,I n a w) (λa w=>GL λn=>I n a w) ⟨n,h₀⟩ (λa w hI=>?_);obtain⟨m,hm⟩:=hI;have hl:=(T5 (p:=λn=>I n a w) hm).1;refine wpIn_mono (round _ a w hl) (λe a' w' h=>?_);cases e with
 |normal=>obtain⟨m',au,GM⟩:=h;exact⟨⟨m',GM⟩,Nat.lt_of_le_of_lt (T5 (p:=λn=>I n a' w') GM).2 au⟩
 |_=>exact h
def Bo(w0:Z)(refs:Refs):Prop:=
 refs.ds.Nodup/\∀d∈refs.ds,∃D,d={ target:= .collected D,args:=#[] }/\w0.heap.size<=D/\refs.kw D=B (.deferred (B []))
structure wm(w0:Z)(refs refs':Refs):Prop where
 blks:refs'.blks=refs.blks
 val:refs'.val=refs.val
 fix:refs'.fix=refs.fix
 marks:Bo w0 refs'
 mv:refs'.mv=refs.mv
theorem wm.trans{r r' T7:Refs}(h:wm w0 r r')(h':wm w0 r' T7):wm w0 r T7:=⟨h'.blks.trans h.blks,h'.val.trans h.val,h'.fix.trans h.fix,h'.marks,h'.mv.trans h.mv⟩
def Post(E:Env)(S0:aU)(w0:Z)(refs:Refs)(pl:Æ){R:Type}(k:Ex->St->O R)(r:R):Ñ->À->Z->Prop:=
 λe a' w'=>∃refs' ex σ' S' γ',wm w0 refs refs'/\(pl=X->refs'=refs)/\exOf ex=e/\Rel E.N E.np S0 w0 refs' σ' a' w' S' γ'/\dn σ'/\k ex σ'=B r
theorem LI{E:Env}{pl:Æ}{R:Type}{k:Ex->St->O R}{r:R}:¬ò (Post E S0 w0 refs pl k r):=by
 rintro⟨a,w,refs',ex,_,_,_,_,_,he,_⟩
 cases ex<;>simp[exOf]at he
def BwOK(P:Â)(f:G)(t:Ty):Prop:=
 Fun P f/\∀(cv:Ã Y)(m l:G)(J:G->aU->Z->Prop)(Jx:Z->Prop)(W:Z)(S:aU),
  (∀j S W S' W',Grew W W'->Bl S W S' W'->J j S W->J j S' W')->(∀W W',Grew W W'->Jx W->Jx W')->(∀j S W,J j S W->∀g o,S g o->g<W.heap.size)->
  (∀j S W,j<m->J j S W->∃xs:H t.den,All2 (jO S W) [.p [⟨.list t,xs⟩]] cv.toList/\m-1-j<xs.length/\∀S' W' x v,Grew W W'->Bl S W S' W'->xs[m-1-j]? = B x->VRep S' W' ⟨t,x⟩ v->
   YieldAt (FR Á) 0 P l #[.int .i64 ((m-1-j:G):Ï),v] W' λe W'=>(e = .returned (.bool X)/\∃S',J (j+1) S' W')\/(e = .returned (.bool U)/\Jx W'))->
  (∃(S':aU)(xs:H t.den),xs.length=m/\(∀g o,S' g o->g<W.heap.size)/\All2 (jO S' W) [.p [⟨.list t,xs⟩]] cv.toList)->J 0 S W->
  ý (FR Á) 0 P f (#[.func (.yield l) #[] #[]]++cv) W λe W'=>(∃v,e = .returned v)/\((∃S',J m S' W')\/Jx W')
def ItOK(P:Â)(f:G)(kd:Æ)(t:Ty):Prop:=
 Fun P f/\∀(cv:Ã Y)(l:G)(J:Ï->aU->Z->Prop)(Je Jx:Z->Prop)(W:Z)(S:aU)(gW:H t.den),
  (∀c S W S' W',Grew W W'->Bl S W S' W'->J c S W->J c S' W')->(∀W W',Grew W W'->Je W->Je W')->(∀W W',Grew W W'->Jx W->Jx W')->(∀c S W,J c S W->∀g o,S g o->g<W.heap.size)->
  (∀c S W,J c S W->∃xs:H t.den,All2 (jO S W) [.p [⟨.list t,xs⟩]] cv.toList/\(J6 kd xs.length c=X->Je W)/\
   (J6 kd xs.length c=U->itOk kd xs.length c=X/\∀S' W' vs,Grew W W'->Bl S W S' W'->All2 (VRep S' W') (CC kd t xs c) vs->
    YieldAt (FR Á) 0 P l vs.toArray W' λe W'=>(e = .returned (.bool X)/\∃S',J (CB kd c) S' W')\/(e = .returned (.bool U)/\Jx W')))->
  (∃S',(∀g o,S' g o->g<W.heap.size)/\All2 (jO S' W) [.p [⟨.list t,gW⟩]] cv.toList)->J (CA kd gW.length) S W->
  ý (FR Á) 0 P f (#[.func (.yield l) #[] #[]]++cv) W λe W'=>(∃v,e = .returned v)/\(Je W'\/Jx W')
def T8(P:Â)(fK fS e:G):Prop:=Fun P fK/\Fun P fS/\∀(w:Z)(g:G)(es:Ã ì)(clock:G)(ks:H Ï),
 w.heap[g]? = B (.map es clock)->MapKept.Stamped es clock->es.toList.map (·.key)=ks.map (Ê .i64)->(∀x∈ks, -9223372036854775808<=x/\x<=9223372036854775807)->ks.length<=1000000->
 Calls P fK #[.map (B g)] w λr w1=>∃c,r = .returned c/\Grew w w1/\Calls P fS #[c] w1 λr2 w2=>∃v,r2 = .returned v/\w2.ownsRow w1.heap.size e 1 v ks.length ((xb ks).map (Ê .i64))/\Grew w1 w2
def T9(P:Â)(f e sz:G):Prop:=Fun P f/\∀(w:Z)(n:Ï),0<=n->n<=1000000->
 Calls P f #[.slice Á 0 0,.int .i64 n] w λr w'=>∃v,r = .returned v/\w'.ownsRow w.heap.size e sz v 0 []/\Grew w w'
def BwK(P:Â)(f:G):Æ×Ty->Prop
 |(X,.arr fK (.arr e .bool))=>T8 P fK f e
 |(X,.arr e (.arr sz .unit))=>T9 P f e sz
 |(kd,t)=>ItOK P f kd t
theorem BwK.it{P:Â}{f:G}{kd:Æ}{t:Ty}(h:BwK P f (kd,t))(ht:kd=X->t=segT):ItOK P f kd t:=by
 cases kd with
 |false=>exact h
 |true=>obtain rfl:=ht rfl;exact h
section
variable{N:NT}{np:G}{S0:aU}{w0:Z}{refs:Refs}{σ:St}{a:À}{w:Z}{S:aU}{γ:G->Y}
theorem ı(ks:H Ï):(xb ks).length=ks.length:=by
 have hi:∀(x:Ï)(l:H Ï),(insI x l).length=l.length+1:=by
  intro x l;induction l with
  |nil=>rfl
  |cons y r ih=>unfold insI;cases decide (x<=y)<;>simp[ih]
 induction ks with
 |nil=>rfl
 |cons x r ih=>simp[xb,hi,ih]
theorem Ua{vt:Ty}:∀{xs:H (Ï×vt.den)}{l:H ì},All2 (λ(x:(Ty.int .i64).den×vt.den)(e:ì)=>Rep S w (.int .i64) x.1 [e.key]/\VRep S w ⟨vt,x.2⟩ e.val) xs l->
  l.map (·.key)=(xs.map λx=>x.1).map (Ê .i64)
 |[],[],_=>rfl
 |[],_::_,h=>h.elim
 |_::_,[],h=>h.elim
 |y::r,z::q,h=>by
  have h1:[z.key]=[Ê .i64 y.1]:=h.1.1;simp only[qe,yt];exact⟨by simpa using h1,Ua h.2⟩
theorem Ĳ{P:Â}{E:Env}(iP:∀f t,E.bw f=B t->BwK P f t)(hR:Rel E.N E.np S0 w0 refs σ a w S γ)(hc:dn σ){o o2:Ä}(hd:lT E.N o=X)(ig:lT E.N o2=X)
  {σ':St}(h:J1 E σ o o2=B (X,σ')){next wo:À->Z->Prop}{Q:Ñ->À->Z->Prop}
  (nA:∀a1 w1,o2.wp P a1 w1 next Q->wo a1 w1)(hn:∀a' w' S' γ',Rel E.N E.np S0 w0 refs σ' a' w' S' γ'->dn σ'->next a' w'):o.wp P a w wo Q:=by
 unfold J1 at h;split at h
 case h_2=>simp at h
 rename_i c1 c2 ho Dy;split at h
 case h_2=>simp at h
 rename_i f1 x f2 d eS DP fy sr;split at h
 case h_2=>simp at h
 rename_i fK b fS nd hx qL;split at h
 case h_2=>simp at h
 rename_i J2 e em ta xs fr LJ DQ;split at h
 case h_2=>simp at h
 rename_i cq ys yG;split at h
 case isFalse=>simp at h
 rename_i cg;obtain⟨rfl,LK,Gv,DR,bd⟩:=cg;simp only[jb,jf]at h;obtain⟨rfl,rfl⟩:=h;obtain⟨ĳ,Ĵ,dU⟩:T8 P J2 fS e:=iP _ _ LJ;have DS:=lV hR x;rw[hx]at DS;have Bd:a.eval x=γ b:=DS.1.2.2 _ DQ;unfold Ry at yG;split at yG
 case h_2=>simp at yG
 rename_i vt xs;simp only[jb,jf]at yG;obtain⟨bJ,rfl⟩:=yG
 obtain⟨g,es,clock,hg,hh,aw,aO⟩:CK S w (.pair (.int .i64) vt) xs (γ b):=by
  rcases (hR.box b _ DQ).1 with⟨hm,_⟩|⟨_,hm⟩
  .rw[Gv]at hm;simp at hm
  .exact hm
 unfold Rx at bJ;simp only[ji,ka,jr]at bJ;have AR:xs.length<=1000000:=Nat.le_of_ble_eq_true bJ.1;have hks:es.toList.map (·.key)=(xs.map λx=>x.1).map (Ê .i64):=by exact Ua aw
 have dX:=dU w g es clock (xs.map λx=>x.1) hh aO.1 hks (λz hz=>by
  obtain⟨y,hy,rfl⟩:=ki.1 hz;exact bJ.2 y hy) (by simpa using AR)
 have DT:=lV hR f1;rw[nd]at DT;obtain⟨cv,AV,ln⟩:=DT.1
 obtain rfl:cv = #[]:=by
  have:cv.toList=[]:=by
   cases hq:cv.toList with
   |nil=>rfl
   |cons=>rw[hq]at ln;exact ln.elim
  exact zq.1 this
 have aM:=Ds (w:=w) ĳ ho eS AV;have e1:c1.args.map a.eval ++ #[] = #[.map (B g)]:=by apply qf;simp[DP,Bd,hg]
 rw[e1]at aM;unfold Ó;rw[aM,Í];refine dX.mono ?_
 rintro r w1 ⟨c,rfl,nP,LL⟩
 have bB:=hR.grew nP (S':=S) ⟨λ_ _ h=>h,λ_ _ h=> .inl h,λg o h=>zb (hR.here g o h) nP.size⟩;obtain⟨cB,LM⟩:=DA bB hc (xS hd) (s:= .one (.one .dead)) (v:=c) ⟨trivial,λh=>absurd rfl h⟩ rfl;have DU:=lV cB f2;rw[qL]at DU;obtain⟨cv,C6,ln⟩:=DU.1
 obtain rfl:cv = #[]:=by
  have:cv.toList=[]:=by
   cases hq:cv.toList with
   |nil=>rfl
   |cons=>rw[hq]at ln;exact ln.elim
  exact zq.1 this
 have wq:=Ds (w:=w1) Ĵ Dy fy C6;have ĵ:d<a.tmps.size:=by rw[hR.size];exact(xS hd d LK).1
 have e2:c2.args.map (a.put o.dst c).eval ++ #[] = #[c]:=by
  apply qf;have:(a.put o.dst c).eval (.tmp d)=c:=by show tm (a.put o.dst c) d=c;rw[LK,Bc ĵ,if_pos rfl]
  simp[sr,this]
 rw[e2]at wq;refine nA _ _ ?_;unfold Ó;rw[wq,Í];refine LL.mono ?_
 rintro r2 w2 ⟨v,rfl,cd,oT⟩
 have gH:(σ.setD o.dst (.one (.one .dead))).bx ((o2.dst.getD 0)*64) = .free:=by
  rw[show (σ.setD o.dst (.one (.one .dead))).bx=σ.bx by rw[LK];rfl];cases hq:σ.bx ((o2.dst.getD 0)*64) with
  |free=>rfl
  |gone=>rw[hq]at bd;simp[gT]at bd
  |live=>rw[hq]at bd;simp[gT]at bd
 have hblk:∀g',blk v=B g'->w1.heap.size<=g'/\g'<w2.heap.size:=by
  intro g' az;rcases cd.2 with⟨rfl,_⟩|⟨gb,cap,cur,rfl,fk,sJ,_⟩
  .simp[blk]at az
  .simp[blk]at az;subst az;exact⟨fk,(jp.1 sJ).1⟩
 have mo:w2.ownsRow 0 e (Ty.int .i64).size v (sX xs).length (((sX xs).map (λx=>[Ê .i64 x])).flatten):=by
  have e3:((sX xs).map (λx=>[Ê .i64 x])).flatten=(xb (xs.map λx=>x.1)).map (Ê .i64):=by
   unfold sX;induction xb (xs.map λx=>x.1) with
   |nil=>rfl
   |cons y r ih=>simp only[qe,kz,ih];rfl
  rw[e3,show (sX xs).length=(xs.map λx=>x.1).length from ı _];refine⟨cd.1,?_⟩;rcases cd.2 with hl|⟨gb,cap,cur,h1,h2,h3⟩
  .exact .inl hl
  .exact .inr ⟨gb,cap,cur,h1,kq _,h3⟩
 have Bp:=AP cB gH (w':=w2) (S':=S) (v':=v) (e:=e) DR (el:= .int .i64) (zs:=sX xs) (frz:=U) (css:=(sX xs).map λx=>[Ê .i64 x])
  (λg' o' hs=>⟨hs,Ç (oT.old g' (cB.here g' o' hs))⟩) (λg' az _=>oT.old g' az) oT.size
  (λg' az=>⟨.inl (qc cB.grow (hblk g' az).1),λk b' aK hk=>by have:=jQ (cB.box k b' aK) hk;have:=(hblk g' az).1;omega,(hblk g' az).2⟩)
  (λ_ _ h=> .inl h) oT.os oT.tape oT.output mo (by
   generalize sX xs=l
   induction l with
   |nil=>trivial
   |cons y r ih=>exact⟨rfl,ih⟩)
  (λg' az=>⟨λ_ o' hs=>by have:=cB.here g' o' hs;have:=(hblk g' az).1;omega,λh=>by simp at h⟩) (λg' az=>cB.kw_new (hblk g' az).1)
 obtain⟨fI,nr⟩:=Bp;obtain⟨nZ,pQ⟩:=DA fI (λi=>LM i) (xS ig) (s:= .one (.one (.ol ((o2.dst.getD 0)*64)))) (v:=v) nr rfl;exact hn _ _ _ _ nZ pQ
theorem Ķ{P:Â}{E:Env}(iP:∀f t,E.bw f=B t->BwK P f t)(hR:Rel E.N E.np S0 w0 refs σ a w S γ)(hc:dn σ){o:Ä}(hd:lT E.N o=X)
  {σ':St}(h:J3 E σ o=B (X,σ')){next:À->Z->Prop}{Q:Ñ->À->Z->Prop}
  (hn:∀a' w' S' γ',Rel E.N E.np S0 w0 refs σ' a' w' S' γ'->dn σ'->next a' w'):o.wp P a w next Q:=by
 unfold J3 at h;split at h
 case h_2=>simp at h
 rename_i c1 ho;split at h
 case h_2=>simp at h
 rename_i f1 x y eS DP;split at h
 case h_2=>simp at h
 rename_i fG n nd hx hy;split at h
 case h_2=>simp at h
 rename_i e sz ti LJ AH;split at h
 case h_2=>simp at h
 rename_i ta bD;split at h
 case isFalse=>simp at h
 rename_i cg;obtain⟨rfl,DR,bd⟩:=cg;simp only[jb,jf,ji,jr]at h;obtain⟨⟨kK,nA⟩,rfl⟩:=h;obtain⟨ķ,dU⟩:T9 P fG e ta.size:=iP _ _ LJ;have DS:=lV hR x;rw[hx]at DS;have Bd:a.eval x = .slice Á 0 0:=DS.1;have Ub:=lV hR y;rw[hy]at Ub;have Lh:a.eval y = .int .i64 n:=tx Ub;have DT:=lV hR f1;rw[nd]at DT;obtain⟨cv,AV,ln⟩:=DT.1
 obtain rfl:cv = #[]:=by
  have:cv.toList=[]:=by
   cases hq:cv.toList with
   |nil=>rfl
   |cons=>rw[hq]at ln;exact ln.elim
  exact zq.1 this
 have aM:=Ds (w:=w) ķ ho eS AV;have e1:c1.args.map a.eval ++ #[] = #[.slice Á 0 0,.int .i64 n]:=by apply qf;simp[DP,Bd,Lh]
 rw[e1]at aM;unfold Ó;rw[aM,Í];refine(dU w n kK nA).mono ?_
 rintro r w1 ⟨v,rfl,cd,nP⟩
 have gH:σ.bx ((o.dst.getD 0)*64) = .free:=by
  cases hq:σ.bx ((o.dst.getD 0)*64) with
  |free=>rfl
  |gone=>rw[hq]at bd;simp[gT]at bd
  |live=>rw[hq]at bd;simp[gT]at bd
 have hblk:∀g',blk v=B g'->w.heap.size<=g'/\g'<w1.heap.size:=by
  intro g' az;rcases cd.2 with⟨rfl,_⟩|⟨gb,cap,cur,rfl,fk,sJ,_⟩
  .simp[blk]at az
  .simp[blk]at az;subst az;exact⟨fk,(jp.1 sJ).1⟩
 have mo:w1.ownsRow 0 e ta.size v ([]:H ta.den).length (([]:H (H Y)).flatten):=by
  refine⟨cd.1,?_⟩;rcases cd.2 with hl|⟨gb,cap,cur,h1,h2,h3⟩
  .exact .inl hl
  .exact .inr ⟨gb,cap,cur,h1,kq _,h3⟩
 have Bp:=AP hR gH (w':=w1) (S':=S) (v':=v) (e:=e) DR (el:=ta) (zs:=[]) (frz:=U) (css:=[])
  (λg' o' hs=>⟨hs,Ç (nP.old g' (hR.here g' o' hs))⟩) (λg' az _=>nP.old g' az) nP.size
  (λg' az=>⟨.inl (qc hR.grow (hblk g' az).1),λk b' aK hk=>by have:=jQ (hR.box k b' aK) hk;have:=(hblk g' az).1;omega,(hblk g' az).2⟩)
  (λ_ _ h=> .inl h) nP.os nP.tape nP.output mo trivial
  (λg' az=>⟨λ_ o' hs=>by have:=hR.here g' o' hs;have:=(hblk g' az).1;omega,λh=>by simp at h⟩) (λg' az=>hR.kw_new (hblk g' az).1)
 obtain⟨fI,nr⟩:=Bp;obtain⟨nZ,pQ⟩:=DA fI (λi=>hc i) (xS hd) (s:= .one (.one (.ol ((o.dst.getD 0)*64)))) (v:=v) nr rfl;exact hn _ _ _ _ nZ pQ
theorem Uc{P:Â}{E:Env}(hT:cI P E.T)(hC:jS P E.C)(iP:∀f t,E.bw f=B t->BwK P f t)(hR:Rel E.N E.np S0 w0 refs σ a w S γ)(hc:dn σ){o:Ä}(hd:lT E.N o=X){R:Type}{k:St->O R}{r:R}
  (h:runK E σ o k=B r){next:À->Z->Prop}{Q:Ñ->À->Z->Prop}
  (hn:∀σ' a' w' S' γ',Rel E.N E.np S0 w0 refs σ' a' w' S' γ'->dn σ'->k σ'=B r->next a' w'):o.wp P a w next Q:=by
 unfold runK at h;split at h
 .rename_i c σ' hg;cases c with
  |false=>simp at h
  |true=>exact Ķ iP hR hc hd hg (λa' w' S' γ' cT dr=>hn _ _ _ _ _ cT dr h)
 .exact DC hT hC hR (act:=[]) (λg hg=>by simp at hg) (p:=U) (λ_=>hc) hd h (λσ' a' w' S' γ' cT dr hk=>hn _ _ _ _ _ cT (dr rfl) hk)
theorem LN{P:Â}{E:Env}(hT:cI P E.T)(hC:jS P E.C)(iP:∀f t,E.bw f=B t->BwK P f t){ops:Ã Ä}(dt:bare ops=X){R:Type}{k:St->O R}{r:R}{Q:Ñ->À->Z->Prop}
  (hn:∀σ' a' w' S' γ',Rel E.N E.np S0 w0 refs σ' a' w' S' γ'->dn σ'->k σ'=B r->Q .normal a' w') :
  ∀(n i:G)(σ:St)(a:À)(w:Z)(S:aU)(γ:G->Y),i+n=ops.size->Rel E.N E.np S0 w0 refs σ a w S γ->dn σ->tg E (ops.toList.drop i) σ k=B r->
   wpOps P ops Q (ñ i n) a w
 |0,i,σ,a,w,S,γ,hi,hR,hc,h=>by
  rw[jj ay]at h;exact hn _ _ _ _ _ hR hc h
 |1,i,σ,a,w,S,γ,hi,hR,hc,h=>by
  have au:i<ops.size:=aa;rw[jh (by simpa using au),jj ay]at h;simp only[tg]at h;split at h
  .rename_i hd;have ho:ops[i]? = B ops[i]:=jz au;simp only[yk,wpOps,ho];have hg:ops[i].guard=none:=by have:=ka.1 dt ops[i] af;simpa using this
   have hw:Å ops[i] (yielded ops a.tmps)=true:=by simp[Å,hg]
   simp only[hw,if_true];exact .inl (Uc hT hC iP hR hc (by simpa using hd) (by simpa using h) (λσ' a' w' S' γ' cT dr hk=>hn _ _ _ _ _ cT dr hk))
  .simp at h
 |n+2,i,σ,a,w,S,γ,hi,hR,hc,h=>by
  have au:i<ops.size:=aa;have ua:i+1<ops.size:=aa;rw[jh (by simpa using au),jh (by simpa using ua)]at h;simp only[tg]at h;have ho:ops[i]? = B ops[i]:=jz au;have Dy:ops[i+1]? = B ops[i+1]:=jz ua
  have hw:∀(j:G)(hj:j<ops.size)(a:À),Å ops[j] (yielded ops a.tmps)=true:=λj hj a=>by
   have hg:ops[j].guard=none:=by have:=ka.1 dt ops[j] af;simpa using this
   simp[Å,hg]
  split at h
  case isFalse=>simp at h
  rename_i hd;split at h
  .rename_i cq σ' hks;split at h
   case isFalse=>simp at h
   rename_i ig;cases cq with
   |false=>simp at h
   |true=>simp only[jc]at h;simp only[yk,wpOps,ho,Dy,hw i au,hw (i+1) ua,if_true];refine .inl (Ĳ iP hR hc (by simpa using hd) (by simpa using ig) (by simpa using hks) (λa1 w1 hq=> .inl hq) (λa' w' S' γ' cT dr=>?_));exact LN hT hC iP dt hn n (i+2) σ' a' w' S' γ' aa cT dr h
  .rw[yk];simp only[wpOps,ho,hw i au,if_true];refine .inl (Uc hT hC iP hR hc (by simpa using hd) (by simpa using h) (λσ' a' w' S' γ' cT dr hk=>?_));refine LN hT hC iP dt hn (n+1) (i+1) σ' a' w' S' γ' aa cT dr ?_;rw[jh (by simpa using ua)];simpa using hk
theorem ĸ{P:Â}{E:Env}(hT:cI P E.T)(hC:jS P E.C)(iP:∀f t,E.bw f=B t->BwK P f t)(hR:Rel E.N E.np S0 w0 refs σ a w S γ)(hc:dn σ){ops:Ã Ä}{R:Type}{k:St->O R}{r:R}
  {Q:Ñ->À->Z->Prop}(hn:∀σ' a' w' S' γ',Rel E.N E.np S0 w0 refs σ' a' w' S' γ'->dn σ'->k σ'=B r->Q .normal a' w')(h:Cu E ops σ k=B r) :
  wpOps P ops Q (List.range ops.size) a w:=by
 rw[å];unfold Cu at h;split at h
 .rename_i hb;exact LN hT hC iP hb hn ops.size 0 σ a w S γ aa hR hc (by simpa using h)
 .simp at h
end
theorem Ĺ{P:Â}{f:G}{t:Ty}(h:BwOK P f t):ItOK P f U t:=by
 refine⟨h.1,λcv l J Je Jx W S gW aO Ud ĺ hh hY dO Bq=>?_⟩;obtain⟨S',DV,dr⟩:=dO;refine CallsIn.mono (h.2 cv gW.length l (λj S W=>j<=gW.length/\J ((gW.length:Ï)-j) S W) Jx W S (λj S W S' W' hg hs hj=>⟨hj.1,aO _ _ _ _ _ hg hs hj.2⟩) ĺ (λj S W hj=>hh _ _ _ hj.2) ?_ ⟨S',gW,rfl,DV,dr⟩ ⟨kq _,?_⟩) ?_
 .rintro j S W hj ⟨_,hJ⟩
  obtain⟨xs,h1,_,h3⟩:=hY _ _ _ hJ;obtain⟨h4,h5⟩:=h3 (by show decide _=U;exact decide_eq_false aa);have h4:(gW.length:Ï)-j<=Int.ofNat xs.length:=qb h4;have h4:(gW.length:Ï)-j<=(xs.length:Ï):=h4;refine⟨xs,h1,aa,λS' W' x v hg hs hx hv=>?_⟩
  have Ļ:All2 (VRep S' W') (CC U t xs ((gW.length:Ï)-j)) [.int .i64 ((gW.length-1-j:G):Ï),v]:=by
   refine⟨⟨?_,λhm=>absurd hm (show¬jP (.int .i64)=X by decide),λ_=>rfl⟩,?_,trivial⟩
   .show [Ê .i64 ((gW.length-1-j:G):Ï)]=[Ê .i64 ((gW.length:Ï)-j-1)];rw[show ((gW.length-1-j:G):Ï)=(gW.length:Ï)-j-1 by omega]
   .have e:List.getD xs ((gW.length:Ï)-j-1).toNat t.dflt=x:=by rw[show ((gW.length:Ï)-j-1).toNat=gW.length-1-j by omega];simp[List.getD,hx]
    rw[e];exact hv
  obtain⟨fn,tmps,as,bo,hy,hR⟩:=h5 S' W' _ hg hs Ļ;refine⟨fn,tmps,as,bo,hy,hR.mono λe W' he=>?_⟩;rcases he with⟨h6,S6,h7⟩|h6
  .refine .inl ⟨h6,S6,aa,?_⟩;have e2:CB U ((gW.length:Ï)-j)=(gW.length:Ï)-((j+1:G):Ï):=by show (gW.length:Ï)-j-1=_;omega
   rw[<-e2];exact h7
  .exact .inr h6
 .have:((gW.length:Ï)-((0:G):Ï))=CA U gW.length:=by show _=Int.ofNat gW.length;simp
  rw[this];exact Bq
 .rintro e W' ⟨hv,⟨S',_,hJ⟩|hx⟩
  .obtain⟨xs,_,h2,_⟩:=hY _ _ _ hJ;exact⟨hv,.inl (h2 (by show decide _=X;exact decide_eq_true aa))⟩
  .exact⟨hv,.inr hx⟩
def GN(P:Â)(E:Env)(ro:O G)(c:Ò):Prop:=
 ∀(b n:G){S0:aU}{w0:Z}{refs:Refs}{σ:St}{a:À}{w:Z}{S:aU}{γ:G->Y}{R:Type}{k:Ex->St->O R}{r:R},Bo w0 refs->
  (∀x∈eD b c,Bn E x.1 x.2/\MrOK E x.1 x.2)->Rel E.N E.np S0 w0 refs σ a w S γ->dn σ->fw E b c σ k=B r->c.wpIn (FR ro) n P (Post E S0 w0 refs (dN c) k r) a w
theorem wu:∀(c:Ò)(b:G),dN c=X->eD b c=[]
 |.seq x y,b,h=>by simp only[dN,ji]at h;simp[eD,wu x b h.1,wu y b h.2]
 |.cond _ x y,b,h=>by simp only[dN,ji]at h;simp[eD,wu x b h.1,wu y b h.2]
 |.block id c,b,h=>by simp only[dN]at h;simp[eD,wu c id h]
 |.loop c,b,h=>by simp[dN]at h
 |.rangeFunc _ _ _ _,b,h=>by simp[dN]at h
 |.skip,_,_=>rfl
 |.region _ _ _,_,_=>rfl
 |.exit _,_,_=>rfl
 |.goto _,_,_=>rfl
 |.label _,_,_=>rfl
 |.ret,_,_=>rfl
 |.scope c,b,h=>by simp only[dN]at h;simp[eD,wu c b h]
theorem Ue:∀(L:H (G×Y))(T:Ã Y),pB (L.map (·.1))=X->(∀q∈L,q.1<T.size)->
  (∀q∈L,(L.foldl (λt (q:G×Y)=>t.setIfInBounds q.1 q.2) T).getD q.1 undef=q.2)/\(∀i,i∉L.map (·.1)->(L.foldl (λt (q:G×Y)=>t.setIfInBounds q.1 q.2) T).getD i undef=T.getD i undef)/\
  (L.foldl (λt (q:G×Y)=>t.setIfInBounds q.1 q.2) T).size=T.size
 |[],T,_,_=>⟨λq h=>by simp at h,λ_ _=>rfl,rfl⟩
 |q::r,T,hn,hb=>by
  simp only[qe,pB,ji,qi,qo,ku]at hn;obtain⟨h1,h2,h3⟩:=Ue r (T.setIfInBounds q.1 q.2) hn.2 (λp hp=>by simpa using hb p (by simp[hp]));have hq:=hb q af;refine⟨λp hp=>?_,λi hi=>?_,by simpa using h3⟩
  .rcases jl.1 hp with rfl|hp
   .show (List.foldl (λt (q:G×Y)=>t.setIfInBounds q.1 q.2) (T.setIfInBounds p.1 p.2) r).getD p.1 undef=_;rw[h2 p.1 hn.1];simp[Array.getD,hq]
   .exact h1 p hp
  .simp only[qe,jl,not_or]at hi;show (List.foldl (λt (q:G×Y)=>t.setIfInBounds q.1 q.2) (T.setIfInBounds q.1 q.2) r).getD i undef=_;rw[h2 i hi.2];rw[zu,Array.getElem?_setIfInBounds,if_neg (λh=>hi.1 h.symm),<-zu]
theorem Uf{N:NT}{np:G}:∀(L:H (G×TV)){σ:St},Rel N np S0 w0 refs σ a w S γ->dn σ->(∀q∈L,VRep S w q.2 (tm a q.1))->Rel N np S0 w0 refs (setL L σ) a w S γ/\dn (setL L σ)
 |[],_,hR,hc,_=>⟨hR,hc⟩
 |q::r,σ,hR,hc,hv=>by
  have h1:=Lk hR (s:=q.1) (x:= .one (ot q.2.t q.2.v)) (AU (hv q af));refine Uf r h1 (λi=>?_) (λp hp=>hv p (by simp[hp]));simp only[St.setS];split
  .rfl
  .exact hc i
theorem Ug{S:aU}{w:Z}:∀{ps:H G}{xs:H TV}{vs:H Y},All2 (VRep S w) xs vs->∀q∈ps.zip xs,∃v,(q.1,v)∈ps.zip vs/\VRep S w q.2 v
 |[],_,_,_,q,h=>by simp at h
 |p::ps,[],vs,_,q,h=>by simp at h
 |p::ps,x::xs,[],h2,q,h=>h2.elim
 |p::ps,x::xs,v::vs,h2,q,h=>by
  simp only[Ø,jl]at h;rcases h with rfl|h
  .exact⟨v,af,h2.1⟩
  .obtain⟨u,h3,h4⟩:=Ug h2.2 q h;exact⟨u,by simp[h3],h4⟩
theorem Uh:∀(ps:H G)(vs:H Y),pB ps=X->pB ((ps.zip vs).map (·.1))=X
 |[],_,_=>by simp[pB]
 |p::ps,[],_=>by simp[pB]
 |p::ps,v::vs,h=>by
  simp only[pB,ji,qi,qo,ku,Ø,qe]at h ⊢;refine⟨λhm=>h.1 ?_,Uh ps vs h.2⟩;obtain⟨q,hq,he⟩:=ki.1 hm;rw[<-he];exact(ß hq).1
theorem ļ{kd:Æ}{t:Ty}{xs:H t.den}{c:Ï}(h:kd=X->t=segT):(CC kd t xs c).length=cond kd 1 2:=by
 cases kd with
 |false=>rfl
 |true=>have:=h rfl;subst this;rfl
theorem Ľ{P:Â}{E:Env}(iP:∀f t,E.bw f=B t->BwK P f t)(mq:E.N.pin=λ_=>U){b n:G}{g:Ô}{ps:Ã G}{x y:Ò}
  (rv:∀l,dN x=X->GN P (E.rnd ps x y) (B l) x)(ry:∀l,dN y=X->GN P (E.rnd ps x y) (B l) y)
  (ľ:Bn E b (.rangeFunc g ps x y)){R:Type}{k:Ex->St->O R}{r:R}(hm:Bo w0 refs)(hR:Rel E.N E.np S0 w0 refs σ a w S γ)(hc:dn σ)
  (h:fw E b (.rangeFunc g ps x y) σ k=B r) :
  (Code.rangeFunc g ps x y).wpIn (FR Á) n P (Post E S0 w0 refs (dN (.rangeFunc g ps x y)) k r) a w:=by
 refine Ĩ (n:=1) ?_;simp only[fw]at h;split at h
 case h_2=>simp at h
 rename_i f t xs mO;split at h
 case h_2=>simp at h
 rename_i kd bJ;split at h
 case h_2=>simp at h
 rename_i s hs;obtain⟨Ŀ,e,s',DW,hk⟩:=ľ _ R _ r h;have bI:=lV hR g;rw[mO]at bI;obtain⟨⟨cv,Ui,ln⟩,_⟩:=bI;obtain⟨S1,γ1,bB,eS⟩:=wb hR hc hs
 have parts:∀f t kd,rfK E b f t ps x y=B kd->E.bw f=B (kd,t)/\(kd=X->t=segT)/\ps.toList.length=cond kd 1 2/\pB ps.toList=X/\(∀p∈ps.toList,p<E.N.n)/\dN x=X/\dN y=X/\pinK ps x y (E.keep b)=true:=by
  intro f t kd bJ;unfold rfK at bJ;split at bJ
  case h_2=>simp at bJ
  rename_i q hq;cases rz:(decide (q.2=t)&&(cond q.1 (decide (t=segT)) X&&(decide (ps.toList.length=cond q.1 1 2)&&(pB ps.toList&&(ps.toList.all (λp=>decide (p<E.N.n))&&(dN x&&(dN y&&pinK ps x y (E.keep b)))))))) with
  |false=>rw[rz]at bJ;simp at bJ
  |true=>
  rw[rz,jc,jb]at bJ;subst bJ;simp only[ji,jr,ka]at rz;obtain⟨h1,h0,h2,h3,h4,h5,h6,h7⟩:=rz;exact⟨by rw[hq,<-h1],λhk=>by rw[hk]at h0;exact qb h0,h2,h3,h4,h5,h6,h7⟩
 obtain⟨AZ,Uj,h2,dP,au,yH,yI,Uk⟩:=parts f t kd bJ;obtain⟨⟨Ul,LO,wv,bY⟩,Bi⟩:=(iP f _ AZ).it Uj
 have ŀ:∀args w,(callFunc f args).run P w = .ok (.enter f args) w:=λargs w=>by
  have kX:¬Ul.body=none:=λhn=>by rw[hn]at wv;simp at wv
  have vT : ¬ Ul.name = "runtime.NumGoroutine" := by simpa using bY
  simp[callFunc,LO,kX,vT]
 refine wpIn_rangeFunc λfn _=>?_;obtain⟨rec,gi⟩:∃rec:LoopState->O Ò->Loop,rec=λst pe=>{ state:=st,pending:=pe,fn,tmps:=a.tmps,params:=ps,assign:=x,body:=y,defers:=w.heap.size }:=⟨_,rfl⟩;obtain⟨W1,Br⟩:∃W1,(w.alloc (.deferred (B []))).alloc (.loop (rec .ready Á))=W1:=⟨_,rfl⟩
 refine⟨w.heap.size+1,[{ target:= .collected w.heap.size,args:=#[] }],W1,{ target:= .fn (.func f) cv,args:=#[.func (.yield (w.heap.size+1)) #[] #[]] },W1,f,
  #[.func (.yield (w.heap.size+1)) #[] #[]]++cv,W1,?_,?_,λ_ _=>trivial,?_,λhd=>by simp[FR,Ú]at hd,?_⟩
 .rw[<-Br,gi];exact run_enterLoop_outer _ _ _ _ _
 .simp only[resolve,Ui];simp[go_sem]
 .simp[invoke,go_sem,ŀ]
 obtain⟨l,hl⟩:∃l,l=w.heap.size+1:=⟨_,rfl⟩;rw[<-hl];let cL:(G->O Y)->Obj->Refs:=λfx o=>{ blks:=refs.blks,val:=refs.val,ds:=[],kw:=λg=>if g=l then B o else if g=w.heap.size then B (.deferred (B [])) else refs.kw g,fix:=fx,mv:=refs.mv }
 let fx:G->O Value:=λi=>if AA ps x y i then B (a.tmps.getD i undef) else Á
 let aI:Go.Act:={ tmps:=a.tmps,defers:=[] }
 have iz:∀fx o,(cL fx o).kw l=B o:=λfx o=>by simp[cL]
 have ub:w0.heap.size<=l:=by have:=hR.grow;omega
 have bA:∀fx o,Bo w0 (cL fx o):=λfx o=>⟨ã,λd hd=>by simp[cL]at hd⟩
 have mj:∀{N:NT}{fx:G->O Y}{o o':Obj}{σ:St}{a:À}{W:Z}{S:aU}{γ:G->Y},o.isCells=U->o'.isCells=U->Rel N E.np S0 w0 (cL fx o) σ a W S γ->
   Rel N E.np S0 w0 (cL fx o') σ a (W.putObj l o') S γ:=by
  intro N fx o o' σ a W S γ h1 h2 hR;have:=hR.putO (iz fx o) ub h1 h2;refine this.swap rfl rfl this.size this.defers this.slot (λg u hg=>this.kept g u ?_) this.fix;simp only[cL]at hg ⊢;split
  .rename_i e;subst e;simpa using hg
  .rename_i e;simpa[e]using hg
 have rA:∀{N N':NT}{fx LQ:G->O Y}{o:Obj}{K:Keep}{s:Snap}{a a':À}{W:Z}{S:aU}{γ:G->Y},Rel N E.np S0 w0 (cL fx o) (dv E.np K s) a W S γ->a'.tmps.size=N'.n->a'.defers=[]->
   (∀i∈K.slots,tm a' i=tm a i)->(∀i v,LQ i=B v->N'.pin i=X/\a'.tmps.getD i undef=v)->Rel N' E.np S0 w0 (cL LQ o) (dv E.np K s) a' W S γ:=by
  intro N N' fx LQ o K s a a' W S γ hR h1 h2 h3 h4;exact hR.frame rfl rfl h1 h2 h3 (λg u hg=>hR.kept g u hg) h4
 have rB:∀i v,(λ_=>Á:G->O Y) i=B v->E.N.pin i=X/\aI.tmps.getD i undef=v:=λi v h=>by simp at h
 let J:Ï->aU->Z->Prop:=λc S W=>∃s γ fu,Rel E.N E.np S0 w0 (cL (λ_=>Á) (.loop (rec .ready Á))) (dv E.np (E.keep b) s) aI W S γ/\dn (dv E.np (E.keep b) s)/\
  loopN (AB E b g ps x y) fu (.s (.one (.d (.int .i64) c))::s)=B (e,s')
 let Je:Z->Prop:=λW=>∃S γ,Rel E.N E.np S0 w0 (cL (λ_=>Á) (.loop (rec .ready Á))) (dv E.np (E.keepX b e) s') aI W S γ/\dn (dv E.np (E.keepX b e) s')/\e = .normal
 let Jx:Z->Prop:=λW=>∃S γ c,Rel E.N E.np S0 w0 (cL (λ_=>Á) (.loop (rec .done (B c)))) (dv E.np (E.keepX b e) s') aI W S γ/\dn (dv E.np (E.keepX b e) s')/\
  ((e = .ret/\c = .ret)\/∃i,e = .exit i/\c = .exit i)
 have wx:∀K:Keep,pinK ps x y K=X->∀i∈K.slots,AA ps x y i=true:=λK hK i hi=>ka.1 hK i hi;have wy:∀i,AA ps x y i=X->i∉ps.toList:=by intro i hi;simp only[AA,ji,qi,qo,ku]at hi;exact hi.1
 have Bq:J (CA kd xs.length) S1 W1:=by
  refine⟨s,γ1,Ŀ,?_,eS,DW⟩;have hA:=(bB.allocO (.deferred (B []))).allocO (.loop (rec .ready Á));rw[Br]at hA;refine hA.frame rfl rfl hR.size rfl (λi _=>rfl) (λg' u az=>?_) rB;simp only[cL]at az;split at az
  .rename_i e';simp only[jb]at az;subst az;rw[e',hl];refine⟨?_,λk' b' aK db=>?_⟩
   .rw[<-Br];have:=ç (w.alloc (.deferred (B []))) (.loop (rec .ready Á));rwa[World.size_alloc]at this
   .have:=jQ (bB.box k' b' aK) db;omega
  .split at az
   .rename_i _ e';simp only[jb]at az;subst az;rw[e'];refine⟨?_,λk' b' aK db=>?_⟩
    .rw[<-Br];exact(heap_alloc_old _ _ af).trans (ç w _)
    .have:=jQ (bB.box k' b' aK) db;omega
   .exact hA.kept g' u az
 have Ł:aI.eval g=a.eval g:=by cases g<;>rfl
 have LS:aI.tmps.size=E.N.n:=hR.size
 have DX:∀{K:Keep}{s:Snap}{o:Obj}{W W':Z}{S:aU}{γ:G->Y},Grew W W'->Rel E.N E.np S0 w0 (cL (λ_=>Á) o) (dv E.np K s) aI W S γ->Rel E.N E.np S0 w0 (cL (λ_=>Á) o) (dv E.np K s) aI W' S γ:=
  λhg h1=>h1.grew hg ⟨λ_ _ h=>h,λ_ _ h=> .inl h,λg o h=>zb (h1.here g o h) hg.size⟩
 refine CallsIn.mono (Bi cv l J Je Jx W1 S1 xs (λc S W S' W' hg hs ⟨s,γ,fu,h1,h2,h3⟩=>⟨s,γ,fu,h1.grew hg hs,h2,h3⟩) (λW W' hg ⟨S,γ,h1,h2⟩=>⟨S,γ,DX hg h1,h2⟩) (λW W' hg ⟨S,γ,c,h1,h2⟩=>⟨S,γ,c,DX hg h1,h2⟩)
  (λc S W ⟨s,γ,fu,h1,_⟩=>h1.here) ?_ ?_ Bq) ?_
 ·-- a round
  rintro cn S W ⟨s,γ,fu,Bs,Um,sN⟩
  cases fu with
  |zero=>simp[loopN]at sN
  |succ fu=>
  simp only[loopN]at sN;cases aO:AB E b g ps x y (.s (.one (.d (.int .i64) cn))::s) with
  |none=>rw[aO]at sN;simp at sN
  |some r0=>
  rw[aO]at sN;unfold AB CG at aO;dsimp only at aO;split at aO
  case h_2=>simp at aO
  rename_i f' t' dg LU;split at aO
  case h_2=>simp at aO
  rename_i ł oP;have lY:=lV Bs g;rw[LU,Ł,Ui]at lY;obtain⟨⟨cv',DY,dO⟩,_⟩:=lY;simp only[Value.func.injEq,Fn.func.injEq,qm]at DY;obtain⟨rfl,rfl⟩:=DY;have ht:=(parts f t' ł oP).1;rw[AZ]at ht;simp only[jb,jf]at ht;obtain⟨rfl,rfl⟩:=ht;refine⟨dg,dO,λLV=>?_,λLV=>?_⟩
  .rw[LV,jc]at aO;cases oU:pinK ps x y (E.keepX b .normal) with
   |false=>rw[oU]at aO;simp at aO
   |true=>
   rw[oU,jc]at aO;split at aO
   case h_2=>simp at aO
   rename_i s3 Ń;simp only[jb]at aO;subst aO;simp only[jb,jf]at sN;obtain⟨rfl,rfl⟩:=sN;obtain⟨S5,γ5,oa,DZ⟩:=wb Bs Um Ń;exact⟨S5,γ5,oa,DZ,rfl⟩
  rw[LV,jd]at aO;cases hle:itOk kd dg.length cn with
  |false=>rw[hle]at aO;simp at aO
  |true=>
  rw[hle,jc]at aO;refine⟨rfl,λSg Wg vs ń D0 iK=>?_⟩;have Bs:=Bs.grew ń D0;have vK:vs.toArray.size=ps.size:=by have e1:=iK.length;rw[ļ Uj]at e1;simp only[yc];rw[<-e1,<-h2,qg]
  refine⟨fn,_,x,y,by have:=run_yield (P:=P) (args:=vs.toArray) (Bs.kept l _ (iz _ _)).1 (by rw[gi];exact vK);rw[gi]at this;exact this,roundIn_of_wpIn trivial ?_⟩;let a1:Go.Act:={ tmps:=(ps.zip vs.toArray).foldl (λt (q:G×Y)=>t.setIfInBounds q.1 q.2) a.tmps,defers:=[] }
  have fo:(ps.zip vs.toArray).toList=ps.toList.zip vs:=af;have DP:a1.tmps=(ps.toList.zip vs).foldl (λt (q:G×Y)=>t.setIfInBounds q.1 q.2) a.tmps:=by show (ps.zip vs.toArray).foldl _ _=_;rw[<-Array.foldl_toList,fo]
  have fe:∀i,i∈(ps.toList.zip vs).map (·.1)->i∈ps.toList:=λi hi=>by
   obtain⟨q,hq,rfl⟩:=ki.1 hi;exact(ß hq).1
  have LW:pB ((ps.toList.zip vs).map (·.1))=true:=Uh _ _ dP;obtain⟨Gs,iX,Un⟩:=Ue (ps.toList.zip vs) a.tmps LW (λq hq=>by rw[hR.size];exact au _ (ß hq).1);rw[<-DP]at Gs iX Un;have LX:a1.tmps.size=E.N.n:=Un.trans hR.size;have yA:∀i,i∉ps.toList->tm a1 i=tm aI i:=λi hi=>iX i (λh=>hi (fe i h))
  have Ņ:Rel (E.rnd ps x y).N E.np S0 w0 (cL fx (.loop (rec .ready Á))) (dv E.np (E.keep b) s) a1 Wg Sg γ:=rA Bs LX rfl (λi hi=>yA i (wy i (wx _ Uk i hi))) (λi u hu=>by
   simp only[fx]at hu;split at hu
   .rename_i hp;simp only[jb]at hu;refine⟨hp,?_⟩;show tm a1 i=u;rw[yA i (wy i hp)];exact hu
   .simp at hu)
  obtain⟨ņ,qY⟩:=Uf (ps.toList.zip (CC kd t dg cn)) Ņ Um (λq hq=>by
   obtain⟨v,h3,h4⟩:=Ug iK q hq;have:=Gs _ h3;show VRep Sg Wg q.2 (a1.tmps.getD q.1 undef);rw[this];exact h4)
  refine wpIn_mono (rv l yH 0 0 (bA _ _) (by rw[wu x 0 yH];simp) ņ qY aO) ?_
  rintro e1 a2 w2 ⟨gg,ex,σ2,S2,γ2,_,fp,rfl,cB,fy,eR⟩
  have:=fp yH;subst this;cases ex with
  |exit i=>simp at eR
  |ret=>simp at eR
  |normal=>
  refine⟨_,run_beginRound (cB.kept l _ (iz _ _)).1 (by rw[gi]),?_⟩;have fI:Rel (E.rnd ps x y).N E.np S0 w0 (cL fx (.loop (rec .busy Á))) σ2 a2 (w2.putObj l (.loop { rec .ready Á with state:= .busy })) S2 γ2:=by have:=mj (o':= .loop (rec .busy Á)) rfl rfl cB;rw[gi]at this ⊢;exact this
  refine wpIn_mono (ry l yI 0 0 (bA _ _) (by rw[wu y 0 yI];simp) fI fy eR) ?_
  rintro e1 a3 w3 ⟨Uo,ex,σ3,S3,γ3,_,fp,rfl,nZ,pQ,yJ⟩
  have:=fp yI;subst this
  have mu:∀{K:Keep}{s:Snap}{o:Obj}{W:Z}{S:aU}{γ:G->Y},pinK ps x y K=X->Rel (E.rnd ps x y).N E.np S0 w0 (cL fx o) (dv E.np K s) a3 W S γ->
    Rel E.N E.np S0 w0 (cL (λ_=>Á) o) (dv E.np K s) aI W S γ:=λhK hR=>rA hR LS rfl (λi hi=>by
   have:=(hR.fix i (a.tmps.getD i undef) (by simp only[cL,fx];rw[if_pos (wx _ hK i hi)])).2;exact this.symm) rB
  have rC:∀(ex:Ex)(c:Ò),((ex = .ret/\c = .ret)\/∃i,ex = .exit i/\c = .exit i)->
    (cond (pinK ps x y (E.keepX b ex)) (match jM E.np (E.keepX b ex) σ3 with
     |some s'=>B (Sum.inr (ex,s'))
     |none=>Á) Á:O (Snap ⊕ Ex×Snap))=B r0->
    ∃v w',(ú l (B c)).run P w3 = .ok v w'/\((Î v = .returned (.bool X)/\∃S',J (CB kd cn) S' w')\/(Î v = .returned (.bool U)/\Jx w')):=by
   intro ex c hex rD;cases oU:pinK ps x y (E.keepX b ex) with
   |false=>rw[oU]at rD;simp at rD
   |true=>
   rw[oU,jc]at rD;split at rD
   case h_2=>simp at rD
   rename_i s2 lM;simp only[jb]at rD;subst rD;simp only[jb,jf]at sN;obtain⟨rfl,rfl⟩:=sN;obtain⟨S5,γ5,oa,DZ⟩:=wb nZ pQ lM;refine⟨_,_,run_endRound (B c) (oa.kept l _ (iz _ _)).1,.inr ⟨rfl,S5,γ5,c,?_,DZ,hex⟩⟩;have:=mj (o':= .loop (rec .done (B c))) rfl rfl (mu oU oa);rw[gi]at this ⊢;exact this
  cases ex with
  |normal=>
   dsimp only at yJ
   split at yJ
   case h_2=>simp at yJ
   rename_i s2 lM;simp only[jb]at yJ;subst yJ;obtain⟨S5,γ5,oa,DZ⟩:=wb nZ pQ lM;show∃v w',(ú l Á).run P w3 = .ok v w'/\_;refine⟨_,_,run_endRound Á (oa.kept l _ (iz _ _)).1,.inl ⟨rfl,S5,s2,γ5,fu,?_,DZ,?_⟩⟩
   .have:=mj (o':= .loop (rec .ready Á)) rfl rfl (mu Uk oa);rw[gi]at this ⊢;exact this
   .exact sN
  |exit i=>exact rC _ _ (.inr ⟨i,rfl,rfl⟩) yJ
  |ret=>exact rC _ _ (.inl ⟨rfl,rfl⟩) yJ
 .refine⟨S,λg o h=>by rw[<-Br];have:=hR.here g o h;simp;omega,ln.mono λx z hx=>?_⟩;rw[<-Br]
  exact jO.keep (λg o h=>⟨h,by
   have:=hR.here g o h;rw[è _ _ _ ay,è _ _ _ this]⟩) hx
 .rintro e2 W2 ⟨⟨v,rfl⟩,gP⟩
  have mu:∀{K:Keep}{s:Snap}{o:Obj}{W:Z}{S:aU}{γ:G->Y},Rel E.N E.np S0 w0 (cL (λ_=>Á) o) (dv E.np K s) aI W S γ->
    ∃refs',wm w0 refs refs'/\Rel E.N E.np S0 w0 refs' (dv E.np K s) { a with defers:=[{ target:= .collected w.heap.size,args:=#[] }]++a.defers } W S γ:=by
   intro K s o W S γ Up;refine⟨{ blks:=refs.blks,val:=refs.val,ds:={ target:= .collected w.heap.size,args:=#[] }::refs.ds,kw:=λg=>if g=w.heap.size then B (.deferred (B [])) else refs.kw g,fix:=refs.fix,mv:=refs.mv },⟨rfl,rfl,rfl,⟨?_,?_⟩,rfl⟩,?_⟩
   .refine zg.2 ⟨λjV=>?_,hm.1⟩;obtain⟨D,hD,_,Uq⟩:=hm.2 _ jV;simp only[Deferred.mk.injEq,Target.collected.injEq,and_true]at hD;rw[<-hD,hR.kw_new (jy _)]at Uq;simp at Uq
   .intro d hd;rcases jl.1 hd with rfl|hd
    .exact⟨w.heap.size,rfl,hR.grow,af⟩
    .obtain⟨D,rfl,h1,h2⟩:=hm.2 d hd;refine⟨D,rfl,h1,?_⟩;show (if D=w.heap.size then _ else refs.kw D)=_;rw[if_neg,h2]
     rintro rfl
     rw[hR.kw_new (jy _)]at h2;simp at h2
   .refine Up.frame rfl rfl hR.size (by rw[hR.defers];rfl) (λi _=>rfl) (λg' u az=>Up.kept g' u ?_) (λi v hv=>?_)
    .simp only[cL]at az ⊢;by_cases h1:g'=l
     .exfalso;subst h1;rw[if_neg aa,hR.kw_new aa]at az;simp at az
     .rw[if_neg h1];exact az
    .have:=(hR.fix i v hv).1;rw[mq]at this;simp at this
  rcases gP with⟨S2,γ2,uc,Ň,rfl⟩|⟨S2,γ2,c,tR,Gc,hex⟩
  .refine⟨Á,_,by have:=run_endLoop (P:=P) (uc.kept l _ (iz _ _)).1 (by rw[gi];simp);rw[gi]at this;exact this,?_⟩;have wz:=mj (o':= .loop { rec .ready Á with state:= .exhausted }) rfl rfl uc;obtain⟨refs',hle,uc⟩:=mu wz;rw[gi]at uc;exact⟨refs',.normal,_,S2,γ2,hle,λhf=>by simp[dN]at hf,rfl,uc,Ň,hk⟩
  .have wz:=mj (o':= .loop { rec .done (B c) with state:= .exhausted }) rfl rfl tR;obtain⟨refs',hle,uc⟩:=mu wz;refine⟨B c,_,by have:=run_endLoop (P:=P) (tR.kept l _ (iz _ _)).1 (by rw[gi];simp);rw[gi]at this;exact this,?_⟩;rw[gi]at uc;rcases hex with⟨rfl,rfl⟩|⟨i,rfl,rfl⟩
   .exact wpIn_ret ⟨refs',.ret,_,S2,γ2,hle,λhf=>by simp[dN]at hf,rfl,uc,Gc,hk⟩
   .exact wpIn_exit ⟨refs',.exit i,_,S2,γ2,hle,λhf=>by simp[dN]at hf,rfl,uc,Gc,hk⟩
def MrS(P:Â)(Bt:G->O (G×G)):Prop:=
 ∀{E:Env},E.mr=Bt->cI P E.T->jS P E.C->CFun E.C->(∀f t,E.bw f=B t->BwK P f t)->(E.N.pin=λ_=>U)->
  ∀(x y:Ò)(b n:G)(pl:Æ){S0:aU}{w0:Z}{refs:Refs}{σ:St}{a:À}{w:Z}{S:aU}{γ:G->Y}{R:Type}{k:Ex->St->O R}{r:R},Bo w0 refs->
   (∀z∈eD b y,MrOK E z.1 z.2)->Rel E.N E.np S0 w0 refs σ a w S γ->dn σ->CE E x y=X->CF E x y σ k=B r->(Code.seq x y).wpIn (FR Á) n P (Post E S0 w0 refs pl k r) a w
theorem ň{E:Env}{x y:Ò}(h:CE E x y=X):dN (.seq x y)=false:=by
 unfold CE at h;split at h
 .simp[dN]
 .simp at h
theorem ŉ{P:Â}(h9:P.follows .mixedOrders=X){Bt:G->O (G×G)}(LY:MrS P Bt):∀(c:Ò){E:Env}{ro:O G},cI P E.T->jS P E.C->CFun E.C->E.mr=Bt->
  (∀f t,E.bw f=B t->BwK P f t)->(dN c=X\/(ro=Á/\E.N.pin=λ_=>U))->GN P E ro c:=by
 intro c;induction c with
 |skip=>intro E ro hT hC hF hE gr hp b n S0 w0 refs σ a w S γ R k r hm hL hR hc h;exact wpIn_skip ⟨refs,.normal,σ,S,γ,⟨rfl,rfl,rfl,hm,rfl⟩,λ_=>rfl,rfl,hR,hc,h⟩
 |label l=>intro E ro hT hC hF hE gr hp b n S0 w0 refs σ a w S γ R k r hm hL hR hc h;exact wpIn_label ⟨refs,.normal,σ,S,γ,⟨rfl,rfl,rfl,hm,rfl⟩,λ_=>rfl,rfl,hR,hc,h⟩
 |region LZ ops draw=>
  intro E ro hT hC hF hE gr hp b n S0 w0 refs σ a w S γ R k r hm hL hR hc h
  have Bu:ro=Á\/∀o∈ops.toList,∀c,o.op ≠ .defer c:=hp.elim (λhp=> .inr λo ho c hd=>by
   have:=ka.1 hp o ho;simp[RF,hd]at this) λh=> .inl h.1
  cases draw with
  |true=>simp only[fw]at h;obtain⟨σ,S,γ,hR,hc,h⟩:=LH hR hc h;exact wpIn_region_any h9 (GJ Bu LI _ _ _ _ (ĥ hT hC hF hR hc (λσ' a' w' S' γ' cT dr hk=>⟨refs,.normal,σ',S',γ',⟨rfl,rfl,rfl,hm,rfl⟩,λ_=>rfl,rfl,cT,dr,hk⟩) h))
  |false=>
   simp only[fw]at h;obtain⟨σ,S,γ,hR,hc,h⟩:=LH hR hc h;cases hks:E.ks LZ with
   |true=>rw[hks,jc]at h;exact wpIn_region (Bj Bu LI _ _ _ (ĸ hT hC gr hR hc (λσ' a' w' S' γ' cT dr hk=>⟨refs,.normal,σ',S',γ',⟨rfl,rfl,rfl,hm,rfl⟩,λ_=>rfl,rfl,cT,dr,hk⟩) h))
   |false=>rw[hks,jd]at h;exact wpIn_region (Bj Bu LI _ _ _ (Tt hT hC hR hc (λσ' a' w' S' γ' cT dr hk=>⟨refs,.normal,σ',S',γ',⟨rfl,rfl,rfl,hm,rfl⟩,λ_=>rfl,rfl,cT,dr,hk⟩) h))
 |seq x y rv ry=>
  intro E ro hT hC hF hE gr hp b n S0 w0 refs σ a w S γ R k r hm hL hR hc h;simp only[fw]at h;cases GO:CE E x y with
  |true=>rw[GO,jc]at h;obtain⟨rfl,mq⟩:=hp.resolve_left (by rw[ň GO];simp);exact LY hE hT hC hF gr mq x y b n _ hm (λz hz=>(hL z (by simp[eD,hz])).2) hR hc GO h
  |false=>
  rw[GO,jd]at h;have yH:dN x=X\/(ro=Á/\E.N.pin=λ_=>U):=hp.imp (λh=>by simp only[dN,ji]at h;exact h.1) id;have yI:dN y=X\/(ro=Á/\E.N.pin=λ_=>U):=hp.imp (λh=>by simp only[dN,ji]at h;exact h.2) id;refine wpIn_seq (wpIn_mono (rv hT hC hF hE gr yH b n hm (λz hz=>hL z (by simp[eD,hz])) hR hc h) ?_)
  rintro e a' w' ⟨refs',ex,σ',S',γ',hle,fp,rfl,cT,dr,hk⟩
  have hx:dN (.seq x y)=X->refs'=refs:=λh=>by simp only[dN,ji]at h;exact fp h.1
  cases ex with
  |normal=>
   refine wpIn_mono (ry hT hC hF hE gr yI b n hle.marks (λz hz=>hL z (by simp[eD,hz])) cT dr hk) ?_
   rintro e2 a2 w2 ⟨gg,ex,σ2,S2,γ2,eV,L0,rfl,cB,fy,eR⟩
   refine⟨gg,ex,σ2,S2,γ2,hle.trans eV,λh=>?_,rfl,cB,fy,eR⟩;have h1:=hx h;simp only[dN,ji]at h;rw[L0 h.2,h1]
  |exit i=>exact⟨refs',.exit i,σ',S',γ',hle,hx,rfl,cT,dr,hk⟩
  |ret=>exact⟨refs',.ret,σ',S',γ',hle,hx,rfl,cT,dr,hk⟩
 |cond c x y rv ry=>
  intro E ro hT hC hF hE gr hp b n S0 w0 refs σ a w S γ R k r hm hL hR hc h;simp only[fw]at h;have yH:dN x=X\/(ro=Á/\E.N.pin=λ_=>U):=hp.imp (λh=>by simp only[dN,ji]at h;exact h.1) id;have yI:dN y=X\/(ro=Á/\E.N.pin=λ_=>U):=hp.imp (λh=>by simp only[dN,ji]at h;exact h.2) id;split at h
  .rename_i v hv;have mO:=lV hR c;rw[hv]at mO;have L1:a.eval c = .bool v:=sq mO;refine wpIn_cond L1 ?_;cases v with
   |true=>
    rw[jc,RE hv]at h;refine wpIn_mono (rv hT hC hF hE gr yH b n hm (λz hz=>hL z (by simp[eD,hz])) hR hc h) ?_
    rintro e a' w' ⟨refs',ex,σ',S',γ',hle,fp,he,hr⟩
    exact⟨refs',ex,σ',S',γ',hle,λh=>by simp only[dN,ji]at h;exact fp h.1,he,hr⟩
   |false=>
    rw[jd,RE hv]at h;refine wpIn_mono (ry hT hC hF hE gr yI b n hm (λz hz=>hL z (by simp[eD,hz])) hR hc h) ?_
    rintro e a' w' ⟨refs',ex,σ',S',γ',hle,fp,he,hr⟩
    exact⟨refs',ex,σ',S',γ',hle,λh=>by simp only[dN,ji]at h;exact fp h.2,he,hr⟩
  .simp at h
 |block id c ih=>
  intro E ro hT hC hF hE gr hp b n S0 w0 refs σ a w S γ R k r hm hL hR hc h;simp only[fw]at h;refine wpIn_block (wpIn_mono (ih hT hC hF hE gr hp id n hm (λz hz=>hL z (by simpa[eD]using hz)) hR hc h) ?_)
  rintro e a' w' ⟨refs',ex,σ',S',γ',hle,fp,rfl,cT,dr,hk⟩
  cases ex with
  |normal=>exact⟨refs',.normal,σ',S',γ',hle,fp,rfl,cT,dr,hk⟩
  |exit i=>
   simp only[exOf,Exit.inBlock];simp only at hk;split
   .rename_i hi;rw[if_pos hi]at hk;exact⟨refs',.normal,σ',S',γ',hle,fp,rfl,cT,dr,hk⟩
   .rename_i hi;rw[if_neg hi]at hk;exact⟨refs',.exit i,σ',S',γ',hle,fp,rfl,cT,dr,hk⟩
  |ret=>exact⟨refs',.ret,σ',S',γ',hle,fp,rfl,cT,dr,hk⟩
 |scope c ih=>intro E ro hT hC hF hE gr hp b n S0 w0 refs σ a w S γ R k r hm hL hR hc h;simp only[fw]at h;refine Ĭ (λl a w hq=>?_) (ih hT hC hF hE gr hp b n hm (λz hz=>hL z (by simpa[eD]using hz)) hR hc h);obtain⟨_,ex,_,_,_,_,_,he,_⟩:=hq;cases ex<;>simp[exOf]at he
 |loop c ih=>
  intro E ro hT hC hF hE gr hp b n S0 w0 refs σ a w S γ R k r hm hL hR hc h;have Ur:=hp.resolve_left (by simp[dN]);simp only[fw]at h;cases L2:isRf c with
  |true=>rw[L2]at h;simp at h
  |false=>
  rw[L2,jd]at h;cases jU:Nat.blt 0 (E.un b) with
  |true=>
   rw[jU,jc]at h;refine T6 (λn a w=>∃refs' σ' S γ,wm w0 refs refs'/\Rel E.N E.np S0 w0 refs' σ' a w S γ/\dn σ'/\∃i,uW (λi σ k=>fw (E.offR (cond (eD b c).isEmpty i 0)) b c σ k) n i σ' k=B r) ⟨refs,σ,S,γ,⟨rfl,rfl,rfl,hm,rfl⟩,hR,hc,0,h⟩ ?_
   rintro m a1 w1 ⟨D1,σ1,S2,γ2,gL,cB,fy,i,jV⟩
   cases m with
   |zero=>simp[uW]at jV
   |succ m=>
    simp only[uW]at jV
    have Ŋ:∀z∈eD b c,Bn (E.offR (cond (eD b c).isEmpty i 0)) z.1 z.2/\MrOK (E.offR (cond (eD b c).isEmpty i 0)) z.1 z.2:=by
     intro z hz;cases he:eD b c with
     |nil=>rw[he]at hz;simp at hz
     |cons q l=>exact hL z (by simp[eD,hz])
    refine wpIn_mono (ih (E:=E.offR (cond (eD b c).isEmpty i 0)) hT hC hF hE gr (.inr Ur) b n gL.marks Ŋ cB fy jV) ?_
    rintro e2 a2 w2 ⟨gg,ex,σ2,S3,γ3,eV,_,rfl,fI,tY,jW⟩
    cases ex with
    |normal=>exact⟨m,õ m,gg,σ2,S3,γ3,gL.trans eV,fI,tY,i+1,jW⟩
    |exit i=>exact⟨gg,.exit i,σ2,S3,γ3,gL.trans eV,λhf=>by simp[dN]at hf,rfl,fI,tY,jW⟩
    |ret=>exact⟨gg,.ret,σ2,S3,γ3,gL.trans eV,λhf=>by simp[dN]at hf,rfl,fI,tY,jW⟩
  |false=>
  rw[jU,jd]at h;split at h
  .rename_i s hs;obtain⟨n1,e,s',hn,hk⟩:=(hL (b,c) (by simp[eD])).1 s R _ r h
   have gQ:J7 E b c=xi E b c:=by
    funext s
    cases c<;>first|rfl|simp[isRf]at L2
   rw[gQ]at hn;obtain⟨S1,γ1,bB,eS⟩:=wb hR hc hs;refine T6 (λn a w=>∃refs' s S γ,wm w0 refs refs'/\Rel E.N E.np S0 w0 refs' (dv E.np (E.keep b) s) a w S γ/\dn (dv E.np (E.keep b) s)/\loopN (xi E b c) n s=B (e,s')) ⟨refs,s,S1,γ1,⟨rfl,rfl,rfl,hm,rfl⟩,bB,eS,hn⟩ ?_
   rintro m a1 w1 ⟨D1,s1,S2,γ2,gL,cB,fy,jV⟩
   cases m with
   |zero=>simp[loopN]at jV
   |succ m=>
    simp only[loopN]at jV;cases aO:xi E b c s1 with
    |none=>simp[aO]at jV
    |some out=>
     rw[aO]at jV;unfold xi at aO;refine wpIn_mono (ih hT hC hF hE gr (.inr Ur) b n gL.marks (λz hz=>hL z (by simp[eD,hz])) cB fy aO) ?_
     rintro e2 a2 w2 ⟨gg,ex,σ2,S3,γ3,eV,_,rfl,fI,tY,jW⟩
     cases ex with
     |normal=>
      simp only at jW;split at jW
      .rename_i s2 lM;simp only[jb]at jW;subst jW;obtain⟨S4,γ4,nZ,pQ⟩:=wb fI tY lM;exact⟨m,õ m,gg,s2,S4,γ4,gL.trans eV,nZ,pQ,jV⟩
      .simp at jW
     |exit i=>
      simp only at jW;split at jW
      .rename_i s2 lM;simp only[jb]at jW;subst jW;obtain⟨S4,γ4,nZ,pQ⟩:=wb fI tY lM;simp only[jb,jf]at jV;obtain⟨rfl,rfl⟩:=jV;exact⟨gg,.exit i,_,S4,γ4,gL.trans eV,λhf=>by simp[dN]at hf,rfl,nZ,pQ,hk⟩
      .simp at jW
     |ret=>
      simp only at jW;split at jW
      .rename_i s2 lM;simp only[jb]at jW;subst jW;obtain⟨S4,γ4,nZ,pQ⟩:=wb fI tY lM;simp only[jb,jf]at jV;obtain⟨rfl,rfl⟩:=jV;exact⟨gg,.ret,_,S4,γ4,gL.trans eV,λhf=>by simp[dN]at hf,rfl,nZ,pQ,hk⟩
      .simp at jW
  .simp at h
 |rangeFunc g ps x y rv ry=>
  intro E ro hT hC hF hE gr hp b n S0 w0 refs σ a w S γ R k r hm hL hR hc h;obtain⟨rfl,mq⟩:=hp.resolve_left (by simp[dN])
  exact Ľ gr mq (λl hx=>rv (E:=E.rnd ps x y) hT hC hF hE gr (.inl hx)) (λl hy=>ry (E:=E.rnd ps x y) hT hC hF hE gr (.inl hy))
   (hL (b,.rangeFunc g ps x y) (by simp[eD])).1 hm hR hc h
 |exit i=>intro E ro hT hC hF hE gr hp b n S0 w0 refs σ a w S γ R k r hm hL hR hc h;exact wpIn_exit ⟨refs,.exit i,σ,S,γ,⟨rfl,rfl,rfl,hm,rfl⟩,λ_=>rfl,rfl,hR,hc,h⟩
 |ret=>intro E ro hT hC hF hE gr hp b n S0 w0 refs σ a w S γ R k r hm hL hR hc h;exact wpIn_ret ⟨refs,.ret,σ,S,γ,⟨rfl,rfl,rfl,hm,rfl⟩,λ_=>rfl,rfl,hR,hc,h⟩
 |goto l=>intro E ro hT hC hF hE gr hp b n S0 w0 refs σ a w S γ R k r hm hL hR hc h;simp[fw]at h
 |refuse y=>intro E ro hT hC hF hE gr hp b n S0 w0 refs σ a w S γ R k r hm hL hR hc h;simp[fw]at h
end
def keyB(es:Ã ì):H (Y×G):=es.toList.map λe=>(e.key,e.born)
structure AtR(g r it since clock:G)(ks:H (Y×G))(es:Ã ì)(seen:Ã G)(a:À)(w:Z):Prop where
 map:w.heap[g]? = B (.map es clock)
 ks:keyB es=ks
 iter:w.heap[r]? = B (.mapIter (B g) since seen clock)
 ptr:tm a it = .pointer (B ⟨r,0,Á⟩)
section
variable{N:NT}{np:G}{S0:aU}{w0:Z}{refs:Refs}{σ:St}{a:À}{w:Z}{S:aU}{γ:G->Y}
structure Mix{β:Type}(xs ys:H (Ï×β))(seen:Ã G)(zs:H (Ï×β)):Prop where
 len:zs.length=xs.length
 get:∀i,zs[i]? = if seen.contains i=X then ys[i]? else xs[i]?
theorem beqF{i j:G}(h:i≠j):Nat.beq i j=false:=by
 cases hq:Nat.beq i j with
 |false=>rfl
 |true=>exact absurd (á hq) h
theorem ŋ{P:Â}(h9:P.follows .mixedOrders=X)(Bt:G->O (G×G)):MrS P Bt:=by
 intro E hE hT hC hF iP mq x y b n pl S0 w0 refs σ a w S γ R k r hm hMO hR hc D2 h;unfold CF at h;cases hz:E.nz<;>simp[hz]at h
theorem Ō{P:Â}(h9:P.follows .mixedOrders=X)(c:Ò){E:Env}{ro:O G}(hT:cI P E.T)(hC:jS P E.C)(hF:CFun E.C)(iP:∀f t,E.bw f=B t->BwK P f t)
 (hq:dN c=X\/(ro=Á/\E.N.pin=λ_=>U)):GN P E ro c:=ŉ h9 (ŋ h9 E.mr) c hT hC hF rfl iP hq
end
section
variable{N:NT}{np:G}{S0:aU}{w0:Z}{refs:Refs}{σ:St}{a:À}{w:Z}{S:aU}{γ:G->Y}
def yK:Arg->Æ
 |.ref _=>X
 |.rl _ _=>X
 |_=>U
def D3(args:H Arg)(vals:H Y)(k:G):O Value:=
 if k%64=0 then match args[k/64]? with
  |some x=>if yK x then vals[k/64]? else Á
  |none=>Á
 else Á
def oV(args:H Arg)(vals:H Y):Refs:={ blks:=eh args vals,val:=D3 args vals,mv:=mvOf args vals }
def γ0(vals:H Y)(k:G):Value:=vals.getD (k/64) undef
theorem D4:∀{as:H Arg}{us:H Y}{i:G}{x:Arg}{u:Y}{g:G},as[i]? = B x->us[i]? = B u->lh x u=B g->g∈eh as us
 |y::as,v::us,0,x,u,g,h,h',hg=>by
  simp at h h';subst h;subst h';simp[eh,hg]
 |y::as,v::us,i+1,x,u,g,h,h',hg=>by
  have:=D4 (as:=as) (us:=us) (i:=i) (by simpa using h) (by simpa using h') hg;simp[eh,this]
 |[],_,_,_,_,_,h,_,_=>by simp at h
 |_::_,[],_,_,_,_,_,h',_=>by simp at h'
theorem Us:∀{as:H Arg}{us:H Y}{i j:G}{x y:Arg}{u v:Y}{g:G},(eh as us).Nodup->as[i]? = B x->us[i]? = B u->as[j]? = B y->us[j]? = B v->
  lh x u=B g->lh y v=B g->i=j
 |z::as,t::us,0,0,_,_,_,_,_,_,_,_,_,_,_,_=>rfl
 |z::as,t::us,0,j+1,x,y,u,v,g,hn,hx,hu,hy,hv,h1,h2=>by
  simp at hx hu;subst hx;subst hu;have:=D4 (as:=as) (us:=us) (i:=j) (by simpa using hy) (by simpa using hv) h2;simp[eh,h1]at hn;exact absurd this hn.1
 |z::as,t::us,i+1,0,x,y,u,v,g,hn,hx,hu,hy,hv,h1,h2=>by
  simp at hy hv;subst hy;subst hv;have:=D4 (as:=as) (us:=us) (i:=i) (by simpa using hx) (by simpa using hu) h1;simp[eh,h2]at hn;exact absurd this hn.1
 |z::as,t::us,i+1,j+1,x,y,u,v,g,hn,hx,hu,hy,hv,h1,h2=>by
  have Lq:(eh as us).Nodup:=by simp only[eh]at hn;exact(zt.1 hn).2.1
  rw[Us Lq (i:=i) (j:=j) (by simpa using hx) (by simpa using hu) (by simpa using hy) (by simpa using hv) h1 h2]
 |[],_,_,_,_,_,_,_,_,_,h,_,_,_,_,_=>by simp at h
 |_::_,[],_,_,_,_,_,_,_,_,_,h,_,_,_,_=>by simp at h
theorem Ut:∀{as:H Arg}{us:H Y}{i e:G}{x:TV}{u:Y}{g:G},as[i]? = B (.mv e x)->us[i]? = B u->blk u=B g->g∈mvOf as us
 |y::as,v::us,0,e,x,u,g,h,h',hg=>by
  simp at h h';subst h;subst h';simp[mvOf,hg]
 |y::as,v::us,i+1,e,x,u,g,h,h',hg=>by
  have:=Ut (as:=as) (us:=us) (i:=i) (by simpa using h) (by simpa using h') hg;cases y<;>simp[mvOf,this]
 |[],_,_,_,_,_,_,h,_,_=>by simp at h
 |_::_,[],_,_,_,_,_,_,h',_=>by simp at h'
theorem ō{args:H Arg}{vals:H Y}(ha:All2 (nT S w) args vals)(dP:(eh args vals).Nodup)(hS:∀g o,S g o->g<w.heap.size)(hlen:args.length=np)(hN:np<=N.n) :
  Rel N np S w (oV args vals) (St.init args) ⟨vals.toArray++Ö (N.n-vals.toArray.size) undef,[]⟩ w S (γ0 vals)/\dn (St.init args):=by
 have vK:vals.length=np:=by rw[<-ha.length,hlen]
 have yA:∀i u,vals[i]? = B u->(vals.toArray++Ö (N.n-vals.toArray.size) undef).getD i undef=u:=by intro i u hu;have hi:i<vals.length:=(kf.1 hu).1;rw[zu,Array.getElem?_append_left (by simpa using hi)];simp[hu]
 have kZ:∀i u,vals[i]? = B u->γ0 vals (i*64)=u:=by intro i u hu;simp only[γ0];rw[yu _ aa];simp[hu]
 have ud:∀i u,vals[i]? = B u->γ0 vals (i*64+63)=u:=by intro i u hu;simp only[γ0];rw[show (i*64+63)/64=i by omega];simp[hu]
 have fa:∀k b,(St.init args).bx k = .live b->∃i x u,args[i]? = B x/\vals[i]? = B u/\nT S w x u/\((k=i*64/\mG (B x) = .live b)\/(k=i*64+63/\tp (B x) = .live b)):=by
  intro k b hb;simp only[St.init]at hb;split at hb
  .rename_i hk;cases hx:args[k/64]? with
   |none=>simp[hx,mG]at hb
   |some x=>obtain⟨u,hu,iO⟩:=ha.get _ x hx;exact⟨k/64,x,u,hx,hu,iO,.inl ⟨aa,by rw[hx]at hb;exact hb⟩⟩
  .split at hb
   .rename_i hk;cases hx:args[k/64]? with
    |none=>simp[hx,tp]at hb
    |some x=>obtain⟨u,hu,iO⟩:=ha.get _ x hx;exact⟨k/64,x,u,hx,hu,iO,.inr ⟨aa,by rw[hx]at hb;exact hb⟩⟩
   .simp at hb
 have rF:∀{x:Arg}{b:Bx},tp (B x) = .live b->∃e t xs,x = .mv e ⟨.list t,xs⟩/\b = .lst e t xs false:=by
  intro x b hb;cases x with
  |mv e y=>obtain⟨t,v⟩:=y;cases t<;>simp[tp]at hb;exact⟨_,_,_,rfl,hb.symm⟩
  |_=>simp[tp]at hb
 have D5:∀i x,args[i]? = B x->(St.init args).bx (i*64+63)=tp (B x):=by intro i x hx;simp only[St.init];rw[if_neg aa,if_pos aa,show (i*64+63)/64=i by omega,hx]
 have nB:∀i x,args[i]? = B x->(St.init args).bx (i*64)=mG (B x):=by intro i x hx;simp only[St.init];rw[if_pos aa,yu _ aa,hx]
 have hblk:∀x u b,mG (B x) = .live b->lh x u=blk u:=by intro x u b hb;cases x<;>first|rfl|simp[mG]at hb
 refine⟨⟨?_,rfl,?_,?_,?_,?_,λ_ _ h=>h,λ_ _ h=> .inl h,hS,λ_ _ _=>rfl,jy _,rfl,rfl,rfl,?_,λg o h=>by simp[oV]at h,λi v h=>by simp[oV]at h⟩,?_⟩
 .simp;omega
 .intro i
  have eN:(St.init args).sl i=match args[i]? with
   |some a=> .one (F0 i a)
   |none=> .one (.one .dead):=rfl
  rw[eN];cases hx:args[i]? with
  |none=>exact⟨trivial,λh=>absurd rfl h⟩
  |some x=>
   obtain⟨u,hu,iO⟩:=ha.get i x hx;show bM S w (γ0 vals) (St.init args).bx (F0 i x) _;rw[yA i u hu];have hb:=nB i x hx;cases x with
   |v x=>exact AU iO
   |ref ls=>obtain⟨g,cur,e,h1,_⟩:=id iO;exact⟨⟨by rw[hb];simp[mG],by rw[h1];rfl,λb _=>⟨g,(kZ i u hu).trans h1,h1⟩⟩,λ_=>by rw[h1];rfl⟩
   |rl e x=>obtain⟨t,xs,rfl,cd,_⟩:=id iO;have cV:One u:=cd.one;exact⟨⟨by rw[hb];simp[mG],cV,λb _=>(kZ i u hu).symm⟩,λ_=>cV⟩
   |ip ls=>obtain⟨g,o,cs,h1,_⟩:=id iO;exact⟨iO,λ_=>by rw[h1];rfl⟩
   |clo f caps=>obtain⟨cv,h1,_⟩:=id iO;exact⟨iO,λ_=>by rw[h1];rfl⟩
   |mv e x=>obtain⟨t,xs,rfl,cd,_⟩:=id iO.1;have cV:One u:=cd.one;have aK:=D5 i _ hx;exact⟨⟨by rw[aK];simp[tp],cV,λb _=>(ud i u hu).symm⟩,λ_=>cV⟩
 .intro k b hb;obtain⟨i,x,u,hx,hu,iO,⟨rfl,cQ⟩|⟨rfl,cQ⟩⟩:=fa k b hb
  .cases x with
   |ref ls=>simp only[mG,BS.live.injEq]at cQ;subst cQ;exact KP (kZ i u hu) iO
   |rl e x=>obtain⟨t,xs,rfl,_⟩:=id iO;simp only[mG,BS.live.injEq]at cQ;subst cQ;exact AS (kZ i u hu) iO
   |_=>simp[mG]at cQ
  .obtain⟨e,t,xs,rfl,rfl⟩:=rF cQ;exact AS (ud i u hu) iO.1
 .intro k b g hb hg;obtain⟨i,x,u,hx,hu,iO,⟨rfl,cQ⟩|⟨rfl,cQ⟩⟩:=fa k b hb
  .rw[kZ i u hu,<-hblk x u b cQ]at hg;refine .inr ⟨D4 hx hu hg,?_⟩;have:i<args.length:=(kf.1 hx).1;simp[parK];omega
  .obtain⟨e,t,xs,rfl,rfl⟩:=rF cQ;rw[ud i u hu]at hg;exact .inl (.inr ⟨Ut hx hu hg,D4 (x:= .mv e ⟨.list t,xs⟩) hx hu hg⟩)
 .intro k k' b b' g br hb aK hg az
  have Uu:∀k b g,(St.init args).bx k = .live b->blk (γ0 vals k)=B g->∃i x u,args[i]? = B x/\vals[i]? = B u/\lh x u=B g/\((k=i*64/\mG (B x) = .live b)\/(k=i*64+63/\tp (B x) = .live b)):=by
   intro k b g hb hg;obtain⟨i,x,u,hx,hu,iO,⟨rfl,cQ⟩|⟨rfl,cQ⟩⟩:=fa k b hb
   .rw[kZ i u hu,<-hblk x u b cQ]at hg;exact⟨i,x,u,hx,hu,hg,.inl ⟨rfl,cQ⟩⟩
   .obtain⟨e,t,xs,rfl,rfl⟩:=rF cQ;rw[ud i u hu]at hg;exact⟨i,_,u,hx,hu,hg,.inr ⟨rfl,cQ⟩⟩
  obtain⟨i,x,u,hx,hu,h1,h2⟩:=Uu k b g hb hg;obtain⟨j,y,v,hy,hv,h3,h4⟩:=Uu k' b' g aK az;have ee:=Us dP hx hu hy hv h1 h3;subst ee;rw[hx]at hy;cases hy;rcases h2 with⟨rfl,h2⟩|⟨rfl,h2⟩<;>rcases h4 with⟨rfl,h4⟩|⟨rfl,h4⟩
  .exact br rfl
  .obtain⟨e,t,xs,rfl,rfl⟩:=rF h4;simp[mG]at h2
  .obtain⟨e,t,xs,rfl,rfl⟩:=rF h2;simp[mG]at h4
  .exact br rfl
 .intro k v hv;simp only[oV,D3]at hv;split at hv
  .rename_i hk;split at hv
   .rename_i x hx;split at hv
    .rename_i hr;have hi:k/64<args.length:=(kf.1 hx).1;have bk:k=(k/64)*64:=aa;refine⟨by simp[parK,hk];omega,?_,?_⟩
     .rw[bk,nB _ x hx];cases x with
      |rl e y=>obtain⟨u,hu,iO⟩:=ha.get _ _ hx;obtain⟨t,xs,rfl,_⟩:=iO;simp[mG]
      |ref ls=>simp[mG]
      |_=>simp[yK]at hr
     .rw[bk];exact kZ _ v hv
    .simp at hv
   .simp at hv
  .simp at hv
 .intro i;show ((match args[i]? with|some a=>Slot.one (F0 i a)|none=> .one (.one .dead)):Slot).bare=X;split<;>rfl
theorem GP{α β:Type}{P:Â}(f:α->Sem β):∀{rs:H α}{zs:H β},All2 (λr z=>(f r).run P w = .ok z w) rs zs->(rs.mapM f).run P w = .ok zs w
 |[],[],_=>af
 |r::rs,z::zs,h=>by
  simp only[List.mapM_cons,Û,h.1,Ð,GP f h.2,Ü]
 |[],_::_,h=>h.elim
 |_::_,[],h=>h.elim
def Uns(b:Bx):Prop:=(∃ls,b = .cell ls U)\/∃e t xs,b = .lst e t xs U
theorem GQ{P:Â}{E:Env}(hT:cI P E.T)(hR:Rel N np S0 w0 refs σ a w S γ){r:Ì}{c:Cel}(h:xj E σ r=B c) :
  ∃z,((match r with
   |.tmp t=>pure (a.tmps.getD t undef)
   |.cell x t=>do loadVar t (<-asAddr (a.tmps.getD x undef)):Sem Y)).run P w = .ok z w/\bM S w γ σ.bx c z:=by
 cases r with
 |tmp t=>
  simp only[xj]at h;split at h
  .rename_i c' hc;simp only[jb]at h;subst h;have:=hR.slot t;rw[hc]at this;exact⟨_,af,this⟩
  .simp at h
 |cell x t=>
  simp only[xj]at h;split at h
  .rename_i ti y ht hy;have:=hR.slot x;rw[hy]at this;obtain⟨z,hz,ie⟩:=R0 hT hR (RdR.msk λ_=> .inl rfl) ht h this.1;refine⟨z,?_,ie⟩;show (do loadVar t (<-asAddr (a.tmps.getD x undef)):Sem Y).run P w=_
   have hu:∃ad,a.tmps.getD x undef = .pointer (B ad):=by
    generalize a.tmps.getD x undef=u at hz
    cases u with
    |pointer o=>
     cases o with
     |some ad=>exact⟨ad,rfl⟩
     |none=>simp[î,ä]at hz
    |_=>simp[î,ä]at hz
   obtain⟨ad,hu⟩:=hu;rw[hu]at hz ⊢;simpa[î,ä,asAddr]using hz
  .simp at h
theorem GR{rd:G->BS}(hR:Rel N np S0 w0 refs σ a w S γ)(aW:RdF np σ rd):∀{ks:H SoK}{ls:H Leaf}{r:H RL}{n:H G}{v:Ups}{zs:H Y},soOf rd ks ls=B (r,n,v)->
  All2 (bz S w γ σ.bx) ls zs->(∀z∈zs,One z)->FrzL np σ.bx v/\(∀k∈n,(∃b,σ.bx k = .live b/\Uns b)/\parK np k=U)/\nU r zs=(n.filterMap λk=>blk (γ k))/\
   ∀S',dD S w S' w->Froz σ.bx γ S' w v->(∀k∈n,∀g,blk (γ k)=B g->∀o,¬S' g o)->All2 (Gj S' w) r zs
 |[],[],r,n,v,zs,h,ha,h1=>by
  simp[soOf]at h;obtain⟨rfl,rfl,rfl⟩:=h;cases zs with
  |nil=>exact⟨.nil,af,rfl,λ_ _ _ _=>trivial⟩
  |cons _ _=>exact ha.elim
 |.d t::ks,l::ls,r,n,v,zs,h,ha,h1=>by
  cases zs with
  |nil=>exact ha.elim
  |cons z zs=>
  simp only[soOf]at h;split at h
  .rename_i x u r' n' v' hx hr;cases eZ:t.leafy with
   |false=>rw[eZ]at h;simp at h
   |true=>
   rw[eZ,jc]at h;simp only[jb,jf]at h;obtain⟨rfl,rfl,rfl⟩:=h;obtain⟨f1,p1⟩:=vD aW hR.box hx ha.1;obtain⟨f2,k2,b2,p2⟩:=GR hR aW hr ha.2 (λy hy=>h1 y (by simp[hy]));refine⟨FrzL.app.2 ⟨f1,f2⟩,k2,by simp[nU,b2],λS' aO eG hn=>?_⟩;obtain⟨g1,g2⟩:=Froz.app.1 eG;exact⟨⟨h1 z af,p1 S' w aO g1⟩,p2 S' aO g2 hn⟩
  .simp at h
 |.own e t::ks,l::ls,r,n,v,zs,h,ha,h1=>by
  cases zs with
  |nil=>exact ha.elim
  |cons z zs=>
  cases l with
  |nil=>
   simp only[soOf]at h;split at h
   .rename_i r' n' v' hr;cases hm:isM e with
    |true=>rw[hm]at h;simp at h
    |false=>
    rw[hm,jd]at h;simp only[jb,jf]at h;obtain⟨rfl,rfl,rfl⟩:=h;have hz:z = .slice Á 0 0:=ha.1;subst hz;obtain⟨f2,k2,b2,p2⟩:=GR hR aW hr ha.2 (λy hy=>h1 y (by simp[hy]));refine⟨f2,k2,by simp[nU,blk,b2],λS' aO eG hn=>⟨⟨t,[],rfl,.inl ⟨hm,[],⟨af,.inl ⟨rfl,rfl⟩⟩,trivial⟩,λg hg=>by simp[blk]at hg⟩,p2 S' aO eG hn⟩⟩
   .simp at h
  |ol k=>
   simp only[soOf]at h;split at h
   .rename_i e' b xs hk;cases he:Nat.beq e' e with
    |false=>rw[he]at h;simp at h
    |true=>
    rw[he,jc]at h;split at h
    .rename_i r' n' v' hr;simp only[jb,jf]at h;obtain⟨rfl,rfl,rfl⟩:=h;have hp:=aW.par hk;have hk:=aW.ok.live hk;have hz:=ha.1.2.2 _ hk;obtain⟨f2,k2,b2,p2⟩:=GR hR aW hr ha.2 (λy hy=>h1 y (by simp[hy]));refine⟨f2,λk' bk=>?_,?_,λS' aO eG hn=>⟨⟨b,xs,rfl,by rw[hz];exact(hR.box k _ hk).1.keep aO (λ_ _=>rfl),λg hg=>hn k af g (by rw[<-hz];exact hg)⟩,p2 S' aO eG (λk' bk=>hn k' (by simp[bk]))⟩⟩
     .rcases jl.1 bk with rfl|bk
      .exact⟨⟨_,hk,.inr ⟨_,_,_,rfl⟩⟩,hp⟩
      .exact k2 k' bk
     .simp only[nU,hz,vr];rw[b2];cases blk (γ k)<;>rfl
    .simp at h
   .simp at h
  |_=>simp[soOf]at h
 |[],_::_,r,n,v,zs,h,_,_=>by simp[soOf]at h
 |.d _::_,[],r,n,v,zs,h,_,_=>by simp[soOf]at h
 |.own _ _::_,[],r,n,v,zs,h,_,_=>by simp[soOf]at h
theorem Ŏ{P:Â}{E:Env}(hT:cI P E.T)(hR:Rel N E.np S0 w0 refs σ a w S γ){rd:G->BS}(aW:RdF E.np σ rd){own:Æ}{t:G}{c:Cel}{v:RV}{ks:H G}{u:Ups}{z:Y}(h:rvOf E rd own t c=B (v,ks,u))(hc:bM S w γ σ.bx c z) :
  FrzL E.np σ.bx u/\(∀k∈ks,(∃b,σ.bx k = .live b/\Uns b)/\parK E.np k=U)/\lj v z=(ks.filterMap λk=>blk (γ k))/\
   ∀S',dD S w S' w->Froz σ.bx γ S' w u->(∀k∈ks,∀g,blk (γ k)=B g->∀o,¬S' g o)->pL S' w v z:=by
 unfold rvOf at h;split at h
 .rename_i k;split at h
  .rename_i ls hk;split at h
   .rename_i xs u1 h1;simp only[jb,jf]at h;obtain⟨rfl,rfl,rfl⟩:=h;have hp:=aW.par hk;have hk:=aW.ok.live hk;obtain⟨g,hg,hz⟩:=hc.1.2.2 _ hk;obtain⟨g',cur,e,az,hh,ea,_⟩:=hR.box k _ hk;rw[hg]at az;simp at az;subst az;obtain⟨hf,sF⟩:=xF aW h1 ea;refine⟨hf,λk' bk=>by simp at bk;subst bk;exact⟨⟨_,hk,.inl ⟨_,rfl⟩⟩,hp⟩,?_,λS' aO eG hn=>⟨g,cur,e,hz,hh,by rw[F2 ea (sF S' w aO eG)];exact sF S' w aO eG,?_⟩⟩
    .simp[lj,mN,hz,hg,blk]
    .exact hn k af g (by rw[hg];rfl)
   .simp at h
  .simp at h
 .rename_i f caps;simp only[jb,jf]at h;obtain⟨rfl,rfl,rfl⟩:=h;obtain⟨⟨cv,hz,aw⟩,_⟩:=hc;exact⟨.nil,af,by simp[lj,mN],λS' aO _ _=>⟨cv,hz,aw.mono λ_ _ h=>jO.keep aO h⟩⟩
 .split at h
  .rename_i ti ht;split at h
   .rename_i ty bD;split at h
    .split at h
     .rename_i ls;split at h
      .rename_i r n u1 L3;simp only[jb,jf]at h;obtain⟨rfl,rfl,rfl⟩:=h;obtain⟨cs,hz,aw,cV⟩:=hc;subst hz;obtain⟨f1,k1,b1,p1⟩:=GR hR aW L3 aw cV;exact⟨f1,k1,b1,λS' aO eG hn=>⟨cs,rfl,p1 S' aO eG hn⟩⟩
      .simp at h
     .rename_i el cY _;simp only[jb,jf]at h;obtain⟨rfl,rfl,rfl⟩:=h;have hz:z = .slice Á 0 0:=hc.1;subst hz;exact⟨.nil,af,by simp[lj,mN,blk],λS' _ _ _=>⟨el,[],rfl,.inl ⟨Kf hT ht,[],⟨af,.inl ⟨rfl,rfl⟩⟩,trivial⟩,λg hg=>by simp[blk]at hg⟩⟩
     .rename_i k cY _;split at h
      .rename_i e el xs hk;simp only[jb,jf]at h;obtain⟨rfl,rfl,rfl⟩:=h;have hp:=aW.par hk;have bY:=aW.ok.nm hk;have hk:=aW.ok.live hk;have hz:=hc.1.2.2 _ hk;obtain⟨css,aL,aw,_⟩:=iI bY (hR.box k _ hk);refine⟨.nil,λk' bk=>by simp at bk;subst bk;exact⟨⟨_,hk,.inr ⟨_,_,_,rfl⟩⟩,hp⟩,?_,λS' aO _ hn=>⟨el,xs,rfl,by rw[hz];exact(hR.box k _ hk).1.keep aO (λ_ _=>rfl),λg hg=>hn k af g (by rw[<-hz];exact hg)⟩⟩;simp only[lj,mN,hz,vr,List.filterMap_nil];cases blk (γ k)<;>rfl
      .simp at h
     .simp at h
    .split at h
     .rename_i x u1 hx;simp only[jb,jf]at h;obtain⟨rfl,rfl,rfl⟩:=h;obtain⟨hf,hp,_⟩:=CS aW hR.box hx hc;exact⟨hf,af,by simp[lj,mN],λS' aO eG _=>hp S' w aO eG⟩
     .simp at h
   .simp at h
  .simp at h
theorem Uv{P:Â}{E:Env}(hT:cI P E.T)(hR:Rel N E.np S0 w0 refs σ a w S γ):∀{os:H Æ}{rs:H Ì}{ts:H G}{vs:H RV}{ks:H G}{u:Ups},pD E σ os rs ts=B (vs,ks,u)->
  ∃zs,All2 (λ(r:Ì) z=>((match r with
   |.tmp t=>pure (a.tmps.getD t undef)
   |.cell x t=>do loadVar t (<-asAddr (a.tmps.getD x undef)):Sem Y)).run P w = .ok z w) rs zs/\
  FrzL E.np σ.bx u/\(∀k∈ks,(∃b,σ.bx k = .live b/\Uns b)/\parK E.np k=U)/\gM vs zs=(ks.filterMap λk=>blk (γ k))/\
   ∀S',dD S w S' w->Froz σ.bx γ S' w u->(∀k∈ks,∀g,blk (γ k)=B g->∀o,¬S' g o)->All2 (pL S' w) vs zs
 |os,[],ts,vs,ks,u,h=>by
  simp[pD]at h;obtain⟨rfl,rfl,rfl⟩:=h;exact⟨[],trivial,.nil,af,rfl,λ_ _ _ _=>trivial⟩
 |os,r::rs,ts,vs,ks,u,h=>by
  simp only[pD]at h;split at h
  .rename_i c hc;split at h
   .rename_i v k1 u1 hv;split at h
    .rename_i jN k2 u2 iK;simp only[jb,jf]at h;obtain⟨rfl,rfl,rfl⟩:=h;obtain⟨z,hz,ie⟩:=GQ hT hR hc;obtain⟨f1,p1,n1,r1⟩:=Ŏ hT hR (xQ (RdR.msk λ_=> .inl rfl)) hv ie;obtain⟨zs,iJ,f2,p2,n2,r2⟩:=Uv hT hR iK;refine⟨z::zs,⟨hz,iJ⟩,FrzL.app.2 ⟨f1,f2⟩,λk hk=>?_,?_,λS' aO eG hn=>?_⟩
     .rcases js.1 hk with hk|hk
      .exact p1 k hk
      .exact p2 k hk
     .simp[gM,n1,n2]
     .obtain⟨g1,g2⟩:=Froz.app.1 eG;exact⟨r1 S' aO g1 (λk hk=>hn k (by simp[hk])),r2 S' aO g2 (λk hk=>hn k (by simp[hk]))⟩
    .simp at h
   .simp at h
  .simp at h
theorem L4(hR:Rel N np S0 w0 refs σ a w S γ):∀{as:H Arg}{us:H Y}{i:G}{os:H Out}{u:Ups},outs np σ i as=B (os,u)->as.length=us.length->
  (∀(j:G)(x:Arg)(v:Y),as[j]? = B x->us[j]? = B v->yK x=X->γ ((i+j)*64)=v)->
  FrzL np σ.bx u/\∀S',dD S w S' w->Froz σ.bx γ S' w u->(∀(j:G)(x:Arg)(v:Y)(g:G),as[j]? = B x->us[j]? = B v->yK x=X->(∃b,σ.bx ((i+j)*64) = .live b/\Uns b)->blk v=B g->∀o,¬S' g o)->lk S' w as us os
 |[],us,i,os,u,h,hl,_=>by
  simp[outs]at h;obtain⟨rfl,rfl⟩:=h;cases us with
  |nil=>exact⟨.nil,λ_ _ _ _=>trivial⟩
  |cons _ _=>simp at hl
 |x::as,[],i,os,u,h,hl,_=>by simp at hl
 |x::as,v::us,i,os,u,h,hl,hg=>by
  simp only[outs]at h;split at h
  .rename_i pM u' h'
   obtain⟨f1,r1⟩:=L4 hR (i:=i+1) h' (by simpa using hl) (λj y z hy hz hr=>by
    have:=hg (j+1) y z (by simpa using hy) (by simpa using hz) hr;rwa[show i+1+j=i+(j+1) by omega])
   have eY:∀S',dD S w S' w->Froz σ.bx γ S' w u'->(∀(j:G)(x':Arg)(v':Y)(g:G),(x::as)[j]? = B x'->(v::us)[j]? = B v'->yK x'=X->(∃b,σ.bx ((i+j)*64) = .live b/\Uns b)->blk v'=B g->∀o,¬S' g o)->lk S' w as us pM:=by intro S' aO eG hn;refine r1 S' aO eG (λj y z g hy hz hr hb ŏ=>?_);exact hn (j+1) y z g (by simpa using hy) (by simpa using hz) hr (by rwa[show i+(j+1)=i+1+j by omega]) ŏ
   split at h
   .rename_i ls;have L5:γ (i*64)=v:=hg 0 _ v rfl rfl rfl;split at h
    .rename_i gf hb;split at h
     .rename_i xs u2 hx;simp only[jb,jf]at h;obtain⟨rfl,rfl⟩:=h;obtain⟨g,cur,e,h1,h2,h3,_⟩:=hR.box _ _ hb;obtain⟨f2,r2⟩:=xF (xQ (RdR.msk λ_=> .inl rfl)) hx h3;refine⟨FrzL.app.2 ⟨f2,f1⟩,λS' aO eG hn=>?_⟩;obtain⟨g1,g2⟩:=Froz.app.1 eG;have Uw:v = .pointer (B ⟨g,0,Á⟩):=by rw[<-L5];exact h1
      exact⟨⟨g,cur,e,Uw,h2,by rw[F2 h3 (r2 S' w aO g1)];exact r2 S' w aO g1,hn 0 _ v g rfl rfl rfl ⟨_,hb,.inl ⟨gf,rfl⟩⟩ (by rw[Uw];rfl)⟩,eY S' aO g2 hn⟩
     .simp at h
    .simp at h
   .rename_i e y;have L5:γ (i*64)=v:=hg 0 _ v rfl rfl rfl;split at h
    .rename_i e' t xs hb;split at h
     .rename_i cg;obtain⟨rfl,Bv⟩:=cg;simp only[jb,jf]at h;obtain⟨rfl,rfl⟩:=h;have aL:=(hR.box _ _ hb).1;rw[L5]at aL;refine⟨f1,λS' aO eG hn=>⟨⟨t,xs,rfl,aL.keep aO (λ_ _=>rfl),λg az=>hn 0 _ v g rfl rfl rfl ⟨_,hb,.inr ⟨_,t,xs,rfl⟩⟩ az⟩,Bv.symm,eY S' aO eG hn⟩⟩
     .simp at h
    .simp at h
   .rename_i L6 L7;simp only[jb,jf]at h;obtain⟨rfl,rfl⟩:=h;refine⟨f1,λS' aO eG hn=>?_⟩;have:=eY S' aO eG hn;cases x with
    |ref ls=>exact absurd rfl (L6 ls)
    |rl e y=>exact absurd rfl (L7 e y)
    |_=>exact this
  .simp at h
theorem Ux{x:Arg}{u:Y}{g:G}(h:nT S w x u)(hr:lh x u=B g):∀o,¬S g o:=by
 cases x with
 |ref ls=>obtain⟨g',cur,e,h1,_,_,h4⟩:=h;have tF:blk u=B g:=hr;rw[h1]at tF;simp[blk]at tF;subst tF;exact h4
 |rl e y=>obtain⟨t,xs,_,_,h4⟩:=h;exact h4 g hr
 |mv e y=>obtain⟨⟨t,xs,_,_,h4⟩,_⟩:=h;exact h4 g hr
 |_=>simp[lh]at hr
theorem L8:∀{as:H Arg}{us:H Y}{g:G},g∈eh as us->∃(i:G)(x:Arg)(u:Y),as[i]? = B x/\us[i]? = B u/\lh x u=B g
 |[],_,_,h=>by simp[eh]at h
 |_::_,[],_,h=>by simp[eh]at h
 |x::as,u::us,g,h=>by
  simp only[eh,js,Option.mem_toList]at h;rcases h with h|h
  .exact⟨0,x,u,rfl,rfl,h⟩
  .obtain⟨i,y,v,h1,h2,h3⟩:=L8 h;exact⟨i+1,y,v,by simpa using h1,by simpa using h2,h3⟩
theorem L9(zs:H Y):(if h:zs.toArray.size=1 then zs.toArray[0] else .tuple zs.toArray)=ma zs:=by
 match zs with
 |[]=>rfl
 |[z]=>rfl
 |z::z'::zs=>simp[ma]
theorem Ő{P:Â}{E:Env}(hT:cI P E.T)(hR:Rel N np S0 w0 refs σ a w S γ){rs:H Ì}{vs jN:H RV}{zs:H Y}
  (iJ:All2 (λ(r:Ì) z=>((match r with
   |.tmp t=>pure (a.tmps.getD t undef)
   |.cell x t=>do loadVar t (<-asAddr (a.tmps.getD x undef)):Sem Y)).run P w = .ok z w) rs zs) (h:nilV E σ rs vs=B jN) :
  (∀S' w',All2 (pL S' w') vs zs->All2 (pL S' w') jN zs)/\gM jN zs=gM vs zs/\(∀m,jN=[.hd m]->vs=[.hd m])/\∀ns s,jN=[.raw ns s]->vs=[.raw ns s]:=by
 unfold nilV at h;split at h
 .simp only[jb]at h;subst h;exact⟨λ_ _ h=>h,rfl,λ_ h=>h,λ_ _ h=>h⟩
 .split at h
  .rename_i r x;split at h
   .rename_i ls hc;split at h
    .rename_i hn;simp only[jb]at h;subst h;obtain⟨z,hz,ie⟩:=GQ hT hR hc;cases zs with
     |nil=>exact iJ.elim
     |cons z' zs=>
      cases zs with
      |cons _ _=>exact iJ.2.elim
      |nil=>
       have pI:z'=z:=by have h1:=hz.symm.trans iJ.1;simp only[Result.ok.injEq]at h1;exact h1.1.symm
       subst pI;obtain⟨cs,hu,aw,_⟩:=ie;refine⟨λS' w' hv=>⟨⟨hv.1,λmc rG i hi z ő=>?_⟩,trivial⟩,rfl,λm hm=>by simp at hm,λns s hm=>by simp at hm⟩;rw[hu]at rG;simp only[Value.agg.injEq]at rG;subst rG;have hl:=ka.1 hn i hi;cases Ma:ls[i]? with
       |none=>rw[Ma]at hl;simp at hl
       |some l=>rw[Ma]at hl;obtain⟨z2,Mb,pK⟩:=aw.get i l Ma;rw[ő]at Mb;simp only[jb]at Mb;subst Mb;cases l<;>first|exact pK|simp at hl
    .simp at h
   .simp at h
  .simp at h
theorem Œ{E:Env}{os:H Æ}{rs:H Ì}{ts:H G}{vs:H RV}{ks:H G}{u:Ups}(h:pD E σ os rs ts=B (vs,ks,u))(m:G):vs≠[.hd m]:=by
 cases rs with
 |nil=>simp[pD]at h;rw[<-h.1];simp
 |cons r rs=>
  simp only[pD]at h;split at h
  .split at h
   .rename_i v k1 u1 hv;split at h
    .simp only[jb,jf]at h;rw[<-h.1];intro he;have:v = .hd m:=by simpa using (List.cons.inj he).1
     subst this;unfold rvOf at hv;split at hv
     .split at hv
      .split at hv<;>simp at hv
      .simp at hv
     .simp at hv
     .split at hv
      .split at hv
       .split at hv
        .split at hv
         .split at hv<;>simp at hv
         .simp at hv
         .split at hv<;>simp at hv
         .simp at hv
        .split at hv<;>simp at hv
       .simp at hv
      .simp at hv
    .simp at h
   .simp at h
  .simp at h
theorem œ{E:Env}{os:H Æ}{rs:H Ì}{ts:H G}{vs:H RV}{ks:H G}{u:Ups}(h:pD E σ os rs ts=B (vs,ks,u))(ns:H G)(s:Snap):vs≠[.raw ns s]:=by
 cases rs with
 |nil=>simp[pD]at h;rw[<-h.1];simp
 |cons r rs=>
  simp only[pD]at h;split at h
  .split at h
   .rename_i v k1 u1 hv;split at h
    .simp only[jb,jf]at h;rw[<-h.1];intro he;have:v = .raw ns s:=by simpa using (List.cons.inj he).1
     subst this;unfold rvOf at hv;split at hv
     .split at hv
      .split at hv<;>simp at hv
      .simp at hv
     .simp at hv
     .split at hv
      .split at hv
       .split at hv
        .split at hv
         .split at hv<;>simp at hv
         .simp at hv
         .split at hv<;>simp at hv
         .simp at hv
        .split at hv<;>simp at hv
       .simp at hv
      .simp at hv
    .simp at h
   .simp at h
  .simp at h
theorem Ŕ{P:Â}{E:Env}(hT:cI P E.T){fn:Func}{args:H Arg}{vals:H Y}{σ':St}{a':À}{w':Z}{S':aU}{γ':G->Y}(hR:Rel N E.np S w (oV args vals) σ' a' w' S' γ')
  (ha:All2 (nT S w) args vals)(hS:∀g o,S g o->g<w.heap.size)(iY:¬E.rw=X)(D2:E.hd=X){ret:Ret}(bZ:tt E fn args σ'=B ret){R:Type}{k:Ret->O R}{r:R}(hk:k ret=B r) :
  ∃v,(results fn a'.tmps).run P w' = .ok v w'/\∃ret,k ret=B r/\∃v' S' vs,Î v = .returned v'/\Gl w S args vals ret v' w' S' vs:=by
 have dZ:∀(j:G)(x:Arg)(v:Y),args[j]? = B x->vals[j]? = B v->yK x=X->γ' ((0+j)*64)=v:=by intro j x v hx hv hr;refine(hR.par ((0+j)*64) v ?_).2.2;simp only[oV,D3];rw[if_pos aa,yu _ aa,ko,hx];simp[hr,hv]
 unfold tt at bZ;rw[if_neg iY,if_pos D2]at bZ;unfold RG at bZ;split at bZ
 .rename_i e x as r0 mw;split at bZ
  .rename_i l os u' hc oH;split at bZ
   .rename_i m hm;simp only[jb]at bZ;subst bZ;obtain⟨z,hz,ie⟩:=GQ (P:=P) hT hR hc;obtain⟨f2,r2⟩:=L4 hR oH ha.length dZ;obtain⟨S2,cB,cW,qV,cR⟩:=na u' σ' S' hR f2;cases vals with
    |nil=>exact ha.elim
    |cons v0 ŕ=>
    have h0:γ' 0=v0:=by have:=dZ 0 _ v0 rfl rfl rfl;simpa using this
    have jT:∀k,parK E.np k=X->u'.any (λy=>y.1==k)=false:=by intro k hk;rw[qu];intro y hy he;simp only[va]at he;have:=(f2 y hy).1;rw[he,hk]at this;simp at this
    have oK:∀k b,u'.any (λy=>y.1==k)=U->σ'.bx k = .live b->Uns b->∀g,blk (γ' k)=B g->∀o,¬S2 g o:=by
     intro k b hk hb me g hg o;have eF:(σ'.upd u').bx k = .live b:=(jR _ _ hk).trans hb;have cQ:=cB.box k b eF;rcases me with⟨ls,rfl⟩|⟨e,t,xs,rfl⟩
     .obtain⟨g',cur,e,az,_,_,_,hS,_⟩:=cQ;rw[az]at hg;simp[blk]at hg;subst hg;exact hS rfl o
     .exact(cQ.2 g hg).1 rfl o
    have dV:=r2 S2 cW qV (λj x v g hx hv hr Mc hg=>by
     obtain⟨b,hb,hu⟩:=Mc;have hp:parK E.np ((0+j)*64)=true:=by refine(hR.par ((0+j)*64) v ?_).1;simp only[oV,D3];rw[if_pos aa,yu _ aa,ko,hx];simp[hr,hv]
     exact oK ((0+j)*64) b (jT _ hp) hb hu g (by rw[dZ j x v hx hv hr];exact hg))
    have cV:One z:=ie.2 (by rintro rfl;simp[hdOf]at hm)
    have rb:∃ad len cap,v0 = .slice ad len cap/\m<=len/\z = .slice ad m cap:=by
     unfold hdOf at hm;split at hm
     .split at hm
      .rename_i e1 t1 Gg hb;split at hm
       .simp at hm
       .rename_i bY;simp only[jb]at hm;subst hm;obtain⟨css,aL,_⟩:=iI (by simpa using bY) (hR.box 0 _ hb);have pI:=ie.1.2.2 _ hb;rcases aL.2 with⟨hg,hn⟩|⟨g,cap,cur,hg,_⟩
        .exact⟨Á,0,0,by rw[<-h0,hg],aa,by rw[pI,hg,hn]⟩
        .exact⟨_,_,cap,by rw[<-h0,hg],jy _,by rw[pI,hg]⟩
      .simp at hm
     .split at hm
      .rename_i i e1 t1 Gg hb;simp only[jb]at hm;subst hm;obtain⟨_,hi,ad,cap,hg,pI⟩:=ie.1.2.2 _ hb;exact⟨ad,_,cap,by rw[<-h0,hg],hi,pI⟩
      .simp at hm
     .simp at hm
    have aM:(results fn a'.tmps).run P w' = .ok (ma [z]) w':=by
     have hm:=GP (P:=P) (w:=w') (rs:=[r0]) (zs:=[z]) (λr=>((match r with
      |.tmp t=>pure (a'.tmps.getD t undef)
      |.cell x t=>do loadVar t (<-asAddr (a'.tmps.getD x undef)):Sem Y))) ⟨hz,trivial⟩
     unfold results;rw[yf,mw];simp only[Û,ö]
     erw [hm]
     simp only[Ð,Ü];exact kj (ÿ · w') (L9 [z])
    refine⟨ma [z],aM,⟨[.hd m],os⟩,hk,ma [z],S2,[z],rfl,⟨rfl,⟨cV,trivial⟩,λg hg=>by simp[gM,mN,lj]at hg,by simp[gM,mN,lj],dV,λg o hs=>⟨cB.ext g o hs,?_⟩,λg o h=>(cB.new g o h).imp id (λh=>h.imp id And.left),cB.here,cB.below,cB.grow,cB.os,cB.tape,cB.output,λns s he=>by simp at he,?_⟩⟩
    .refine Ç (cB.below g (hS g o hs) (λhm=>?_));obtain⟨i,x,v,hx,hv,hb⟩:=L8 hm;obtain⟨v',gn,Md⟩:=ha.get i x hx;rw[hv]at gn;simp at gn;subst gn;exact Ux Md hb o hs
    .intro m' jV;have:m'=m:=by simpa using jV.symm
     subst this;obtain⟨ad,len,cap,h1,h2,h3⟩:=rb;exact⟨ad,len,cap,by rw[h1];rfl,h2,by rw[h3]⟩
   .simp at bZ
  .simp at bZ
 .simp at bZ
theorem Uy{P:Â}{E:Env}(hT:cI P E.T)(hR:Rel N np S0 w0 refs σ a w S γ):∀{rs:H Ì}{cs:H Cel},CI E σ rs=B cs->
  ∃zs,All2 (λ(r:Ì) z=>((match r with
   |.tmp t=>pure (a.tmps.getD t undef)
   |.cell x t=>do loadVar t (<-asAddr (a.tmps.getD x undef)):Sem Y)).run P w = .ok z w) rs zs/\All2 (bM S w γ σ.bx) cs zs
 |[],cs,h=>by
  simp only[CI,jb]at h;subst h;exact⟨[],trivial,trivial⟩
 |r::rs,cs,h=>by
  simp only[CI]at h;split at h
  .rename_i c mc hc dj;simp only[jb]at h;subst h;obtain⟨z,h1,h2⟩:=GQ (P:=P) hT hR hc;obtain⟨zs,h3,h4⟩:=Uy hT hR dj;exact⟨z::zs,⟨h1,h3⟩,h2,h4⟩
  .simp at h
theorem Uz{bx bx':G->BS}{ns:H G}(hb:∀k∈ns,bx' k=bx k){l:Leaf}{u:Y}(hl:tq ns l=X)(h:bz S w γ bx l u):bz S w γ bx' l u:=by
 cases l with
 |dead=>trivial
 |nil=>exact h
 |d t v=>exact h
 |ol k=>have hk:=hb k (by simpa[tq]using hl);exact⟨by rw[hk];exact h.1,h.2.1,by rw[hk];exact h.2.2⟩
 |bp k c=>have hk:=hb k (by simpa[tq]using hl);exact⟨by rw[hk];exact h.1,h.2.1,by rw[hk];exact h.2.2⟩
 |_=>simp[tq]at hl
theorem GS{bx bx':G->BS}{ns:H G}(hb:∀k∈ns,bx' k=bx k):∀{ls:H Leaf}{us:H Y},ls.all (tq ns)=X->All2 (bz S w γ bx) ls us->All2 (bz S w γ bx') ls us
 |[],[],_,_=>trivial
 |l::ls,u::us,hl,h=>by
  simp only[zo,ji]at hl;exact⟨Uz hb hl.1 h.1,GS hb hl.2 h.2⟩
 |[],_::_,_,h=>h.elim
 |_::_,[],_,h=>h.elim
theorem Ŗ{bx bx':G->BS}{ns:H G}(hb:∀k∈ns,bx' k=bx k){c:Cel}{u:Y}(hl:J9 ns c=X)(h:bM S w γ bx c u):bM S w γ bx' c u:=by
 cases c with
 |one l=>exact⟨Uz hb hl h.1,h.2⟩
 |st ls=>obtain⟨cs,hu,ha,h1⟩:=h;exact⟨cs,hu,GS hb hl ha,h1⟩
 |av n b xs=>exact h
theorem ŗ{P:Â}{E:Env}(hT:cI P E.T){fn:Func}{args:H Arg}{vals:H Y}{σ':St}{a':À}{w':Z}{S':aU}{γ':G->Y}(hR:Rel N E.np S w (oV args vals) σ' a' w' S' γ')
  (ha:All2 (nT S w) args vals)(hS:∀g o,S g o->g<w.heap.size)(iY:E.rw=X){ret:Ret}(bZ:tt E fn args σ'=B ret){R:Type}{k:Ret->O R}{r:R}(hk:k ret=B r) :
  ∃v,(results fn a'.tmps).run P w' = .ok v w'/\∃ret,k ret=B r/\∃v' S' vs,Î v = .returned v'/\Gl w S args vals ret v' w' S' vs:=by
 unfold tt at bZ;rw[if_pos iY]at bZ;unfold RH at bZ;split at bZ
 case h_2=>simp at bZ
 rename_i cs dj;split at bZ
 case isFalse=>simp at bZ
 rename_i cg;simp only[ji]at cg;obtain⟨dP,UA,dL,cS⟩:=cg;simp only[jb]at bZ;subst bZ;obtain⟨zs,iJ,ie⟩:=Uy hT hR dj
 have aM:(results fn a'.tmps).run P w' = .ok (ma zs) w':=by
  have hm:=GP (P:=P) (w:=w') _ iJ;unfold results;rw[yf];simp only[Û,ö]
  erw [hm]
  simp only[Ð,Ü];exact kj (ÿ · w') (L9 zs)
 have hlen:(cs.map Item.s++E.rn.map λk=>Item.b (σ'.bx k)).length-E.rn.length=cs.length:=af;have hC:rawC E.rn (cs.map Item.s++E.rn.map λk=>Item.b (σ'.bx k))=cs:=by unfold rawC;rw[hlen,List.take_left' af,ï];exact List.map_id' _
 have hU:rawU E.rn (cs.map Item.s++E.rn.map λk=>Item.b (σ'.bx k))=E.rn.map λk=>(k,σ'.bx k):=by
  unfold rawU;rw[hlen,List.drop_left' af,ï];generalize E.rn=l;induction l with
  |nil=>rfl
  |cons x l ih=>simp only[qe,Ø,ih];rfl
 have fa:∀k∈E.rn,(emp.upd (E.rn.map λk=>(k,σ'.bx k))).bx k=σ'.bx k:=λk hk=>
  vQ _ emp (by rw[ï];simpa[Function.comp_def]using xG dP) (ki.2 ⟨k,hk,rfl⟩)
 have nB:∀k b,(emp.upd (E.rn.map λk=>(k,σ'.bx k))).bx k = .live b->k∈E.rn/\σ'.bx k = .live b:=by
  intro k b hb;by_cases hk:k∈E.rn
  .exact⟨hk,(fa k hk).symm.trans hb⟩
  .rw[jR]at hb
   .simp[emp]at hb
   .rw[qu];intro x hx he;obtain⟨y,hy,rfl⟩:=ki.1 hx;simp only[va]at he;exact hk (he▸hy)
 have Me:∀k b,σ'.bx k = .live b->k∈E.rn->eM S' w' γ' (emp.upd (E.rn.map λk=>(k,σ'.bx k))).bx k b:=by
  intro k b hb hk;have h1:=hR.box k b hb;have h2:=(Bool.and_eq_true_iff.1 (ka.1 UA k hk)).2;rw[hb]at h2;cases b with
  |cell ls f=>obtain⟨g,cur,e,q1,q2,q3,q4⟩:=h1;exact⟨g,cur,e,q1,q2,GS fa h2 q3,q4⟩
  |lst e t xs f=>exact h1
  |arr n t xs=>exact h1
  |row e t n ls=>obtain⟨q1,⟨mc,q2,q3,q4⟩,q5⟩:=h1;exact⟨q1,⟨mc,q2,GS fa h2 q3,q4⟩,q5⟩
 have rH:All2 (bM S' w' γ' (emp.upd (E.rn.map λk=>(k,σ'.bx k))).bx) cs zs:=by
  have go:∀(cs:H Cel)(zs:H Y),cs.all (J9 E.rn)=X->All2 (bM S' w' γ' σ'.bx) cs zs->All2 (bM S' w' γ' (emp.upd (E.rn.map λk=>(k,σ'.bx k))).bx) cs zs:=by
   intro cs;induction cs with
   |nil=>intro zs _ h;cases zs with|nil=>trivial|cons _ _=>exact h.elim
   |cons c cs ih=>
    intro zs dL h;cases zs with
    |nil=>exact h.elim
    |cons z zs=>simp only[zo,ji]at dL;exact⟨Ŗ fa dL.1 h.1,ih zs dL.2 h.2⟩
  exact go cs zs dL ie
 have nC:eh args vals=[]:=by
  clear aM rH hR;induction args generalizing vals with
  |nil=>cases vals<;>rfl
  |cons x xs ih=>
   cases vals with
   |nil=>rfl
   |cons v vs=>simp only[zo,ji]at cS;have:=ih ha.2 cS.2;cases x<;>simp_all[eh,lh,Ka]
 have dV:lk S' w' args vals []:=by
  clear aM rH hR nC;induction args generalizing vals with
  |nil=>cases vals with|nil=>trivial|cons _ _=>exact ha.elim
  |cons x xs ih=>
   cases vals with
   |nil=>exact ha.elim
   |cons v vs=>simp only[zo,ji]at cS;have:=ih ha.2 cS.2;cases x<;>first|exact this|(simp[Ka]at cS)
 refine⟨ma zs,aM,_,hk,ma zs,S',[ma zs],rfl,⟨rfl,⟨trivial,trivial⟩,λg hg=>by simp[gM,mN,lj]at hg,by simp[gM,mN,lj],dV,λg o hs=>⟨hR.ext g o hs,?_⟩,λg o h=>(hR.new g o h).imp id (λh=>h.imp id And.left),hR.here,
  hR.below,hR.grow,hR.os,hR.tape,hR.output,λns s he=>?_,λm hm=>by simp at hm⟩⟩
 .refine Ç (hR.below g (hS g o hs) (λhm=>?_));have hm:g∈eh args vals:=hm;rw[nC]at hm;simp at hm
 .simp only[yt,RV.raw.injEq,and_true]at he;obtain⟨rfl,rfl⟩:=he;refine⟨γ',zs,rfl,by rw[hC,hU];exact rH,λk b hb=>?_,λk b g hb hg=>?_,λk k' b b' g br hb aK hg az=>?_⟩
  .rw[hU]at hb ⊢;obtain⟨h1,h2⟩:=nB k b hb;exact Me k b h2 h1
  .rw[hU]at hb;obtain⟨h1,h2⟩:=nB k b hb;rcases hR.own k b g h2 hg with h|h
   .rcases h with h|h
    .exact h
    .have hm:g∈eh args vals:=h.2;rw[nC]at hm;simp at hm
   .have:=(Bool.and_eq_true_iff.1 (ka.1 UA k h1)).1;rw[h.2]at this;simp at this
  .rw[hU]at hb aK;exact hR.apart k k' b b' g br (nB k b hb).2 (nB k' b' aK).2 hg az
theorem Mf{P:Â}{fn:Func}{n:G}{R:Ending->Z->Prop}:∀(ds:H Deferred){refs:Refs}{σ:St}{a:À}{w:Z}{S:aU}{γ:G->Y},refs.ds=ds->Bo w0 refs->Rel N np S0 w0 refs σ a w S γ->
  (∀w2,Rel N np S0 w0 ⟨refs.blks,refs.val,[],λ_=>Á,λ_=>Á,refs.mv⟩ σ { a with defers:=[] } w2 S γ->LeavesIn (FR Á) n P fn a.tmps R [] .returning w2)->LeavesInM (FR Á) n P fn a.tmps R ds .returning w
 |[],refs,σ,a,w,S,γ,hd,hm,hR,h=>h w (hR.swap rfl rfl hR.size rfl hR.slot (λg o h=>by simp at h) (λi v h=>by simp at h))
 |d::ds,refs,σ,a,w,S,γ,hd,hm,hR,h=>by
  obtain⟨dP,aw⟩:=hm;rw[hd]at dP;obtain⟨D,rfl,h1,h2⟩:=aw d (by rw[hd];simp);refine⟨af,.inl ⟨D,_,rfl,run_takeDeferred (hR.kept D _ h2).1,?_⟩⟩;have bB:=hR.putO (o':= .deferred Á) h2 h1 rfl rfl
  have cB:=bB.swap (a':={ a with defers:=ds }) (refs':=⟨refs.blks,refs.val,ds,λg=>if g=D then Á else refs.kw g,refs.fix,refs.mv⟩) rfl rfl hR.size rfl bB.slot (λg o hg=>bB.kept g o (by
   simp only at hg ⊢;split at hg
   .simp at hg
   .rename_i e;rw[if_neg e];exact hg)) bB.fix
  refine Mf (a:={ a with defers:=ds }) (refs:=⟨refs.blks,refs.val,ds,λg=>if g=D then Á else refs.kw g,refs.fix,refs.mv⟩) ds rfl ⟨(zg.1 dP).2,λd' fW=>?_⟩ cB (λw2 hw=>h w2 hw);obtain⟨D',rfl,q1,q2⟩:=aw d' (by rw[hd];simp[fW]);refine⟨D',rfl,q1,?_⟩;show (if D'=D then Á else refs.kw D')=_;rw[if_neg,q2]
  rintro rfl
  exact(zg.1 dP).1 fW
theorem UB{P:Â}{E:Env}(hT:cI P E.T)(hC:jS P E.C)(hF:CFun E.C)(h9:P.follows .mixedOrders=X){f:G}{fn:Func}{c:Ò}(hf:P.funcs[f]? = B fn)(hb:fn.body=B c)(hN:fn.ntmps=E.N.n)(mq:E.N.pin=λ_=>U)(iP:∀f t,E.bw f=B t->BwK P f t)(yL:E.np<=E.N.n)
  (bY : (fn.name == "runtime.NumGoroutine") = U) (hL : ∀ x ∈ eD 0 c, Bn E x.1 x.2 ∧ MrOK E x.1 x.2) : FnOK P f (fun args _ k => tu E fn args k) := by
 intro args R k r h;refine⟨⟨fn,hf,by rw[hb];rfl,bY⟩,?_⟩;intro w S vals ha dP hS;by_cases hlen:args.length=E.np
 case neg=>simp[tu,hlen]at h
 case pos=>
 simp only[tu,hb,hlen,if_true]at h;have vK:vals.length=E.np:=by rw[<-ha.length,hlen]
 obtain⟨Ř,gI⟩:=ō (N:=E.N) ha dP hS hlen yL;refine ħ (n:=0) (ro:=Á) (callsIn_of_wp_marks hf hb trivial ?_);rw[hN];refine wpIn_mono (Ō h9 c (ro:=Á) hT hC hF iP (.inr ⟨rfl,mq⟩) 0 0 ⟨ã,λd hd=>by simp[oV]at hd⟩ hL Ř gI h) ?_
 rintro e a0 w1 ⟨refs',ex,σ',S',γ',hle,_,rfl,bB,gz,hk⟩
 have gP:∀(hk:(match tt E fn args σ' with|some r=>k r|none=>Á)=B r)(w':Z),Rel E.N E.np S w ⟨refs'.blks,refs'.val,[],λ_=>Á,λ_=>Á,refs'.mv⟩ σ' { a0 with defers:=[] } w' S' γ'->∃v,(results fn a0.tmps).run P w' = .ok v w'/\
   ∃ret,k ret=B r/\∃v' S' vs,Î v = .returned v'/\Gl w S args vals ret v' w' S' vs:=by
  intro hk w' hR;have hR:Rel E.N E.np S w (oV args vals) σ' { a0 with defers:=[] } w' S' γ':=hR.swap hle.blks.symm hle.val.symm hR.size rfl hR.slot (λg o h=>by simp[oV]at h) (λi v h=>by simp[oV]at h) hle.mv.symm;generalize GU:({ a0 with defers:=[] }:À)=a' at hR;have oL:a0.tmps=a'.tmps:=by rw[<-GU]
  rw[oL];cases bZ:tt E fn args σ' with
  |none=>simp[bZ]at hk
  |some ret=>
  simp only[bZ]at hk;by_cases iY:E.rw=X
  .exact ŗ hT hR ha hS iY bZ hk
  by_cases D2:E.hd=X
  .exact Ŕ hT hR ha hS iY D2 bZ hk
  have yM:∃vs ks u os u',pD E σ' E.ro fn.results.toList fn.resultTypes.toList=B (vs,ks,u)/\outs E.np σ' 0 args=B (os,u')/\
    nN ks=X/\(u++u').all (λe=> !ks.contains e.1)=X/\∃jN,nilV E σ' fn.results.toList vs=B jN/\ret=⟨jN,os⟩:=by
   unfold tt at bZ;rw[if_neg iY,if_neg D2]at bZ;split at bZ
   .rename_i vs ks u os u' iK oH;split at bZ
    .rename_i cg;split at bZ
     .rename_i jN yN;simp only[jb]at bZ;simp only[ji]at cg;exact⟨vs,ks,u,os,u',iK,oH,cg.1,cg.2,jN,yN,bZ.symm⟩
     .simp at bZ
    .simp at bZ
   .simp at bZ
  obtain⟨vs,ks,u,os,u',iK,oH,sx,xK,jN,yN,rfl⟩:=yM;obtain⟨zs,iJ,f1,p1,n1,r1⟩:=Uv hT hR iK;have eX:(∀S' w',All2 (pL S' w') vs zs->All2 (pL S' w') jN zs)/\gM jN zs=gM vs zs/\(∀m,jN=[.hd m]->vs=[.hd m])/\∀ns s,jN=[.raw ns s]->vs=[.raw ns s]:=Ő hT hR iJ yN;have dZ:∀(j:G)(x:Arg)(v:Y),args[j]? = B x->vals[j]? = B v->yK x=X->γ' ((0+j)*64)=v:=by intro j x v hx hv hr;refine(hR.par ((0+j)*64) v ?_).2.2;simp only[oV,D3];rw[if_pos aa,yu _ aa,ko,hx];simp[hr,hv]
  obtain⟨f2,r2⟩:=L4 hR oH ha.length dZ;obtain⟨S2,cB,cW,qV,cR⟩:=na (u++u') σ' S' hR (FrzL.app.2 ⟨f1,f2⟩);obtain⟨Mg,Mh⟩:=Froz.app.1 qV
  have oK:∀k b,(u++u').any (λy=>y.1==k)=U->σ'.bx k = .live b->Uns b->∀g,blk (γ' k)=B g->∀o,¬S2 g o:=by
   intro k b hk hb me g hg o;have eF:(σ'.upd (u++u')).bx k = .live b:=(jR _ _ hk).trans hb;have cQ:=cB.box k b eF;rcases me with⟨ls,rfl⟩|⟨e,t,xs,rfl⟩
   .obtain⟨g',cur,e,az,_,_,_,hS,_⟩:=cQ;rw[az]at hg;simp[blk]at hg;subst hg;exact hS rfl o
   .exact(cQ.2 g hg).1 rfl o
  have ue:∀k∈ks,(u++u').any (λy=>y.1==k)=false:=by intro k hk;rw[qu];intro y hy he;have:=ka.1 xK y hy;simp only[va]at he;rw[he]at this;simp[hk]at this
  have jT:∀k,parK E.np k=X->(u++u').any (λy=>y.1==k)=false:=by intro k hk;rw[qu];intro y hy he;simp only[va]at he;have:=(FrzL.app.2 ⟨f1,f2⟩ y hy).1;rw[he,hk]at this;simp at this
  have D6:=r1 S2 cW Mg (λk hk g hg=>by
   obtain⟨⟨b,hb,hu⟩,_⟩:=p1 k hk;exact oK k b (ue k hk) hb hu g hg)
  have dV:=r2 S2 cW Mh (λj x v g hx hv hr Mc hg=>by
   obtain⟨b,hb,hu⟩:=Mc;have hj:j<args.length:=(kf.1 hx).1;exact oK ((0+j)*64) b (jT _ (by simp[parK];omega)) hb hu g (by rw[dZ j x v hx hv hr];exact hg))
  have aM:(results fn a'.tmps).run P w' = .ok (ma zs) w':=by
   have hm:=GP (P:=P) (w:=w') _ iJ;unfold results;rw[yf];simp only[Û,ö]
   erw [hm]
   simp only[Ð,Ü];exact kj (ÿ · w') (L9 zs)
  have ř:∀m,jN=[.hd m]->∃ad len cap,Gk args vals=B (.slice ad len cap)/\m<=len/\zs=[.slice ad m cap]:=λm hm=>by
   exact absurd (eX.2.2.1 m hm) (Œ iK m)
  have Ś:∀ns s,jN=[.raw ns s]->KM w.heap.size S2 w' ns s (ma zs):=λns s hm=>absurd (eX.2.2.2 ns s hm) (œ iK ns s);refine⟨ma zs,aM,⟨jN,os⟩,hk,ma zs,S2,zs,rfl,⟨rfl,eX.1 _ _ D6,λg hg=>?_,?_,dV,λg o hs=>⟨cB.ext g o hs,?_⟩,λg o h=>(cB.new g o h).imp id (λh=>h.imp id And.left),cB.here,cB.below,cB.grow,cB.os,cB.tape,cB.output,Ś,ř⟩⟩
  .rw[eX.2.1,n1]at hg;obtain⟨k,bk,ś⟩:=vw.1 hg;obtain⟨⟨b,hb,_⟩,hp⟩:=p1 k bk;rcases hR.own k b g hb ś with h|h
   .exact h.imp id And.left
   .rw[hp]at h;simp at h
  .rw[eX.2.1,n1];exact KO hR (xG sx) (λk bk=>by obtain⟨⟨b,hb,_⟩,_⟩:=p1 k bk;exact⟨b,hb⟩)
  .refine Ç (cB.below g (hS g o hs) (λhm=>?_));obtain⟨i,x,v,hx,hv,hb⟩:=L8 hm;obtain⟨v',gn,Md⟩:=ha.get i x hx;rw[hv]at gn;simp at gn;subst gn;exact Ux Md hb o hs
 cases ex with
 |exit i=>simp at hk
 |normal=>exact Mf a0.defers bB.defers.symm hle.marks bB (λw2 hw=>gP hk w2 hw)
 |ret=>exact Mf a0.defers bB.defers.symm hle.marks bB (λw2 hw=>gP hk w2 hw)
end
section
variable{E:Env}
def LFun(L:G->Snap->(R:Type)->(Ex->Snap->O R)->O R):Prop:=
 ∀b s,∃o:O (Ex×Snap),∀(R:Type)(k:Ex->Snap->O R),L b s R k=o.bind λx=>k x.1 x.2
def MFun(M:G->Snap->(R:Type)->(Snap->O R)->O R):Prop:=∀b s,∃o:O Snap,∀(R:Type)(k:Snap->O R),M b s R k=o.bind k
def Det{α:Type}(f:(R:Type)->(α->O R)->O R):Prop:=∃o:O α,∀(R:Type)(k:α->O R),f R k=o.bind k
theorem Det.val{α:Type}(x:α):Det (λ_ k=>k x):=⟨B x,λ_ _=>rfl⟩
theorem Det.no{α:Type}:Det (λR (_:α->O R)=>Á):=⟨Á,λ_ _=>rfl⟩
theorem Det.cond{α:Type}{f g:(R:Type)->(α->O R)->O R}(b:Æ)(h:Det f)(h':Det g):Det (λR k=>cond b (f R k) (g R k)):=by
 cases b with
 |true=>exact h
 |false=>exact h'
theorem Det.bind{α β:Type}{f:(R:Type)->(α->O R)->O R}{g:α->(R:Type)->(β->O R)->O R}(h:Det f)(h':∀a,Det (g a)):Det (λR k=>f R λa=>g a R k):=by
 obtain⟨o,ho⟩:=h;cases o with
 |none=>exact⟨Á,λR k=>ho R _⟩
 |some a=>obtain⟨o',xZ⟩:=h' a;exact⟨o',λR k=>(ho R _).trans (xZ R k)⟩
theorem Det.congr{α:Type}{f g:(R:Type)->(α->O R)->O R}(h:Det f)(e:∀R k,g R k=f R k):Det g:=by
 obtain⟨o,ho⟩:=h;exact⟨o,λR k=>(e R k).trans (ho R k)⟩
theorem UC{v:Ï}{f:Ï->(R:Type)->(St->O R)->O R}(h:∀j,Det (f j)):∀m j,Det (λR k=>Ar v (λi=>f i R k) m j)
 |0,_=> .no
 |m+1,j=> .cond _ (h _) (UC h m (j+1))
theorem UD(σ:St)(o:Ä):Det (λR (k:St->O R)=>pre σ o k):=by
 unfold pre;split
 .rename_i t kk v n _;exact UC (f:=λj R k=>k (σ.setS t (.one (.one (.d (.int kk) j))))) (λj=> .val _) n 0
 .exact .val _
theorem GV(hF:CFun E.C)(hz:E.nz=U)(p:Æ)(σ:St)(act:H (G×Æ))(o:Ä):Det (λR (k:St->O R)=>run1 E p σ act o k):=by
 unfold run1;refine Det.bind (UD σ o) λσ=>?_;simp only[hz,jd];split
 .exact .no
 .exact .cond _ (.val _) .no
 .rename_i f args mk _;refine Det.bind (f:=λR k=>E.C f args R k) (hF f args) λret=>?_;split
  .exact .val _
  .exact .no
theorem UE:∀(l:H (G×Æ))(σ:St),Det (λR (k:St×Æ->O R)=>uS l σ λa b=>k (a,b))
 |[],σ=> .val _
 |(s,w)::r,σ=>by
  simp only[uS]
  refine(Det.bind (UE r σ) (g:=λx R k=>match x.2 with
   |true=>match J0 r x.1 s with
    |some v=>cond v (k (x.1.setS s (.one (.one (.d .bool X))),w)) (k (x.1.setS s (.one (.one (.d .bool U))), !w))
    |none=>Á
   |false=>k (x.1,U)) λx=>?_).congr λR k=>rfl
  obtain⟨σ1,a⟩:=x;cases a with
  |true=>
   dsimp only
   split
   .exact .cond _ (.val _) (.val _)
   .exact .no
  |false=>exact .val _
theorem Ŝ(hF:CFun E.C)(hz:E.nz=U)(ops:Ã Ä)(σ:St)(o:Ä):Det (λR (k:St->O R)=>Ct E ops σ o k):=by
 unfold Ct;split
 .split
  .exact GV hF hz _ _ _ _
  .exact .no
 .rename_i g _
  have qD:Det (λR (k:St->O R)=>uS (σ.chain 40 g) σ λσ' a=>match a with
    |true=>run1 E X σ' (σ.chain 40 g) o k
    |false=>k (σ'.put o.dst (.one (.one .dead)))):=by
   refine(Det.bind (UE (σ.chain 40 g) σ) (g:=λx R k=>match x.2 with
    |true=>run1 E X x.1 (σ.chain 40 g) o k
    |false=>k (x.1.put o.dst (.one (.one .dead)))) λx=>?_).congr λR k=>rfl
   obtain⟨σ1,a⟩:=x;cases a with
   |true=>exact GV hF hz _ _ _ _
   |false=>exact .val _
  dsimp only
  split
  .split
   .exact .cond _ (.val _) .no
   .exact qD
  .exact qD
theorem Mi(hF:CFun E.C)(hz:E.nz=U):∀(l:H Ä)(σ:St),Det (λR (k:St->O R)=>oy E l σ k)
 |[],σ=> .val _
 |o::os,σ=>by
  simp only[oy];split
  .exact Det.bind (GV hF hz U σ [] o) λσ'=>Mi hF hz os σ'
  .exact .no
theorem UF(hF:CFun E.C)(hz:E.nz=U)(ops:Ã Ä):∀(l:H Ä)(σ:St),Det (λR (k:St->O R)=>As E ops l σ k)
 |[],σ=> .val _
 |o::os,σ=>by
  simp only[As];split
  .exact Det.bind (Ŝ hF hz ops σ o) λσ'=>UF hF hz ops os σ'
  .exact .no
theorem ŝ(hF:CFun E.C)(hz:E.nz=U)(ops:Ã Ä)(σ:St):Det (λR (k:St->O R)=>pz E ops σ k):=by
 unfold pz;split
 .exact Mi hF hz _ _
 .exact UF hF hz _ _ _
theorem UG(hF:CFun E.C)(hz:E.nz=U)(σ:St)(o:Ä):Det (λR (k:St->O R)=>runK E σ o k):=by
 unfold runK;split
 .rename_i c σ' _;exact .cond c (.val σ') .no
 .exact GV hF hz U σ [] o
theorem Mj(hF:CFun E.C)(hz:E.nz=U):∀(l:H Ä)(σ:St),Det (λR (k:St->O R)=>tg E l σ k)
 |[],σ=> .val σ
 |[o],σ=>by
  simp only[tg];split
  .exact UG hF hz σ o
  .exact .no
 |o::o2::os,σ=>by
  simp only[tg];split
  .split
   .split
    .exact .cond _ (Mj hF hz os _) .no
    .exact .no
   .exact Det.bind (UG hF hz σ o) λσ'=>Mj hF hz (o2::os) σ'
  .exact .no
theorem Ş(hF:CFun E.C)(hz:E.nz=U)(ops:Ã Ä)(σ:St):Det (λR (k:St->O R)=>Cu E ops σ k):=by
 unfold Cu;split
 .exact Mj hF hz _ _
 .exact .no
theorem Mk(hF:CFun E.C)(hz:E.nz=U)(M Ai:H G)(σ:St)(o:Ä):Det (λR (k:St->O R)=>runD E M Ai σ o k):=by
 unfold runD;refine Det.bind (UD σ o) λσ=>?_;split
 .exact .no
 .split
  .exact .cond _ (.val _) .no
  .exact .no
 .rename_i f args mk _;refine Det.bind (f:=λR k=>E.C f args R k) (hF f args) λret=>?_;split
  .split
   .exact .val _
   .exact .no
  .exact .no
theorem ş(hF:CFun E.C)(hz:E.nz=U)(ops:Ã Ä)(M Ai:H G)(σ:St)(o:Ä):Det (λR (k:St->O R)=>Cx E ops M Ai σ o k):=by
 unfold Cx;split
 .exact Mk hF hz _ _ _ _
 .split
  .split
   .exact .cond _ (.cond _ (Mk hF hz _ _ _ _) (.val _)) (.cond _ (.val _) (Mk hF hz _ _ _ _))
   .exact .val _
   .exact .no
  .exact .no
theorem UH(hF:CFun E.C)(hz:E.nz=U)(ops:Ã Ä)(cl:H G)(A:H (H G)):∀(l:H Ä)(i:G)(σ:St),Det (λR (k:St->O R)=>Au E ops cl A l i σ k)
 |[],_,σ=> .val _
 |o::os,i,σ=>by
  simp only[Au];split
  .exact Det.bind (ş hF hz ops _ _ σ o) λσ'=>UH hF hz ops cl A os (i+1) σ'
  .exact .no
theorem Š(hF:CFun E.C)(hz:E.nz=U)(ops:Ã Ä)(A:H (H G))(σ:St):Det (λR (k:St->O R)=>Cy E ops A σ k):=by
 unfold Cy;split
 .exact UH hF hz _ _ _ _ _ _
 .exact .no
theorem Ml(np:G):∀(gs:H Gh)(σ:St),Det (λR (k:St->O R)=>xh np gs σ k)
 |[],σ=> .val _
 |g::gs,σ=>by
  simp only[xh];split
  .exact .cond _ (Ml np gs _) .no
  .exact .no
theorem UI{f:(R:Type)->G->St->(Ex->St->O R)->O R}(hf:∀i σ,Det (λR (k:Ex×St->O R)=>f R i σ λe σ'=>k (e,σ'))):∀(n i:G)(σ:St),
  Det (λR (k:Ex×St->O R)=>uW (f R) n i σ λe σ'=>k (e,σ'))
 |0,_,σ=> .no
 |n+1,i,σ=>by
  refine(Det.bind (hf i σ) (g:=λz R k=>match z.1 with
   |.normal=>uW (f R) n (i+1) z.2 λe σ'=>k (e,σ')
   |e=>k (e,z.2)) λz=>?_).congr λR k=>by
    simp only[uW];congr 1;try (funext e σ';cases e<;>rfl)
  obtain⟨e,σ'⟩:=z;cases e with
  |normal=>exact UI hf n (i+1) σ'
  |exit i=>exact .val _
  |ret=>exact .val _
theorem š(hF:CFun E.C)(hz:E.nz=U)(hM:MFun E.M)(x y:Ò)(σ:St):Det (λR (k:Ex×St->O R)=>CF E x y σ λe σ'=>k (e,σ')):=by
 unfold CF;exact .cond _ .no .no
theorem Ţ:∀(c:Ò){E:Env}(_:CFun E.C)(_:E.nz=U)(_:LFun E.L/\MFun E.M)(b:G)(σ:St),Det (λR (k:Ex×St->O R)=>fw E b c σ λe σ'=>k (e,σ')):=by
 intro c;induction c with
 |skip=>intro E hF hz hL b σ;exact .val _
 |region id ops draw=>
  intro E hF hz hL b σ;cases draw with
  |true=>exact Det.bind (Ml E.np (E.pre id) σ) λσ1=>Det.bind (Š hF hz ops (E.dw id) σ1) λσ'=> .val (Ex.normal,σ')
  |false=>exact Det.bind (Ml E.np (E.pre id) σ) λσ1=> .cond _ (Det.bind (Ş hF hz ops σ1) λσ'=> .val (Ex.normal,σ')) (Det.bind (ŝ hF hz ops σ1) λσ'=> .val (Ex.normal,σ'))
 |seq x y rv ry=>
  intro E hF hz hL b σ;simp only[fw];refine .cond _ (š hF hz hL.2 x y σ) ?_
  refine(Det.bind (rv hF hz hL b σ) (g:=λz R k=>match z.1 with
   |.normal=>fw E b y z.2 λe σ'=>k (e,σ')
   |e=>k (e,z.2)) λz=>?_).congr λR k=>by
    congr 1
    try (funext e σ';cases e<;>rfl)
  obtain⟨e,σ'⟩:=z;cases e with
  |normal=>exact ry hF hz hL b σ'
  |exit i=>exact .val _
  |ret=>exact .val _
 |cond c x y rv ry=>
  intro E hF hz hL b σ;simp only[fw];split
  .exact .cond _ (rv hF hz hL b _) (ry hF hz hL b _)
  .exact .no
 |block id c ih=>
  intro E hF hz hL b σ
  refine(Det.bind (ih hF hz hL id σ) (g:=λz R k=>match z.1 with
   |.exit i=>if i=id then k (.normal,z.2) else k (.exit i,z.2)
   |e=>k (e,z.2)) λz=>?_).congr λR k=>by
    simp only[fw];congr 1;try (funext e σ';cases e<;>rfl)
  obtain⟨e,σ'⟩:=z;cases e with
  |normal=>exact .val _
  |exit i=>
   dsimp only
   split
   .exact .val _
   .exact .val _
  |ret=>exact .val _
 |loop c ih=>
  intro E hF hz hL b σ;simp only[fw];refine .cond _ .no (.cond _ ?_ ?_)
  .exact UI (f:=λR i σ k=>fw (E.offR (cond (eD b c).isEmpty i 0)) b c σ k) (λi σ=>ih (E:=E.offR (cond (eD b c).isEmpty i 0)) hF hz hL b σ) (E.un b) 0 σ
  split
  .rename_i s _;obtain⟨o,ho⟩:=hL.1 b s;exact Det.bind (f:=λR k=>E.L b s R λe s'=>k (e,s')) ⟨o,λR k=>ho R _⟩ (g:=λz R k=>k (z.1,dv E.np (E.keepX b z.1) z.2)) λz=> .val _
  .exact .no
 |rangeFunc g ps x y _ _=>
  intro E hF hz hL b σ;simp only[fw];split
  .split
   .rename_i kd _;split
    .rename_i s _;obtain⟨o,ho⟩:=hL.1 b (.s (.one (.d (.int .i64) (CA kd (à _))))::s);exact Det.bind (f:=λR k=>E.L b _ R λe s'=>k (e,s')) ⟨o,λR k=>ho R _⟩ (g:=λz R k=>k (z.1,dv E.np (E.keepX b z.1) z.2)) λz=> .val _
    .exact .no
   .exact .no
  .exact .no
 |scope c ih=>intro E hF hz hL b σ;exact ih hF hz hL b σ
 |label l=>intro E hF hz hL b σ;exact .val _
 |exit i=>intro E hF hz hL b σ;exact .val _
 |ret=>intro E hF hz hL b σ;exact .val _
 |_=>intro E hF hz hL b σ;exact .no
theorem D7(hF:CFun E.C)(hz:E.nz=U)(hL:LFun E.L/\MFun E.M)(c:Ò)(b:G)(σ:St):Det (λR (k:Ex×St->O R)=>fw E b c σ λe σ'=>k (e,σ')):=Ţ c hF hz hL b σ
theorem ţ(hF:CFun E.C)(hz:E.nz=U)(hL:LFun E.L/\MFun E.M)(b:G)(g:Ô)(ps:Ã G)(x y:Ò)(s:Snap) :
  Det (λR (k:O (H Item)×Ex×St->O R)=>CG E b g ps x y s λp e σ'=>k (p,e,σ')):=by
 unfold CG;split
 .rename_i n s0;split
  .split
   .rename_i kd _;refine .cond _ (.val _) (.cond _ ?_ .no)
    refine(Det.bind (D7 (E:=E.rnd ps x y) hF hz hL x 0 _) (g:=λz R k=>match z.1 with
     |.normal=>fw (E.rnd ps x y) 0 y z.2 λe σ'=>k (B [.s (.one (.d (.int .i64) (CB kd n)))],e,σ')
     |_=>Á) λz=>?_).congr λR k=>by
      congr 1
      try (funext e σ';cases e<;>rfl)
    obtain⟨e,σ'⟩:=z;cases e with
    |normal=>exact Det.bind (D7 (E:=E.rnd ps x y) hF hz hL y 0 σ') λz=> .val (_,z)
    |exit i=>exact .no
    |ret=>exact .no
   .exact .no
  .exact .no
 .exact .no
theorem Ť(hF:CFun E.C)(hz:E.nz=U)(hL:LFun E.L/\MFun E.M)(b:G)(p:MrP)(m:G)(s:Snap)(v:Ty)(q:Ï)(z:v.den):Det (λR (k:Snap->O R)=>CH E b p m s v q z k):=by
 unfold CH;refine Det.bind (Mi (E:=E.mrE p.it m) hF hz _ _) λσ1=>?_
 refine(Det.bind (D7 (E:=E.mrE p.it m) hF hz hL p.rest p.b6 σ1) (g:=λz R k=>cond (mrNx p.b6 z.1) (match jM E.np (E.keep b) z.2 with
  |some s'=>k s'
  |none=>Á) Á) λz=> .cond _ ?_ .no).congr λR k=>rfl
 split
 .exact .val _
 .exact .no
theorem ť(hF:CFun E.C)(hz:E.nz=U)(hL:LFun E.L/\MFun E.M)(fn:Func)(args:H Arg):Det (λR (k:Ret->O R)=>tu E fn args k):=by
 unfold tu;split
 .split
  .rename_i c _
   refine(Det.bind (D7 hF hz hL c 0 (St.init args)) (g:=λz R k=>match z.1 with
    |.exit _=>Á
    |_=>match tt E fn args z.2 with
     |some r=>k r
     |none=>Á) λz=>?_).congr λR k=>rfl
   obtain⟨e,σ'⟩:=z;cases e<;>dsimp only<;>(try split)<;>first|exact .no|exact .val _
  .exact .no
 .exact .no
end
end Go.Lft
