/- Ee: what H9 do is what the mS says. -/
import Derived.Test.YtllkgjaoejhneaaGreatCELB
import Derived.Laws.Cover3
import Derived.RangeFuncNested
import Derived.OrdersIn
import Derived.Maps.Range
open Option renaming some->B,none->Á
open _root_ renaming Nat->G,List->H,Option->O,Array->Ã,Bool->Æ,Int->Ï
open Bool renaming false->U,true->X,not_eq_true->Ù,false_or->þ
open Go renaming Value->Y,World->Z,Act->À,Program->Â,Oper->Ä,ResultVar->Ì,Exit->Ñ,Code->Ò,Operand->Ô,MapEntry->ì,LetsOut->ò,CallsIn->ÿ
open Go.Region renaming wanted->Å,ready->í
open Go.World renaming cell?_of_block->Ç,putObj_heap_other->È,putObj_heap_same->Þ,alloc_heap_new->ç,cell?_alloc_lt->è
open List renaming getD_eq_getElem?_getD->É,getElem?_append_left->Ë,zip_cons_cons->Ø,of_mem_zip->ß,length->à,nodup_nil->ã,range_eq_range'->å,getElem?_zipIdx->æ,map_congr_left->é,map_map->ï,range'->ñ,idxOf?_cons->ó,flatMap_def->ô
open Go.Value renaming int->Ê
open Go.Oper renaming upon_enter->Í,wp->Ó,upon_value->Õ,upon_skip->â
open Go.Ending renaming returned->Î
open Go.Result renaming andThen_ok->Ð
open Array renaming replicate->Ö,getElem?_eq_none->Ý,getElem_mem->ð
open Go.Fence renaming wide->Ú
open Go.Sem renaming run_bind->Û,run_pure->Ü,run_map->ö
open Nat renaming eq_of_beq_eq_true->á,add_assoc->ë,lt_succ_self->õ,strongRecOn->ø
open Go.Instr renaming sureAddr->ä,loadAt->î,endRound->û
set_option linter.unusedVariables false
namespace Go.Lft
section
variable{N:NT}{np:G}{S0:aM}{w0:Z}{refs:Refs}{σ:St}{a:À}{w:Z}{S:aM}{γ:G->Y}
def cM(σ:St):Prop:=∀i,(σ.sl i).bare=X
theorem yb{d:G}(hd:d<a.tmps.size)(v:Y)(j:G):tm (a.put (B d) v) j=if j=d then v else tm a j:=by
 unfold tm Go.Act.put;by_cases h:j=d
 .subst h;simp[hd]
 .have h':d≠j:=λe=>h e.symm;simp[h,Array.getElem?_setIfInBounds_ne h']
theorem PK{bx:G->BS}{d:G}(hd:d<a.tmps.size){v u:Y}{x:Slot}(h:gA S w γ bx (tm a) x u):gA S w γ bx (tm (a.put (B d) v)) (kill d x) u:=by
 cases x with
 |one c=>exact h
 |tup l=>exact h
 |und=>exact h
 |cnd s b c=>
  simp only[kill];split
  .exact⟨trivial,λh=>absurd rfl h⟩
  .rename_i br;simp only[gA,yb hd,if_neg br];exact h
theorem Ik(dst:O G)(v:Y):(a.put dst v).tmps.size=a.tmps.size:=by cases dst<;>simp[Go.Act.put]
theorem Il(dst:O G)(v:Y):(a.put dst v).defers=a.defers:=by cases dst<;>rfl
theorem Bf(hR:Rel N np S0 w0 refs σ a w S γ){dst:O G}(hd:∀d,dst=B d->N.ok d){s:Slot}{v:Y}(hs:gA S w γ σ.bx (tm a) s v) :
  Rel N np S0 w0 refs (σ.put dst s) (a.put dst v) w S γ:=by
 cases dst with
 |none=>exact hR
 |some d=>
  have fL:d<a.tmps.size:=by rw[hR.size];exact(hd d rfl).1
  refine⟨(Ik _ _).trans hR.size,(Il _ _).trans hR.defers,λi=>?_,hR.box,hR.own,hR.apart,hR.ext,hR.new,hR.here,hR.below,hR.grow,hR.os,hR.tape,hR.output,hR.par,hR.kept,λi u h=>?_⟩
  .show gA S w γ σ.bx (tm (a.put (B d) v)) (kill d (if i=d then s else σ.sl i)) (tm (a.put (B d) v) i);rw[yb fL];split
   .exact PK fL hs
   .exact PK fL (hR.slot i)
  .obtain⟨h1,h2⟩:=hR.fix i u h;refine⟨h1,?_⟩;show tm (a.put (B d) v) i=u;rw[yb fL,if_neg]
   .exact h2
   .rintro rfl
    have:=(hd i rfl).2;rw[h1]at this;simp at this
theorem PL{d:G}{x:Slot}(h:x.bare=X):kill d x=x:=by cases x<;>first|rfl|simp[Slot.bare]at h
theorem Bg(hR:Rel N np S0 w0 refs σ a w S γ)(hc:cM σ){dst:O G}(hd:∀d,dst=B d->N.ok d){s:Slot}{v:Y}(hs:gA S w γ σ.bx (tm a) s v)(hb:s.bare=X) :
  Rel N np S0 w0 refs (σ.setD dst s) (a.put dst v) w S γ/\cM (σ.setD dst s):=by
 have he:σ.setD dst s=σ.put dst s:=by
  cases dst with
  |none=>rfl
  |some d=>
   simp only[St.setD,St.setS,St.put];congr 1;funext j;split
   .exact(PL hb).symm
   .exact(PL (hc j)).symm
 refine⟨he▸Bf hR hd hs,λi=>?_⟩;cases dst with
 |none=>exact hc i
 |some d=>
  simp only[St.setD,St.setS];split
  .exact hb
  .exact hc i
theorem vU{o:Ä}(h:jX N o=X):∀d,o.dst=B d->N.ok d:=by
 intro d hd;simpa[jX,hd,NT.ok]using h
theorem PM{u:Ups}(h:cM σ):cM (σ.upd u):=by
 intro i;rw[rr];exact h i
theorem X6{P:Â}{E:Env}(hT:ca P E.T)(hR:Rel E.N E.np S0 w0 refs σ a w S γ){o:Ä}{e:Æ}(h:nilT E σ o=B e) :
  ∃v b,(execOp a.eval o).run P w = .ok (.value v) w/\v = .bool b/\(b=X->e=X):=by
 unfold nilT at h;split at h
 .rename_i t x y ty bK;split at h
  .rename_i el xs ti hx hy xG;split at h
   .rename_i hl;simp only[jb]at h;subst h;have ex:=jZ hR x;have ey:=jZ hR y;rw[hx]at ex;rw[hy]at ey;obtain⟨ad,cap,dR,hlen,_,Bh,_⟩:=ex.1;have Bi:a.eval x = .slice ad (à xs) cap:=by simpa using dR
    have Im:a.eval y = .slice Á 0 0:=ey.1;obtain⟨a',bn⟩:=Hs hl;obtain⟨hd,_⟩:=lM hT xG bn;refine⟨.bool ad.isNone,ad.isNone,?_,rfl,λhb=>?_⟩
    .simp only[execOp,bK,Bi,Im,eqGuard,binOp];simp[run_equal_slice_nil w t ti.elem ad (à xs) cap hd]
    .have:ad=none:=by cases ad<;>simp_all
     have:=Bh this;have:à xs=0:=aa;cases xs with
     |nil=>rfl
     |cons=>simp at this
   .simp at h
  .simp at h
 .simp at h
theorem Bj{P:Â}{E:Env}(hT:ca P E.T)(hC:iQ P E.C)(hR:Rel E.N E.np S0 w0 refs σ a w S γ){act:H (G×Æ)}(aS:oy (tm a) act){p:Æ}
  (hc:p=U->cM σ){o:Ä}(hd:jX E.N o=X){R:Type}{k:St->O R}{r:R}(h:run1 E p σ act o k=B r){next:À->Z->Prop}{Q:Ñ->À->Z->Prop}
  (hn:∀σ' a' w' S' γ',Rel E.N E.np S0 w0 refs σ' a' w' S' γ'->(p=U->cM σ')->k σ'=B r->next a' w'):o.wp P a w next Q:=by
 have hd:=vU hd
 have eL:∀(u:Ups)(s:Slot)(v:Y)(w':Z)(S':aM)(γ':G->Y),Rel E.N E.np S0 w0 refs (σ.upd u) a w' S' γ'->gA S' w' γ' (σ.upd u).bx (tm a) s v->s.bare=X->
   k (cond p ((σ.upd u).put o.dst s) ((σ.upd u).setD o.dst s))=B r->next (a.put o.dst v) w':=by
  intro u s v w' S' γ' ct hs hb hk;cases p with
  |true=>exact hn _ _ _ _ _ (Bf ct hd hs) af hk
  |false=>obtain⟨h1,h2⟩:=Bg ct (PM (hc rfl)) hd hs hb;exact hn _ _ _ _ _ h1 (λ_=>h2) hk
 unfold run1 at h
 replace h:=N9 h
 split at h
 .rename_i e he
  have he:nilT E σ o=B e:=by
   cases hz:E.nz with
   |true=>rw[hz]at he;exact he
   |false=>rw[hz]at he;simp at he
  obtain⟨v,b,aE,rfl,hb⟩:=X6 (P:=P) hT hR he;obtain⟨h1,h2⟩:=V2 h;unfold Ó;rw[aE,Õ];cases b with
  |true=>exact eL [] (.one (.one (.d .bool X))) (.bool X) w S γ hR ⟨rfl,λ_=>rfl⟩ rfl (h2 (hb rfl))
  |false=>exact eL [] (.one (.one (.d .bool U))) (.bool U) w S γ hR ⟨rfl,λ_=>rfl⟩ rfl h1
 split at h
 .simp at h
 .rename_i chk s u ho;cases chk with
  |false=>simp at h
  |true=>
   obtain⟨⟨v,w',S',γ',aE,ct,hs⟩,hb⟩:=Ig hT hR aS (λ_=> .inl rfl) ho;unfold Ó;rcases aE with aE|⟨aE,rfl⟩
   .rw[aE,Õ];exact eL u s v w' S' γ' ct hs hb h
   .rw[aE,â];exact eL u s undef w' S' γ' ct hs hb h
 .rename_i f args mk ho;obtain⟨hf,dB⟩:=hC f args R _ r h;obtain⟨vals,aE,ma,hb⟩:=PJ hR aS (λ_=> .inl rfl) ho hf dB;unfold Ó;rw[aE,Í];refine ma.mono ?_
  rintro e w' ⟨ret,hk,ar⟩
  split at hk
  .rename_i s u bk;obtain⟨v,S',γ',rfl,ct,hs⟩:=ar s u bk;exact eL u s v w' S' γ' ct hs (hb ret s u bk) hk
  .simp at hk
theorem PN{P:Â}{E:Env}(hT:ca P E.T)(hC:iQ P E.C){ops:Ã Ä}(cP:bare ops=X){R:Type}{k:St->O R}{r:R}{Q:Ñ->À->Z->Prop}
  (hn:∀σ' a' w' S' γ',Rel E.N E.np S0 w0 refs σ' a' w' S' γ'->cM σ'->k σ'=B r->Q .normal a' w') :
  ∀(n i:G)(σ:St)(a:À)(w:Z)(S:aM)(γ:G->Y),i+n=ops.size->Rel E.N E.np S0 w0 refs σ a w S γ->cM σ->na E (ops.toList.drop i) σ k=B r->
   wpOps P ops Q (ñ i n) a w
 |0,i,σ,a,w,S,γ,hi,hR,hc,h=>by
  rw[jk aN]at h;exact hn _ _ _ _ _ hR hc h
 |n+1,i,σ,a,w,S,γ,hi,hR,hc,h=>by
  have ay:i<ops.size:=aa;rw[jj (by simpa using ay)]at h;simp only[na]at h;split at h
  .rename_i hd;have ho:ops[i]? = B ops[i]:=jy ay;simp only[vb,wpOps,ho];have hg:ops[i].guard=none:=by have:=jr.1 cP ops[i] af;simpa using this
   have hw:Å ops[i] (yielded ops a.tmps)=true:=by simp[Å,hg]
   simp only[hw,if_true];refine .inl (Bj hT hC hR (act:=[]) (λg hg=>by simp at hg) (p:=U) (λ_=>hc) (by simpa using hd) (by simpa using h) (λσ' a' w' S' γ' ct dh hk=>?_));exact PN hT hC cP hn n (i+1) σ' a' w' S' γ' aa ct (dh rfl) hk
  .simp at h
theorem Ef{ops:Ã Ä}{o:Ä}{g:G×Æ}(h:mU ops o=B g):Å o (yielded ops a.tmps)=X↔tm a g.1 = .bool g.2:=by
 unfold mU at h;split at h
 .simp at h
 .rename_i j wn Io;split at h
  .rename_i oj iW;split at h
   .rename_i s hs;simp only[jb]at h;subst h;simp only[Å,Io,yielded,iW,ja,hs,tm];cases hq:a.tmps[s]? with
    |none=>
     have:a.tmps.getD s undef=undef:=by simp[hq]
     rw[this];simp[undef]
    |some v=>
     have:a.tmps.getD s undef=v:=by simp[hq]
     rw[this];cases v<;>simp
   .simp at h
  .simp at h
theorem Ip(hR:Rel N np S0 w0 refs σ a w S γ):∀(n:G)(g:G×Æ),tm a g.1 = .bool g.2->oy (tm a) (σ.chain n g)
 |0,g,h=>by intro x hx;simp only[St.chain,kz]at hx;subst hx;exact h
 |n+1,g,h=>by
  simp only[St.chain];have hs:=hR.slot g.1;split
  .rename_i s b c hc;rw[hc]at hs
   have h2:tm a s = .bool b:=by
    rcases hs with hs|hs
    .exact hs.1
    .have:tm a g.1=undef:=hs.2;rw[h]at this;simp[undef]at this
   intro x hx;rcases jm.1 hx with rfl|hx
   .exact h
   .exact Ip hR n (s,b) h2 x hx
  .intro x hx;simp only[kz]at hx;subst hx;exact h
theorem X7:∀(n:G)(g:G×Æ),g∈σ.chain n g
 |0,g=>by simp[St.chain]
 |n+1,g=>by simp only[St.chain];split<;>simp
theorem PO(hR:Rel N np S0 w0 refs σ a w S γ):∀{l:H (G×Æ)}{b:Æ},actB σ l=B b->oy (tm a) l->b=X
 |[],b,h,_=>by simp[actB]at h;exact h
 |(s,wn)::r,b,h,ha=>by
  have ht:tm a s = .bool wn:=ha (s,wn) af;simp only[actB]at h;split at h
  .rename_i v hv
   have X8:v=wn:=by
    have hs:=hR.slot s;unfold gval at hv;split at hv
    .rename_i v' eh;simp only[jb]at hv;subst hv;rw[eh]at hs;have:tm a s = .bool v':=qA hs;rw[ht]at this;simpa using this.symm
    .rename_i s' b' v' eh;simp only[jb]at hv;subst hv;rw[eh]at hs;rcases hs with hs|hs
     .have:tm a s = .bool v':=qA hs.2;rw[ht]at this;simpa using this.symm
     .have:tm a s=undef:=hs.2;rw[ht]at this;simp[undef]at this
    .simp at hv
   subst X8;split at h
   .simp only[jb]at h;rw[<-h];cases v<;>rfl
   .split at h
    .rename_i b2 dM;simp only[jb]at h;have:=PO hR dM (λg hg=>ha g (by simp[hg]));rw[<-h,this];cases v<;>rfl
    .simp at h
  .simp at h
theorem Iq(hR:Rel N np S0 w0 refs σ a w S γ){s:G}{x:Slot}(h:gA S w γ σ.bx (tm a) x (tm a s)):Rel N np S0 w0 refs (σ.setS s x) a w S γ:=by
 refine⟨hR.size,hR.defers,λi=>?_,hR.box,hR.own,hR.apart,hR.ext,hR.new,hR.here,hR.below,hR.grow,hR.os,hR.tape,hR.output,hR.par,hR.kept,hR.fix⟩;simp only[St.setS];split
 .rename_i hi;subst hi;exact h
 .exact hR.slot i
theorem PQ{R:Type}:∀(l:H (G×Æ)){σ:St}{k:St->Æ->O R}{r:R},Rel N np S0 w0 refs σ a w S γ->sM l σ k=B r->
  ∃σ' b,Rel N np S0 w0 refs σ' a w S γ/\k σ' b=B r/\(b=X↔oy (tm a) l)
 |[],σ,k,r,hR,h=>⟨σ,X,hR,h,by simp[oy]⟩
 |(s,wn)::l,σ,k,r,hR,h=>by
  simp only[sM]at h;obtain⟨σ1,b1,bm,df,dg⟩:=PQ l hR h;cases b1 with
  |false=>
   refine⟨σ1,U,bm,df,?_⟩;simp only[kp,false_iff]at dg ⊢
   exactλha=>dg (λg hg=>ha g (by simp[hg]))
  |true=>
   have yc:=dg.1 rfl;simp only at df;split at df
   .rename_i v hv
    have ht:tm a s = .bool v:=by
     have hs:=bm.slot s;unfold G5 at hv;split at hv
     .rename_i v' eh;simp only[jb]at hv;subst hv;rw[eh]at hs;exact qA hs
     .rename_i s' b' v' eh;split at hv
      .rename_i hm;simp only[jb]at hv;subst hv;rw[eh]at hs;have ic:(s',b')∈l:=by simpa using hm
       have:=yc _ ic;rcases hs with hs|hs
       .exact qA hs.2
       .exact absurd this hs.1
      .simp at hv
     .simp at hv
    have Bl:∀b,b=v->Rel N np S0 w0 refs (σ1.setS s (.one (.one (.d .bool b)))) a w S γ:=by
     rintro b rfl
     refine Iq bm ⟨?_,λ_=>?_⟩
     .show Rep S w .bool b [tm a s];rw[ht];rfl
     .rw[ht];rfl
    cases v with
    |true=>
     simp only[jc]at df;refine⟨_,wn,Bl X rfl,df,?_⟩;constructor
     .rintro rfl g hg
      rcases jm.1 hg with rfl|hg
      .exact ht
      .exact yc g hg
     .intro ha;have:=ha (s,wn) af;rw[ht]at this;simpa using this.symm
    |false=>
     simp only[jd]at df;refine⟨_, !wn,Bl U rfl,df,?_⟩;constructor
     .intro hw g hg;have Ir:wn=false:=by simpa using hw
      subst Ir;rcases jm.1 hg with rfl|hg
      .exact ht
      .exact yc g hg
     .intro ha;have:=ha (s,wn) af;rw[ht]at this;have:U=wn:=by simpa using this
      rw[<-this];rfl
   .simp at df
theorem X9{P:Â}{E:Env}(hT:ca P E.T)(hC:iQ P E.C)(hR:Rel E.N E.np S0 w0 refs σ a w S γ){ops:Ã Ä}{o:Ä}(hd:jX E.N o=X)
  {R:Type}{k:St->O R}{r:R}(h:zI E ops σ o k=B r){next:À->Z->Prop}{Q:Ñ->À->Z->Prop}
  (hn:∀σ' a' w' S' γ',Rel E.N E.np S0 w0 refs σ' a' w' S' γ'->k σ'=B r->next a' w') :
  if Å o (yielded ops a.tmps) then o.wp P a w next Q\/(o.asks P a w/\ò Q) else next (a.put o.dst undef) w:=by
 have rB:=vU hd;unfold zI at h;split at h
 .split at h
  .rename_i hg;have hw:Å o (yielded ops a.tmps)=true:=by simp[Å,hg]
   simp only[hw,if_true];exact .inl (Bj hT hC hR (act:=[]) (λg hg=>by simp at hg) (p:=X) af hd h (λσ' a' w' S' γ' ct _ hk=>hn σ' a' w' S' γ' ct hk))
  .simp at h
 .rename_i g hg;dsimp only at h;have Bm:=Ef (a:=a) hg
  have tI:sM (σ.chain 40 g) σ (λσ' a=>match a with
    |true=>run1 E X σ' (σ.chain 40 g) o k
    |false=>k (σ'.put o.dst (.one (.one .dead))))=B r->
    if Å o (yielded ops a.tmps) then o.wp P a w next Q\/(o.asks P a w/\ò Q) else next (a.put o.dst undef) w:=by
   intro hs;obtain⟨σ',b,ct,hk,hb⟩:=PQ _ hR hs;cases b with
   |true=>have aS:=hb.1 rfl;have hw:=Bm.2 (aS g (X7 40 g));simp only[hw,if_true];exact .inl (Bj hT hC ct aS (p:=X) af hd hk (λσ' a' w' S' γ' ct _ hk=>hn σ' a' w' S' γ' ct hk))
   |false=>
    have hw:¬Å o (yielded ops a.tmps)=true:=λhw=>by
     have:=hb.2 (Ip hR 40 g (Bm.1 hw));simp at this
    simp only[hw];exact hn _ _ _ _ _ (Bf ct rB (s:= .one (.one .dead)) (v:=undef) ⟨trivial,λh=>absurd rfl h⟩) hk
  split at h
  .rename_i chk c ho;split at h
   .rename_i ab oK;by_cases hw:Å o (yielded ops a.tmps)=X
    .have aS:=Ip hR 40 g (Bm.1 hw);have:=PO hR oK aS;subst this;simp only[hw,if_true];cases chk with
     |false=>simp at h
     |true=>
      simp only[jl,Bool.or_false,jc]at h;obtain⟨⟨v,w',S',γ',aE,ct,hs⟩,hb⟩:=Ig hT hR aS (λ_=> .inl rfl) ho;have kM:=Bf ct rB (s:= .cnd g.1 g.2 c) (v:=v) (.inl ⟨Bm.1 hw,hs⟩);refine .inl ?_;unfold Ó;rcases aE with aE|⟨aE,rfl⟩
      .rw[aE,Õ];exact hn _ _ _ _ _ kM h
      .rw[aE,â];exact hn _ _ _ _ _ kM h
    .simp only[hw]
     have hk:k (σ.put o.dst (.cnd g.1 g.2 c))=B r:=by
      cases hc:(chk || !ab) with
      |true=>rw[hc]at h;exact h
      |false=>rw[hc]at h;simp at h
     exact hn _ _ _ _ _ (Bf hR rB (s:= .cnd g.1 g.2 c) (v:=undef) (.inr ⟨λhh=>hw (Bm.2 hh),rfl⟩)) hk
   .exact tI h
  .exact tI h
theorem Ya(hR:Rel N np S0 w0 refs σ a w S γ):Rel N np S0 w0 refs σ.clear a w S γ/\cM σ.clear:=by
 refine⟨⟨hR.size,hR.defers,λi=>?_,hR.box,hR.own,hR.apart,hR.ext,hR.new,hR.here,hR.below,hR.grow,hR.os,hR.tape,hR.output,hR.par,hR.kept,hR.fix⟩,λi=>?_⟩
 .have:=hR.slot i;simp only[St.clear];cases hs:σ.sl i with
  |one c=>rw[hs]at this;exact this
  |tup l=>rw[hs]at this;exact this
  |und=>rw[hs]at this;exact this
  |cnd s b c=>exact⟨trivial,λh=>absurd rfl h⟩
 .simp only[St.clear];cases σ.sl i<;>rfl
theorem PR{P:Â}{E:Env}(hT:ca P E.T)(hC:iQ P E.C){ops:Ã Ä}{R:Type}{k:St->O R}{r:R}{Q:Ñ->À->Z->Prop}
  (hn:∀σ' a' w' S' γ',Rel E.N E.np S0 w0 refs σ' a' w' S' γ'->cM σ'->k σ'=B r->Q .normal a' w') :
  ∀(n i:G)(σ:St)(a:À)(w:Z)(S:aM)(γ:G->Y),i+n=ops.size->Rel E.N E.np S0 w0 refs σ a w S γ->xt E ops (ops.toList.drop i) σ k=B r->
   wpOps P ops Q (ñ i n) a w
 |0,i,σ,a,w,S,γ,hi,hR,h=>by
  rw[jk aN]at h;obtain⟨h1,h2⟩:=Ya hR;exact hn _ _ _ _ _ h1 h2 h
 |n+1,i,σ,a,w,S,γ,hi,hR,h=>by
  have ay:i<ops.size:=aa;rw[jj (by simpa using ay)]at h;simp only[xt]at h;split at h
  .rename_i hd;have ho:ops[i]? = B ops[i]:=jy ay;simp only[vb,wpOps,ho];exact X9 hT hC hR (by simpa using hd) (by simpa using h) (λσ' a' w' S' γ' ct hk=>PR hT hC hn n (i+1) σ' a' w' S' γ' aa ct hk)
  .simp at h
theorem PS{P:Â}{E:Env}(hT:ca P E.T)(hC:iQ P E.C)(hR:Rel E.N E.np S0 w0 refs σ a w S γ)(hc:cM σ){ops:Ã Ä}{R:Type}{k:St->O R}{r:R}
  {Q:Ñ->À->Z->Prop}(hn:∀σ' a' w' S' γ',Rel E.N E.np S0 w0 refs σ' a' w' S' γ'->cM σ'->k σ'=B r->Q .normal a' w')(h:nO E ops σ k=B r) :
  wpOps P ops Q (List.range ops.size) a w:=by
 rw[å];unfold nO at h;split at h
 .rename_i hb;exact PN hT hC hb hn ops.size 0 σ a w S γ aa hR hc (by simpa using h)
 .exact PR hT hC hn ops.size 0 σ a w S γ aa hR (by simpa using h)
end
section
variable{N:NT}{np:G}{S0:aM}{w0:Z}{refs:Refs}{σ:St}{a:À}{w:Z}{S:aM}{γ:G->Y}
theorem Is(hR:Rel N np S0 w0 refs σ a w S γ){k:G}{b b':Bx}(hk:σ.bx k = .live b)(sW:iL b b')(cj:∀bx',BxLe γ σ.bx γ bx'->dQ S w γ bx' k b') :
  Rel N np S0 w0 refs (σ.setB k (.live b')) a w S γ:=by
 have hle:BxLe γ σ.bx γ (σ.setB k (.live b')).bx:=by
  intro k' bg;by_cases h:k'=k
  .subst h;rw[ee];exact⟨af,rfl,λx hx=>by simp at hx;subst hx;exact⟨b,hk,sW⟩⟩
  .rw[bQ σ _ h];exact⟨bg,rfl,λx hx=>⟨x,hx,.refl x⟩⟩
 have bF:∀k' x,(σ.setB k (.live b')).bx k' = .live x->∃x',σ.bx k' = .live x':=by
  intro k' x hx;by_cases h:k'=k
  .subst h;exact⟨b,hk⟩
  .rw[bQ σ _ h]at hx;exact⟨x,hx⟩
 refine Rel.step (bx':=(σ.setB k (.live b')).bx) hR (.refl S w) hle ?_ ?_ ?_ hR.new hR.here hR.below hR.grow hR.os hR.tape hR.output (λg _ _ h=>⟨rfl,λk' b' aG=>by obtain⟨b2,dM⟩:=bF k' b' aG;exact h k' b2 dM⟩)
 .intro k' x hx;by_cases h:k'=k
  .subst h;rw[ee]at hx;simp at hx;subst hx;exact cj _ hle
  .rw[bQ σ _ h]at hx;exact dQ.keep (.refl S w) hle rfl (λg hg=>⟨rfl,λ_=>Iff.rfl⟩) (hR.box k' x hx)
 .intro k' x g hx hg;obtain⟨x',nT⟩:=bF k' x hx;exact hR.own k' x' g nT hg
 .intro k1 k2 x1 x2 g br h1 h2 hg;obtain⟨y1,vV⟩:=bF k1 x1 h1;obtain⟨y2,rN⟩:=bF k2 x2 h2;exact hR.apart k1 k2 y1 y2 g br vV rN hg
theorem All2.set_left{α β:Type}{R:α->β->Prop}:∀{as:H α}{bs:H β},All2 R as bs->∀(i:G)(x:α)(b:β),bs[i]? = B b->R x b->All2 R (as.set i x) bs
 |[],[],_,i,x,b,hb,_=>by simp at hb
 |_::_,_::_,h,0,x,b,hb,hr=>by simp at hb;subst hb;exact⟨hr,h.2⟩
 |_::_,_::_,h,i+1,x,b,hb,hr=>⟨h.1,All2.set_left h.2 i x b (by simpa using hb) hr⟩
 |[],_::_,h,_,_,_,_,_=>h.elim
 |_::_,[],h,_,_,_,_,_=>h.elim
theorem It:∀(l:H (Loc×Ty))(σ σ':St)(S:aM),Rel N np S0 w0 refs σ a w S γ->cM σ->xx np l σ=B σ'->∃S',Rel N np S0 w0 refs σ' a w S' γ/\cM σ'
 |[],σ,σ',S,hR,hc,h=>by simp[xx]at h;subst h;exact⟨S,hR,hc⟩
 |(l,t)::r,σ,σ',S,hR,hc,h=>by
  simp only[xx]at h;split at h
  .rename_i v u hv;have bc:=vS (np:=np) (σ:=σ) (rd:=mskM σ.bx) (RdR.msk λ_=> .inl rfl)
   suffices hs:∃S',Rel N np S0 w0 refs (uG (σ.upd u) l (.d t v)) a w S' γ/\cM (uG (σ.upd u) l (.d t v)) by
    obtain⟨S1,bm,eg⟩:=hs;exact It r _ σ' S1 bm eg h
   cases l with
   |slot i=>
    cases eh:σ.sl i with
    |tup x=>simp only[gJ,eh]at hv;simp[ik,jQ,lenL,iI]at hv
    |cnd x y z=>simp only[gJ,eh]at hv;simp[ik,jQ,lenL,iI]at hv
    |und=>simp only[gJ,eh]at hv;simp[ik,jQ,lenL,iI]at hv
    |one c=>
     cases c with
     |st ls=>simp only[gJ,eh]at hv;simp[ik,jQ,lenL,iI]at hv
     |av n b xs=>simp only[gJ,eh]at hv;simp[ik,jQ,lenL,iI]at hv
     |one x=>
      simp only[gJ,eh]at hv;have tJ:=hR.slot i;rw[eh]at tJ;obtain⟨gM,hp⟩:=tc bc hR.box hv tJ.1;obtain⟨S1,bm,cg,fF,_⟩:=lO u σ S hR gM;have bB:=hp S1 w cg fF;refine⟨S1,?_,?_⟩
      .simp only[uG,rr,eh];exact Iq bm ⟨bB,λ_=>Rep.one _ _ _ bB _ (kz.2 rfl)⟩
      .intro j;simp only[uG,rr,eh,St.setS];split
       .rfl
       .exact hc j
   |cell k c=>
    have kN:gJ σ (.cell k c) ≠ .dead:=λhd=>by rw[hd]at hv;simp[ik,jQ,lenL,iI]at hv
    cases eu:σ.bx k with
    |free=>simp[gJ,eu]at kN
    |gone=>simp[gJ,eu]at kN
    |live b=>
     cases b with
     |lst e b xs f=>simp[gJ,eu]at kN
     |arr n b xs=>simp[gJ,eu]at kN
     |row e b n ls=>simp[gJ,eu]at kN
     |cell ls f=>
      cases f with
      |true=>simp[gJ,eu]at kN
      |false=>
       have hl:gJ σ (.cell k c)=ls.getD c .dead:=by simp[gJ,eu]
       rw[hl]at hv kN;obtain⟨g,cur,e,h1,h2,h3,h4,h5,h6⟩:=hR.box k _ eu;cases hg:ls[c]? with
       |none=>simp[hg]at kN
       |some x=>
        have HP:ls.getD c .dead=x:=by simp[hg]
        rw[HP]at hv;obtain⟨z,hz,mb⟩:=h3.get c x hg;obtain⟨gM,hp⟩:=tc bc hR.box hv mb;obtain⟨S1,bm,cg,fF,dm⟩:=lO u σ S hR gM;have bB:=hp S1 w cg fF;have rO:=dm.cell eu;refine⟨S1,?_,?_⟩
        .simp only[uG,rO];refine Is bm rO trivial (λbx' hle=>?_);obtain⟨g',vF,e',kB,jA,tE,Yb,Yc,h6'⟩:=bm.box k _ rO;rw[h1]at kB;simp at kB;subst kB;rw[h2]at jA;simp at jA;obtain⟨rfl,rfl⟩:=jA;exact⟨g,cur,e,h1,h2,by rw[qo];exact All2.set_left (tE.mono (λx u hx=>bj.keep (.refl S1 w) hle hx)) c (.d t v) z hz bB,by rw[qo];exact Yb,Yc,af⟩
        .intro j;simp only[uG,rO];show ((σ.upd u).sl j).bare=X;rw[rr];exact hc j
  .simp at h
theorem Bn:∀(l:H mT)(σ σ':St)(S:aM),Rel N np S0 w0 refs σ a w S γ->cM σ->sP np l σ=B σ'->∃S',Rel N np S0 w0 refs σ' a w S' γ/\cM σ'
 |[],σ,σ',S,hR,hc,h=>by simp[sP]at h;subst h;exact⟨S,hR,hc⟩
 |x::r,σ,σ',S,hR,hc,h=>by
  simp only[sP]at h;split at h
  .split at h
   .split at h
    .split at h
     .rename_i e b xs f eu;split at h
      .simp at h
      .rename_i hp;simp only[qk,not_or,Ù]at hp;obtain⟨S1,bm,_⟩:=Hu hR hp.2 eu hp.1;exact Bn r _ σ' S1 bm (λi=>hc i) h
     .simp at h
    .exact Bn r σ σ' S hR hc h
   .exact Bn r σ σ' S hR hc h
  .exact Bn r σ σ' S hR hc h
theorem nZ:∀{l:H G}{i j:G},l.idxOf? i=B j->l[j]? = B i
 |[],i,j,h=>by simp at h
 |x::l,i,j,h=>by
  rw[ó]at h;split at h
  .rename_i he;simp at h he;subst h;subst he;rfl
  .cases hq:l.idxOf? i with
   |none=>simp[hq]at h
   |some j'=>simp[hq]at h;subst h;simpa using nZ hq
theorem Iu:∀{l:H G}{i:G},l.idxOf? i=Á->i∉l
 |[],i,_=>af
 |x::l,i,h=>by
  rw[ó]at h;split at h
  .simp at h
  .rename_i he;have hq:l.idxOf? i=none:=by simpa using h
   have:=Iu hq;simp only[jm,not_or];exact⟨λe=>he (by simp[e]),this⟩
theorem Iv{e:G}{t:Ty}{l:Loc}{k:O G}{xs:H t.den}{f:Æ}(h:xv σ e t l=B (k,xs,f)) :
  (k=Á/\isM e=U/\xs=[]/\gJ σ l = .nil)\/∃k0,k=B k0/\gJ σ l = .ol k0/\σ.bx k0 = .live (.lst e t xs f):=by
 unfold xv at h;split at h
 .rename_i hl;split at h
  .simp at h
  .rename_i hm;simp only[jb,jf]at h;exact .inl ⟨h.1.symm,by simpa using hm,h.2.1.symm,hl⟩
 .rename_i k0 hl;split at h
  .rename_i e' t' cE f' hb;split at h
   .rename_i v iO;split at h
    .rename_i he;simp only[jb,jf]at h;obtain⟨rfl,rfl,rfl⟩:=h;have:=lv iO;cases this;subst he;exact .inr ⟨k0,rfl,hl,hb⟩
    .simp at h
   .simp at h
  .simp at h
 .simp at h
theorem Eg{e:G}{t:Ty}:∀{ls:H Loc}{k:O G}{xs:H t.den}{f:Æ},uF σ e t ls=B (k,xs,f)->
  (∃l∈ls,xv σ e t l=B (k,xs,f))/\∀l∈ls,∃cE f',xv σ e t l=B (k,cE,f')
 |[],_,_,_,h=>by simp[uF]at h
 |[l],k,xs,f,h=>by
  simp only[uF]at h;exact⟨⟨l,af,h⟩,λl' lZ=>by simp at lZ;subst lZ;exact⟨_,_,h⟩⟩
 |l::l2::ls,k,xs,f,h=>by
  simp only[uF]at h;split at h
  .rename_i k1 D0 f1 k2 OC f2 h1 h2;split at h
   .rename_i hk;simp only[jb,jf]at h;obtain⟨rfl,rfl,rfl⟩:=h;subst hk;obtain⟨_,ar⟩:=Eg h2;refine⟨⟨l,af,h1⟩,λl' lZ=>?_⟩;rcases jm.1 lZ with rfl|lZ
    .exact⟨_,_,h1⟩
    .exact ar l' lZ
   .simp at h
  .simp at h
def PT(np:G)(σ:St)(bs:H G)(x:mT)(it:Item)(src:O G):Prop:=
 ∃xs f f',uF σ x.e x.a x.locs=B (src,xs,f)/\it = .b (.live (.lst x.e x.a xs f'))/\∀k0,src=B k0->f'=f/\k0∉bs/\parK np k0=U
theorem PU{bs:H G}:∀{L:H mT}{is:H Item}{ks:H G},xw np σ bs L=B (is,ks)->
  ∃eZ:H (O G),ks=eZ.filterMap id/\ks.Nodup/\∀(j:G)(x:mT),L[j]? = B x->∃it src,is[j]? = B it/\eZ[j]? = B src/\PT np σ bs x it src
 |[],is,ks,h=>by
  simp[xw]at h;obtain⟨rfl,rfl⟩:=h;exact⟨[],rfl,ã,λj x hx=>by simp at hx⟩
 |x::L,is,ks,h=>by
  simp only[xw]at h;split at h
  .rename_i k xs f is' Hd h1 h2;obtain⟨eZ,e1,e2,e3⟩:=PU h2;split at h
   .simp only[jb,jf]at h;obtain⟨rfl,rfl⟩:=h;refine⟨Á::eZ,by simp[e1],e2,λj y hy=>?_⟩;cases j with
    |zero=>simp at hy;subst hy;exact⟨_,Á,rfl,rfl,xs,f,x.frz,h1,rfl,af⟩
    |succ j=>exact e3 j y (by simpa using hy)
   .rename_i k0;split at h
    .simp at h
    .rename_i hn;simp only[qk,not_or,Ù,qe,jp]at hn;simp only[jb,jf]at h;obtain⟨rfl,rfl⟩:=h;refine⟨B k0::eZ,by simp[e1],qt.2 ⟨hn.1.1,e2⟩,λj y hy=>?_⟩;cases j with
     |zero=>simp at hy;subst hy;exact⟨_,B k0,rfl,rfl,xs,f,f,h1,rfl,λk1 df=>by simp at df;subst df;exact⟨rfl,hn.1.2,hn.2⟩⟩
     |succ j=>exact e3 j y (by simpa using hy)
  .simp at h
theorem PV:∀{eZ:H (O G)},(eZ.filterMap id).Nodup->∀{j j' k:G},eZ[j]? = B (B k)->eZ[j']? = B (B k)->j=j'
 |[],_,j,_,_,h,_=>by simp at h
 |s::eZ,hn,j,j',k,h,h'=>by
  have pj:∀{i:G},eZ[i]? = B (B k)->k∈eZ.filterMap id:=λhi=>zt.2 ⟨B k,kb hi,rfl⟩
  have Iw:(eZ.filterMap id).Nodup:=by
   cases s with
   |none=>simpa using hn
   |some y=>simp at hn;exact hn.2
  cases j with
  |zero=>
   cases j' with
   |zero=>rfl
   |succ j'=>simp at h h';subst h;simp at hn;exact absurd (by simpa using pj h') hn.1
  |succ j=>
   cases j' with
   |zero=>simp at h h';subst h';simp at hn;exact absurd (by simpa using pj h) hn.1
   |succ j'=>have:=PV Iw (j:=j) (j':=j') (k:=k) (by simpa using h) (by simpa using h');omega
theorem PW:∀{l:H G},l.Nodup->∀{i j n:G},l[i]? = B n->l[j]? = B n->i=j
 |[],_,i,_,_,hi,_=>by simp at hi
 |x::l,h,i,j,n,hi,hj=>by
  obtain⟨h1,h2⟩:=qt.1 h;cases i with
  |zero=>
   cases j with
   |zero=>rfl
   |succ j=>simp at hi hj;subst hi;exact absurd (kb hj) h1
  |succ i=>
   cases j with
   |zero=>simp at hi hj;subst hj;exact absurd (kb hi) h1
   |succ j=>rw[PW h2 (i:=i) (j:=j) (n:=n) (by simpa using hi) (by simpa using hj)]
end
section
variable{N:NT}{np:G}{S0:aM}{w0:Z}{refs:Refs}{σ:St}{a:À}{w:Z}{S:aM}{γ:G->Y}
theorem Yd{K:Keep}{l:Loc}{n:G}(h:jmp K l=B n):∃(j:G)(x:mT),K.lists[j]? = B x/\x.name=n/\l∈x.locs:=by
 unfold jmp at h;obtain⟨x,hq,hn⟩:=Option.map_eq_some_iff.1 h;have h1:=List.find?_some hq;obtain⟨j,hj⟩:=ze.1 (List.mem_of_find?_eq_some hq);exact⟨j,x,hj,hn,by simpa using h1⟩
theorem yd{K:Keep}{k:G}{x:BS}{b:Bx}(h:sN K k x = .live b):∃b0,x = .live b0/\iL b0 b:=by
 unfold sN at h;split at h
 .simp only[BS.live.injEq]at h;subst h;exact⟨_,rfl,trivial⟩
 .simp only[BS.live.injEq]at h;subst h;exact⟨_,rfl,.refl _⟩
 .simp only[BS.live.injEq]at h;subst h;exact⟨_,rfl,.refl _⟩
 .simp at h
theorem ye{K:Keep}{k:G}{x:BS}:sN K k x ≠ .free:=by
 unfold sN;split<;>simp
theorem PX{R:Leaf->Y->Prop}{f:Leaf×G->Leaf}:∀{ls:H Leaf}{cs:H Y}(n:G),(∀(j:G)(x:Leaf)(u:Y),ls[j]? = B x->cs[j]? = B u->R (f (x,n+j)) u)->ls.length=cs.length->
  All2 R ((ls.zipIdx n).map f) cs
 |[],[],_,_,_=>trivial
 |x::ls,c::cs,n,h,hl=>by
  refine⟨h 0 x c rfl rfl,PX (n+1) (λj y u hy hu=>?_) (by simpa using hl)⟩;have:=h (j+1) y u (by simpa using hy) (by simpa using hu);rwa[show n+1+j=n+(j+1) by omega]
 |[],_::_,_,_,hl=>by simp at hl
 |_::_,[],_,_,hl=>by simp at hl
theorem Ye{K:Keep}{s:Snap}(hR:Rel N np S0 w0 refs σ a w S γ)(hs:Ha np K σ=B s):∃γ',Rel N np S0 w0 refs (cR np K s) a w S γ'/\cM (cR np K s):=by
 unfold Ha at hs;cases hL:xw np σ K.boxes K.lists with
 |none=>simp[hL]at hs
 |some p=>
 obtain⟨is,ks⟩:=p;simp only[hL]at hs;cases bA:K.ok np with
 |false=>simp[bA]at hs
 |true=>
 simp only[bA,if_true,jb]at hs;obtain⟨eZ,hks,dA,Bo⟩:=PU hL;rw[hks]at dA;simp only[Keep.ok,jh]at bA;have vW:=vG bA.1;have Bc:∀(j:G)(x:mT),K.lists[j]? = B x->x.name∉K.boxes:=by intro j x hx;have:=jr.1 bA.2 x (kb hx);simp only[jh]at this;simpa using this.1
 have tK:∀(j:G)(x:mT),K.lists[j]? = B x->parK np x.name=false:=by intro j x hx;have:=jr.1 bA.2 x (kb hx);simp only[jh]at this;simpa using this.2
 let γ':G->Value:=λn=>match K.boxes.idxOf? n with
  |some _=>γ n
  |none=>match (K.lists.map (·.name)).idxOf? n with
   |some j=>match eZ[j]? with
    |some (B k)=>γ k
    |_=> .slice Á 0 0
   |none=>γ n
 have eu:(cR np K s).bx=λn=>match K.boxes.idxOf? n with
  |some j=>sQ s[K.slots.length+j]?
  |none=>match (K.lists.map (·.name)).idxOf? n with
   |some j=>sQ s[K.slots.length+K.boxes.length+j]?
   |none=>if parK np n then .gone else .free:=rfl
 have hB:∀n,n∈K.boxes->(cR np K s).bx n=sN K n (σ.bx n)/\γ' n=γ n:=by
  intro n hn;rw[eu];cases hq:K.boxes.idxOf? n with
  |none=>exact absurd hn (Iu hq)
  |some j=>have hj:=nZ hq;refine⟨?_,by simp only[γ',hq]⟩;simp only[hq,<-hs];rw[ki af];simp only[zi,Nat.add_sub_cancel_left];rw[Ë (by simp;exact(jt.1 hj).1)];simp[hj,sQ]
 have Ix:∀(j:G)(x:mT),K.lists[j]? = B x->∃it src,eZ[j]? = B src/\PT np σ K.boxes x it src/\(cR np K s).bx x.name=sQ (B it)/\
   γ' x.name=(match src with|some k=>γ k|none=> .slice Á 0 0):=by
  intro j x hx;obtain⟨it,src,h1,h2,h3⟩:=Bo j x hx
  have tL:K.boxes.idxOf? x.name=none:=by
   cases hq:K.boxes.idxOf? x.name with
   |none=>rfl
   |some i=>exact absurd (kb (nZ hq)) (Bc j x hx)
  have tw:(K.lists.map (·.name))[j]? = B x.name:=by simp[hx]
  cases hq:(K.lists.map (·.name)).idxOf? x.name with
  |none=>exact absurd (kb tw) (Iu hq)
  |some i=>
   have hi:=PW vW (nZ hq) tw;subst hi;refine⟨it,src,h2,h3,?_,?_⟩
   .rw[eu];simp only[tL,hq,<-hs];rw[ki aN,ki aN];have:K.slots.length+K.boxes.length+i-(K.slots.map λi=>Item.s (DL K i (σ.sl i))).length-(K.boxes.map λk=>Item.b (sN K k (σ.bx k))).length=i:=aN;rw[this,h1]
   .simp only[γ',tL,hq,h2];cases src<;>rfl
 have hF:∀n b,(cR np K s).bx n = .live b->n∈K.boxes\/∃(j:G)(x:mT),K.lists[j]? = B x/\x.name=n:=by
  intro n b hb;by_cases hn:n∈K.boxes
  .exact .inl hn
  .right;rw[eu]at hb
   have tL:K.boxes.idxOf? n=none:=by
    cases hq:K.boxes.idxOf? n with
    |none=>rfl
    |some i=>exact absurd (kb (nZ hq)) hn
   simp only[tL]at hb;split at hb
   .rename_i j hq;have hj:=nZ hq;simp only[qm]at hj;cases hx:K.lists[j]? with
    |none=>simp[hx]at hj
    |some x=>simp[hx]at hj;exact⟨j,x,hx,hj⟩
   .split at hb<;>simp at hb
 have iP:∀(loc:O Loc)(x:Leaf)(u:Y),bj S w γ σ.bx x u->(x ≠ .dead->One u)->(∀l,loc=B l->gJ σ l=x)->
   bj S w γ' (cR np K s).bx (nf K loc x) u/\(nf K loc x ≠ .dead->One u):=by
  intro loc x u hl h1 Iy;have gT:bj S w γ' (cR np K s).bx .dead u/\(Leaf.dead ≠ .dead->One u):=⟨trivial,λh=>absurd rfl h⟩
  have iU:∀n,loc.bind (jmp K)=B n->∀(hu:(x = .nil)\/∃k,x = .ol k),bj S w γ' (cR np K s).bx (.ol n) u/\(Leaf.ol n ≠ .dead->One u):=by
   intro n hn hu;cases loc with
   |none=>simp at hn
   |some l=>
    simp only[ja]at hn;have rP:=Iy l rfl;obtain⟨j,y,hy,Yf,HE⟩:=Yd hn;obtain⟨it,src,_,⟨xs,f,f',gU,yf,vX⟩,vY,qI⟩:=Ix j y hy;obtain⟨_,ar⟩:=Eg gU;obtain⟨cE,f1,pd⟩:=ar l HE;have cu:One u:=h1 (by rcases hu with rfl|⟨k,rfl⟩<;>simp);rw[Yf]at vY qI;refine⟨⟨by rw[vY,yf];simp[sQ],cu,λb _=>?_⟩,λ_=>cu⟩;rw[qI];rcases Iv pd with⟨rfl,_,_,eI⟩|⟨k0,rfl,PY,cC⟩
    .rw[rP]at eI;subst eI;exact hl
    .rw[rP]at PY;subst PY;exact hl.2.2 _ cC
  cases x with
  |dead=>exact gT
  |nil=>
   simp only[nf];split
   .rename_i n hn;exact iU n hn (.inl rfl)
   .exact⟨hl,h1⟩
  |d t v=>exact⟨hl,h1⟩
  |ip ls=>exact⟨hl,h1⟩
  |clo f caps=>exact⟨hl,h1⟩
  |clr f ks=>
   simp only[nf];split
   .rename_i hks;obtain⟨cv,hu,ha⟩:=hl;refine⟨⟨cv,hu,?_⟩,λ_=>h1 af⟩
    have go:∀(ks:H G)(zs:H Y),ks.all (λk=>K.boxes.contains k)=X->All2 (zX γ σ.bx) ks zs->All2 (zX γ' (cR np K s).bx) ks zs:=by
     intro ks;induction ks with
     |nil=>intro zs _ h;cases zs with|nil=>trivial|cons _ _=>exact h.elim
     |cons k ks ih=>
      intro zs hc h;cases zs with
      |nil=>exact h.elim
      |cons z zs=>simp only[qz,jh]at hc;obtain⟨dg,dM⟩:=hB k (by simpa using hc.1);refine⟨⟨by rw[dg];exact ye,h.1.2.1,λb hb=>?_⟩,ih zs hc.2 h.2⟩;rw[dg]at hb;obtain⟨b0,ea,_⟩:=yd hb;rw[dM];exact h.1.2.2 b0 ea
    exact go ks cv.toList hks ha
   .exact gT
  |ep k i c=>exact gT
  |tl k i=>
   simp only[nf];split
   .rename_i hk;obtain⟨dg,dM⟩:=hB k (by simpa using hk);refine⟨⟨by rw[dg];exact ye,hl.2.1,λb hb=>?_⟩,λ_=>hl.2.1⟩;rw[dg]at hb;obtain⟨b0,ea,gE⟩:=yd hb;have h3:=hl.2.2 b0 ea;rw[dM]
    cases b0<;>cases b<;>simp only[iL]at gE<;>first
     |exact gE.elim
     |exact h3.elim
     |(obtain⟨rfl,rfl,lZ⟩:=gE;simp only at h3 ⊢;obtain⟨hm,h3⟩:=h3;rw[<-lZ hm];exact⟨hm,h3⟩)
   .exact gT
  |hd k i=>
   simp only[nf];split
   .rename_i hk;obtain⟨dg,dM⟩:=hB k (by simpa using hk);refine⟨⟨by rw[dg];exact ye,hl.2.1,λb hb=>?_⟩,λ_=>hl.2.1⟩;rw[dg]at hb;obtain⟨b0,ea,gE⟩:=yd hb;have h3:=hl.2.2 b0 ea;rw[dM]
    cases b0<;>cases b<;>simp only[iL]at gE<;>first
     |exact gE.elim
     |exact h3.elim
     |(obtain⟨rfl,rfl,lZ⟩:=gE;simp only at h3 ⊢;obtain⟨hm,h3⟩:=h3;rw[<-lZ hm];exact⟨hm,h3⟩)
   .exact gT
  |ol k=>
   simp only[nf];split
   .rename_i hk;obtain⟨dg,dM⟩:=hB k (by simpa using hk);refine⟨⟨by rw[dg];exact ye,hl.2.1,λb hb=>?_⟩,λ_=>hl.2.1⟩;rw[dg]at hb;obtain⟨b0,ea,_⟩:=yd hb;rw[dM];exact hl.2.2 b0 ea
   .split
    .rename_i n hn;exact iU n hn (.inr ⟨k,rfl⟩)
    .exact gT
  |bp k c=>
   simp only[nf];split
   .rename_i hk;obtain⟨dg,dM⟩:=hB k (by simpa using hk);refine⟨⟨by rw[dg];exact ye,hl.2.1,λb hb=>?_⟩,λ_=>hl.2.1⟩;rw[dg]at hb;obtain⟨b0,ea,_⟩:=yd hb;rw[dM];exact hl.2.2 b0 ea
   .exact gT
 have fR:∀n b,(cR np K s).bx n = .live b->(n∈K.boxes/\γ' n=γ n/\∃b0,σ.bx n = .live b0)\/(blk (γ' n)=Á)\/
   ∃(j:G)(x:mT)(k:G)(b0:Bx),K.lists[j]? = B x/\x.name=n/\eZ[j]? = B (B k)/\γ' n=γ k/\σ.bx k = .live b0/\k∉K.boxes/\parK np k=false:=by
  intro n b hb;rcases hF n b hb with hn|⟨j,x,hx,rfl⟩
  .obtain⟨h1,h2⟩:=hB n hn;rw[h1]at hb;obtain⟨b0,ea,_⟩:=yd hb;exact .inl ⟨hn,h2,b0,ea⟩
  .obtain⟨it,src,vX,⟨xs,f,f',gU,yf,vI⟩,vY,qI⟩:=Ix j x hx;obtain⟨⟨l,_,pd⟩,_⟩:=Eg gU;rcases Iv pd with⟨rfl,_,_,_⟩|⟨k,rfl,_,cC⟩
   .exact .inr (.inl (by rw[qI];rfl))
   .obtain⟨_,h2,h3⟩:=vI k rfl;exact .inr (.inr ⟨j,x,k,_,hx,rfl,vX,qI,cC,h2,h3⟩)
 refine⟨γ',⟨hR.size,hR.defers,?_,?_,?_,?_,hR.ext,hR.new,hR.here,hR.below,hR.grow,hR.os,hR.tape,hR.output,?_,λg o h=>⟨(hR.kept g o h).1,λn b hb cC=>by
  have cX:=(hR.kept g o h).2;rcases fR n b hb with⟨_,e,b0,ea⟩|e|⟨j,x,k,b0,_,_,_,e,ea,_⟩
  .rw[e]at cC;exact cX n b0 ea cC
  .rw[e]at cC;simp at cC
  .rw[e]at cC;exact cX k b0 ea cC⟩,hR.fix⟩,?_⟩
 ·-- slots
  intro i
  have eh:(cR np K s).sl i=match K.slots.idxOf? i with
   |some j=>uH s[j]?
   |none=> .one (.one .dead):=rfl
  rw[eh];cases hq:K.slots.idxOf? i with
  |none=>exact⟨trivial,λh=>absurd rfl h⟩
  |some j=>
   have hj:=nZ hq;have Bp:s[j]? = B (.s (DL K i (σ.sl i))):=by rw[<-hs,Ë (by simp;exact(jt.1 hj).1)];simp[hj]
   simp only[Bp,uH];have tJ:=hR.slot i;show bE S w γ' (cR np K s).bx (DL K i (σ.sl i)) _;cases iN:σ.sl i with
   |tup l=>exact⟨trivial,λh=>absurd rfl h⟩
   |cnd x y z=>exact⟨trivial,λh=>absurd rfl h⟩
   |und=>exact⟨trivial,λh=>absurd rfl h⟩
   |one c=>
    rw[iN]at tJ;cases c with
    |one x=>exact iP (B (.slot i)) x _ tJ.1 tJ.2 (λl hl=>by simp at hl;subst hl;simp[gJ,iN])
    |st ls=>
     obtain⟨cs,hu,ar,h1⟩:=tJ;refine⟨cs,hu,?_,h1⟩;refine All2.map_left.2 ?_
     have:∀{ls:H Leaf}{cs:H Y},All2 (bj S w γ σ.bx) ls cs->(∀u∈cs,One u)->All2 (λx u=>bj S w γ' (cR np K s).bx (nf K Á x) u) ls cs:=by
      intro ls;induction ls with
      |nil=>intro cs h _;cases cs with|nil=>trivial|cons _ _=>exact h.elim
      |cons x ls ih=>
       intro cs h h1;cases cs with
       |nil=>exact h.elim
       |cons u cs=>exact⟨(iP Á x u h.1 (λ_=>h1 u af) af).1,ih h.2 (λv hv=>h1 v (by simp[hv]))⟩
     exact this ar h1
    |av n b xs=>obtain⟨cs,hu,bB⟩:=tJ;exact⟨cs,hu,bB⟩
 ·-- boxes
  intro n b hb;rcases hF n b hb with hn|⟨j,x,hx,rfl⟩
  .obtain⟨h1,h2⟩:=hB n hn;rw[h1]at hb;unfold sN at hb;split at hb
   .rename_i ls frz kO;simp only[BS.live.injEq]at hb;subst hb;obtain⟨g,cur,e,q1,q2,q3,q4,q5,q6⟩:=hR.box n _ kO;have nW:(ls.zipIdx.map λx=>nf K (if frz=X then Á else B (Loc.cell n x.2)) x.1).length=ls.length:=af;refine⟨g,cur,e,h2.trans q1,q2,?_,by rw[nW];exact q4,q5,q6⟩;rw[nW];refine PX 0 (λj x u hx hu=>?_) q3.length;obtain⟨u',dL,gV⟩:=q3.get j x hx;rw[hu]at dL;simp at dL;subst dL;refine(iP _ x u gV (λ_=>q4 u (kb hu)) (λl hl=>?_)).1;cases frz with
    |true=>simp at hl
    |false=>simp at hl;subst hl;simp[gJ,kO,hx]
   .rename_i m t xs kO;simp only[BS.live.injEq]at hb;subst hb;obtain⟨g,cur,e,q1,q2,q3,q4⟩:=hR.box n _ kO;exact⟨g,cur,e,h2.trans q1,q2,q3,q4⟩
   .rename_i e t xs frz kO;simp only[BS.live.injEq]at hb;subst hb;obtain⟨q1,q3⟩:=hR.box n _ kO;exact⟨by rw[h2];exact q1,by rw[h2];exact q3⟩
   .simp at hb
  .obtain⟨it,src,vX,⟨xs,f,f',gU,yf,vI⟩,vY,qI⟩:=Ix j x hx;obtain⟨⟨l,_,pd⟩,_⟩:=Eg gU;rw[vY,yf]at hb;simp only[sQ,BS.live.injEq]at hb;subst hb;rcases Iv pd with⟨rfl,bO,rfl,_⟩|⟨k,rfl,_,cC⟩
   .refine xC bO ⟨[],?_,trivial,λg hg=>?_⟩
    .rw[qI];exact⟨af,.inl ⟨rfl,rfl⟩⟩
    .rw[qI]at hg;simp[blk]at hg
   .obtain⟨rfl,_,_⟩:=vI k rfl;obtain⟨q1,q3⟩:=hR.box k _ cC;exact⟨by rw[qI];exact q1,by rw[qI];exact q3⟩
 ·-- own
  intro n b g hb hg;rcases fR n b hb with⟨_,h2,b0,h3⟩|h|⟨j,x,k,b0,_,_,_,h2,h3,_,h5⟩
  .rw[h2]at hg;exact hR.own n b0 g h3 hg
  .rw[h]at hg;simp at hg
  .rw[h2]at hg;rcases hR.own k b0 g h3 hg with h|h
   .exact .inl h
   .rw[h5]at h;simp at h
 ·-- apart
  intro n n' b b' g br hb aG hg ao;rcases fR n b hb with⟨m1,h2,b0,h3⟩|h|⟨j,x,k,b0,hx,Yg,hj,h2,h3,h4,_⟩
  .rw[h2]at hg;rcases fR n' b' aG with⟨_,i2,b1,i3⟩|i|⟨j',x',k',b1,_,_,_,i2,i3,i4,_⟩
   .rw[i2]at ao;exact hR.apart n n' b0 b1 g br h3 i3 hg ao
   .rw[i]at ao;simp at ao
   .rw[i2]at ao;exact hR.apart n k' b0 b1 g (by rintro rfl;exact i4 m1) h3 i3 hg ao
  .rw[h]at hg;simp at hg
  .rw[h2]at hg;rcases fR n' b' aG with⟨m1,i2,b1,i3⟩|i|⟨j',x',k',b1,nT,Iz,mG,i2,i3,i4,_⟩
   .rw[i2]at ao;exact hR.apart k n' b0 b1 g (by rintro rfl;exact h4 m1) h3 i3 hg ao
   .rw[i]at ao;simp at ao
   .rw[i2]at ao;by_cases bI:k=k'
    .subst bI;have:=PV dA hj mG;subst this;rw[hx]at nT;simp at nT;subst nT;exact br (Yg.symm.trans Iz)
    .exact hR.apart k k' b0 b1 g bI h3 i3 hg ao
 ·-- parameters
  intro k v hv;obtain⟨p1,p2,p3⟩:=hR.par k v hv;refine⟨p1,?_,?_⟩
  .by_cases hk:k∈K.boxes
   .rw[(hB k hk).1];exact ye
   .rw[eu]
    have tL:K.boxes.idxOf? k=none:=by
     cases hq:K.boxes.idxOf? k with
     |none=>rfl
     |some i=>exact absurd (kb (nZ hq)) hk
    simp only[tL];split
    .rename_i j hq;have hj:=nZ hq;simp only[qm]at hj;cases hx:K.lists[j]? with
     |none=>simp[hx]at hj
     |some x=>simp[hx]at hj;have:=tK j x hx;rw[hj,p1]at this;simp at this
    .simp[p1]
  .by_cases hk:k∈K.boxes
   .rw[(hB k hk).2];exact p3
   .have tL:K.boxes.idxOf? k=none:=by
     cases hq:K.boxes.idxOf? k with
     |none=>rfl
     |some i=>exact absurd (kb (nZ hq)) hk
    simp only[γ',tL];split
    .rename_i j hq;have hj:=nZ hq;simp only[qm]at hj;cases hx:K.lists[j]? with
     |none=>simp[hx]at hj
     |some x=>simp[hx]at hj;have:=tK j x hx;rw[hj,p1]at this;simp at this
    .exact p3
 .intro i;show ((match K.slots.idxOf? i with|some j=>uH s[j]?|none=>Slot.one (.one .dead)):Slot).bare=X;split
  .unfold uH;split<;>rfl
  .rfl
theorem tM{K:Keep}{s:Snap}(hR:Rel N np S0 w0 refs σ a w S γ)(hc:cM σ)(hs:il np K σ=B s):∃S' γ',Rel N np S0 w0 refs (cR np K s) a w S' γ'/\cM (cR np K s):=by
 unfold il at hs;split at hs
 .rename_i σ1 h1;split at hs
  .rename_i σ2 h2;obtain⟨S1,bm,eg⟩:=It _ _ _ _ hR hc h1;obtain⟨S2,bS,fp⟩:=Bn _ _ _ _ bm eg h2;obtain⟨γ',eV,rQ⟩:=Ye bS hs;exact⟨S2,γ',eV,rQ⟩
  .simp at hs
 .simp at hs
end
def RdLe(rd bt:G->BS):Prop:=∀k,rd k=bt k\/rd k = .gone
theorem RdLe.live{rd bt:G->BS}(h:RdLe rd bt){k:G}{b:Bx}(hk:rd k = .live b):bt k = .live b:=by
 rcases h k with h|h
 .rw[<-h];exact hk
 .rw[h]at hk;simp at hk
theorem RdLe.free{rd bt:G->BS}(h:RdLe rd bt){k:G}(hk:fV (rd k)=X):fV (bt k)=true:=by
 rcases h k with h|h
 .rw[<-h];exact hk
 .rw[h]at hk;simp[fV]at hk
theorem RdLe.isLive{rd bt:G->BS}(h:RdLe rd bt){k:G}(hk:isLive (rd k)=X):isLive (bt k)=true:=by
 rcases h k with h|h
 .rw[<-h];exact hk
 .rw[h]at hk;simp[Lft.isLive]at hk
theorem RdLe.rdf{rd bt:G->BS}(h:RdLe rd bt)(np:G):RdLe (λk=>if parK np k then .gone else rd k) (λk=>if parK np k then .gone else bt k):=by
 intro k;dsimp only;split
 .exact .inl rfl
 .exact h k
theorem RdLe.msk{rd bt:G->BS}(h:RdLe rd bt):RdLe (mskM rd) (mskM bt):=by
 intro k;rcases h k with h|h
 .left;unfold mskM;rw[h]
 .right;unfold mskM;rw[h]
theorem IA(M:H G)(rd:G->BS):RdLe (hQ M rd) rd:=by
 intro k;unfold hQ;split
 .exact .inr rfl
 .exact .inl rfl
section
variable{rd bt:G->BS}(hle:RdLe rd bt)
include hle
theorem Yh{t:Ty}{l:Leaf}{x}(h:iI rd t l=B x):iI bt t l=B x:=by
 unfold iI at h ⊢;split at h
 .exact h
 .exact h
 .split at h
  .rename_i hk;rw[hle.live hk];exact h
  .simp at h
 .simp at h
theorem Yi{l:Leaf}{n:G}(h:lenL rd l=B n):lenL bt l=B n:=by
 unfold lenL at h ⊢;split at h
 .simp at h
 .exact h
 .split at h
  .rename_i hk;rw[hle.live hk];exact h
  .rename_i hk;rw[hle.live hk];exact h
  .simp at h
 .simp at h
theorem Yj{t:Ty}{l:Leaf}{x}(h:iI rd t l=B x):lenL bt l=lenL rd l:=by
 cases l with
 |ol k=>
  simp only[iI]at h;split at h
  .rename_i hk;simp only[lenL,hk,hle.live hk]
  .simp at h
 |d t' v=>cases t'<;>first|rfl|(rename_i b;cases b<;>rfl)
 |_=>rfl
theorem PZ{t:Ty}{l:Leaf}{x}(h:ik rd t l=B x):ik bt t l=B x:=by
 unfold ik at h ⊢;cases hH:jQ rd t l with
 |some v=>
  rw[hH]at h
  have:jQ bt t l=B v:=by
   unfold jQ at hH ⊢;split at hH
   .rename_i n hn;rw[Yi hle hn];exact hH
   .simp at hH
  rw[this];exact h
 |none=>
  rw[hH]at h;have:jQ bt t l=none:=by unfold jQ at hH ⊢;rw[Yj hle h];exact hH
  rw[this];exact Yh hle h
theorem Eh:∀(t:Ty){ls:H Leaf}{x},gath rd t ls=B x->gath bt t ls=B x:=by
 intro t;induction t with
 |unit=>intro ls x h;simpa[gath]using h
 |wrap a ih=>
  intro ls x h;simp only[gath]at h ⊢;split at h
  .rename_i hg;rw[ih hg];exact h
  .simp at h
 |pair a b uP uQ=>
  intro ls x h;simp only[gath]at h ⊢;split at h
  .rename_i hg;rw[uP hg];dsimp only;split at h
   .rename_i gh;rw[uQ gh];exact h
   .simp at h
  .simp at h
 |arr n a ih=>intro ls x h;simp[gath]at h
 |_=>
  intro ls x h;cases ls with
  |nil=>simp[gath]at h
  |cons l ls=>
   simp only[gath]at h ⊢;split at h
   .rename_i hl;rw[PZ hle hl];exact h
   .simp at h
theorem IB{t:Ty}{c:Cel}{x}(h:nM rd t c=B x):nM bt t c=B x:=by
 unfold nM at h ⊢;split at h
 .split at h
  .simp at h
  .rename_i ha;simp only[ha,z8,kp];split at h
   .rename_i hg;rw[Eh hle _ hg];exact h
   .simp at h
 .split at h
  .rename_i ha;simp only[ha,if_true];split at h
   .rename_i hg;rw[Eh hle _ hg];exact h
   .simp at h
  .simp at h
 .exact h
theorem Yk{ti:TyI}{l:Leaf}{x}(h:mW rd ti l=B x):mW bt ti l=B x:=by
 unfold mW at h ⊢;split at h
 .split at h
  .rename_i hk;rw[hle.live hk];exact h
  .rename_i hk;rw[hle.live hk];exact h
  .simp at h
 .split at h
  .rename_i hk;rw[hle.live hk];exact h
  .rename_i hk;rw[hle.live hk];exact h
  .rename_i hk;rw[hle.live hk];exact h
  .simp at h
 .exact h
 .simp at h
theorem Yl{ti:TyI}{i:G}{l:Leaf}{x}(h:nN rd ti i l=B x):nN bt ti i l=B x:=by
 unfold nN at h ⊢;split at h
 .split at h
  .split at h
   .rename_i hl;simp only[hle.isLive hl,if_true];exact h
   .simp at h
  .simp at h
 .split at h
  .split at h
   .rename_i hl;simp only[hle.isLive hl,if_true];exact h
   .simp at h
  .simp at h
 .exact h
 .simp at h
theorem Ym{ti:TyI}{l i:Leaf}{x}(h:qX rd ti l i=B x):qX bt ti l i=B x:=by
 unfold qX at h ⊢;split at h
 .split at h
  .rename_i hk;rw[hle.live hk];exact h
  .rename_i hk;rw[hle.live hk];exact h
  .simp at h
 .exact h
 .split at h
  .rename_i hk;rw[hle.live hk];exact h
  .rename_i hk;rw[hle.live hk];exact h
  .simp at h
 .split at h
  .rename_i hk;rw[hle.live hk];exact h
  .simp at h
 .simp at h
theorem P0(a:Ty):∀{ls:H Leaf}{x},qV rd a ls=B x->qV bt a ls=B x
 |[],_,h=>h
 |l::ls,x,h=>by
  simp only[qV]at h ⊢;split at h
  .rename_i h1 h2;rw[PZ hle h1,P0 a h2];exact h
  .simp at h
theorem Yn{t:O Ty}{l:Leaf}{x}(h:qW rd t l=B x):qW bt t l=B x:=by
 unfold qW at h ⊢;split at h
 .split at h
  .split at h
   .rename_i hi;rw[if_pos hi];split at h
    .rename_i hk;rw[hle.live hk];exact h
    .simp at h
   .simp at h
  .simp at h
 .simp at h
theorem Yo{ti:TyI}{l:Leaf}{c:Cel}(h:qW rd ti.ty l=Á)(hc:mW rd ti l=B c):qW bt ti.ty l=none:=by
 unfold qW at h ⊢;split at h
 .rename_i k;split at h
  .rename_i m el bn;split at h
   .rename_i hi;rw[if_pos hi];simp only[mW]at hc;split at hc
    .rename_i ls frz hk;rw[hle.live hk];cases frz with
     |true=>rfl
     |false=>rw[hk]at h;simp at h
    .rename_i hk;rw[hle.live hk]
    .simp at hc
   .rename_i hi;rw[if_neg hi]
  .rfl
 .rfl
theorem IC(a:Ty):∀(ps:H (G×Cel)){xs:H a.den}{u:Ups}{x},iJ rd a xs u ps=B x->iJ bt a xs u ps=B x
 |[],_,_,_,h=>h
 |(i,c)::r,xs,u,x,h=>by
  simp only[iJ]at h ⊢;split at h
  .rename_i hd;rw[IB hle hd];dsimp only;split at h
   .rename_i hi;simp only[hi,if_true];exact IC a r h
   .simp at h
  .simp at h
theorem Yp{t:O Ty}{l:Leaf}{x}(h:lenC rd t l=B x):lenC bt t l=B x:=by
 unfold lenC at h ⊢;split at h
 .exact h
 .split at h
  .rename_i hk;rw[hle.live hk];exact h
  .rename_i hk;rw[hle.live hk];exact h
  .simp at h
 .exact h
 .exact h
 .split at h
  .rename_i hk;rw[hle.live hk];exact h
  .simp at h
 .split at h
  .rename_i hk;rw[hle.live hk];exact h
  .simp at h
 .simp at h
theorem Yq{e:G}{a:Ty}{s l:Leaf}{x}(h:appH rd e a s l=B x):appH bt e a s l=B x:=by
 unfold appH at h ⊢;split at h
 .split at h
  .rename_i bI;rw[if_pos bI];split at h
   .rename_i hk;rw[hle.live hk];exact h
   .simp at h
  .simp at h
 .simp at h
omit hle in
theorem Yr{e e':G}{a a':Ty}{s l:Leaf}{x}(h:appS rd e a s=B x):appH bt e' a' s l=none:=by
 unfold appS at h;split at h
 .rfl
 .rfl
 .simp at h
omit hle in
theorem Ys{fr P1:Æ}(hf:fr=X->P1=X){e:G}{a:Ty}{n len:G}{ps:H (G×Cel)}{x}(h:one1 fr e a n len ps=B x):one1 P1 e a n len ps=B x:=by
 unfold one1 at h ⊢;split at h
 .split at h
  .split at h
   .rename_i hc;rw[if_pos ⟨hc.1,hc.2.1,hc.2.2.1,hf hc.2.2.2.1,hc.2.2.2.2⟩];exact h
   .simp at h
  .simp at h
 .simp at h
omit hle in
theorem Yt{rdf dr:G->BS}(dW:RdLe rdf dr){e:G}{a:Ty}{l:Leaf}{x}(h:rowS rdf e a l=B x):rowS dr e a l=B x:=by
 unfold rowS at h ⊢;split at h
 .exact h
 .split at h
  .rename_i hk;rw[dW.live hk];exact h
  .simp at h
 .simp at h
theorem Yu{rdf dr:G->BS}(dW:RdLe rdf dr){e:G}{a:Ty}{n:G}{s l:Leaf}{x}(h:appN rd rdf e a n s l=B x):appN bt dr e a n s l=B x:=by
 unfold appN at h ⊢;split at h
 .split at h
  .rename_i hk;rw[dW.live hk];dsimp only;split at h
   .rename_i hr;rw[Yt dW hr];dsimp only;split at h
    .rename_i hc;rw[if_pos ⟨hc.1,hc.2.1,hc.2.2.1,hle.free hc.2.2.2⟩];exact h
    .simp at h
   .simp at h
  .simp at h
 .simp at h
omit hle in
theorem Yv{rdf:G->BS}{e e':G}{a a':Ty}{n:G}{s l:Leaf}{x}(h:appN rd rdf e a n s l=B x):appH bt e' a' s l=none:=by
 unfold appN at h;split at h
 .unfold appH;split
  .rename_i hc;cases hc
  .rfl
 .simp at h
omit hle in
theorem Yw{dr P2:G->BS}(dY:∀k,dr k = .gone\/dr k=P2 k){e:G}{a a':Ty}{n:G}{s l:Leaf}{x}(h:appX P2 a l=B x):appN rd dr e a' n s l=none:=by
 unfold appN;split
 .rename_i k;unfold appX at h;dsimp only at h;split at h
  .rename_i hk;rcases dY k with h1|h1
   .rw[h1]
   .rw[h1,hk]
  .simp at h
 .rfl
theorem Yx{ti:TyI}{l m:Leaf}{lo hi:O Leaf}{x}(h:xo rd ti l lo hi m=B x):xo bt ti l lo hi m=B x:=by
 unfold xo at h ⊢;split at h
 .split at h
  .rename_i hk;rw[hle.live hk];exact h
  .simp at h
 .simp at h
theorem Yy{e:G}{a:Ty}{l:Leaf}{x}(h:appS rd e a l=B x):appS bt e a l=B x:=by
 unfold appS at h ⊢;split at h
 .split at h
  .rename_i hk;rw[hle.live hk];exact h
  .simp at h
 .exact h
 .simp at h
theorem ID{a:Ty}{l:Leaf}{x}(h:appX rd a l=B x):appX bt a l=B x:=by
 unfold appX at h ⊢;split at h
 .split at h
  .rename_i hk;rw[hle.live hk];exact h
  .simp at h
 .exact h
 .exact h
 .split at h
  .rename_i hk;rw[hle.live hk];exact h
  .simp at h
 .simp at h
theorem Yz{t:O Ty}{l m:Leaf}{x}(h:xp rd t l m=B x):xp bt t l m=B x:=by
 unfold xp at h ⊢;split at h
 .split at h
  .rename_i hk;rw[hle.live hk];dsimp only;split at h
   .rename_i ht;rw[if_pos ht];split at h
    .rename_i hy;rw[ID hle hy];exact h
    .simp at h
   .simp at h
  .simp at h
 .simp at h
theorem YA{t:O Ty}{l:Leaf}{x}(h:xq rd t l=B x):xq bt t l=B x:=by
 unfold xq at h ⊢;split at h
 .split at h
  .rename_i hk;rw[hle.live hk];exact h
  .simp at h
 .simp at h
theorem Ei:∀(ls:H Leaf){x},tvs rd ls=B x->tvs bt ls=B x
 |[],_,h=>h
 |l::ls,x,h=>by
  simp only[tvs]at h ⊢;split at h
  .rename_i hr;rw[Ei ls hr];dsimp only;split at h
   .exact h
   .split at h
    .rename_i hk;rw[hle.live hk];exact h
    .simp at h
   .simp at h
  .simp at h
theorem P3:∀(cs:H Cel){x},sJ rd cs=B x->sJ bt cs=B x
 |[],_,h=>h
 |c::cs,x,h=>by
  simp only[sJ]at h ⊢;split at h
  .rename_i hr;rw[P3 cs hr];dsimp only;split at h
   .exact h
   .split at h
    .rename_i hk;rw[hle.live hk];dsimp only;split at h
     .rename_i ht;rw[Ei hle _ ht];exact h
     .simp at h
    .simp at h
   .simp at h
  .simp at h
end
theorem YB{rd bt rdf dr:G->BS}(hle:RdLe rd bt)(dW:RdLe rdf dr){n:G}{c:Cel}{l:Leaf}{x}(h:sH rd rdf n c l=B x):sH bt dr n c l=B x:=by
 unfold sH at h ⊢;split at h
 .split at h
  .rename_i hk;rw[hle.live hk];exact h
  .rename_i hk;rw[hle.live hk];exact h
  .simp at h
 .split at h
  .rename_i hk;rw[hle.live hk];dsimp only;split at h
   .split at h
    .rename_i hi;rw[if_pos hi];split at h
     .rename_i hg;rw[Eh dW _ hg];exact h
     .simp at h
    .simp at h
   .simp at h
  .rename_i hk;rw[hle.live hk];dsimp only;split at h
   .split at h
    .rename_i hi;rw[if_pos hi];split at h
     .rename_i hg;rw[Eh dW _ hg];exact h
     .simp at h
    .simp at h
   .simp at h
  .rename_i hk;rw[hle.live hk];exact h
  .simp at h
 .simp at h
theorem YC{par:G->Æ}{rd bt:G->BS}(hle:RdLe rd bt){ti:TyI}{n:G}{l:Leaf}{lo hi:O Leaf}{x}(h:xn par rd ti n l lo hi=B x):xn par bt ti n l lo hi=B x:=by
 unfold xn at h ⊢;split at h
 .exact h
 .split at h
  .split at h
   .rename_i hk;rw[hle.live hk];exact h
   .simp at h
  .split at h
   .rename_i hk;rw[hle.live hk];dsimp only;split at h
    .rename_i bn;rw[if_pos bn];split at h
     .split at h
      .rename_i hp;rw[if_pos hp];exact h
      .rename_i hp;rw[if_neg hp];split at h
       .rename_i hl;rw[if_pos hl];split at h
        .rename_i hf;rw[if_pos (hle.free hf)];exact h
        .simp at h
       .rename_i hl;rw[if_neg hl];exact h
     .simp at h
    .simp at h
   .simp at h
 .split at h
  .rename_i hk;rw[hle.live hk];exact h
  .simp at h
 .simp at h
theorem YD{rd bt rdf dr:G->BS}(hle:RdLe rd bt)(dW:RdLe rdf dr){t:O TyI}{mv rl:Æ}{c:Cel}{x}(h:sK rd rdf t mv rl c=B x):sK bt dr t mv rl c=B x:=by
 unfold sK at h ⊢;split at h
 .split at h
  .rename_i hk;rw[hle.live hk];dsimp only;split at h
   .rename_i ht;rw[Ei dW _ ht];exact h
   .simp at h
  .rename_i hk;rw[hle.live hk];dsimp only;split at h
   .rename_i ht;rw[Ei dW _ ht];exact h
   .simp at h
  .simp at h
 .exact h
 .exact h
 .split at h
  .cases mv with
   |true=>
    simp only[jc]at h ⊢;split at h
    .rename_i hk;rw[dW.live hk];exact h
    .simp at h
   |false=>
    simp only[jd]at h ⊢;split at h
    .rename_i hk;rw[hle.live hk];exact h
    .simp at h
  .split at h
   .rename_i hk;rw[dW.live hk];exact h
   .simp at h
 .split at h
  .split at h
   .split at h
    .rename_i hd;rw[IB dW hd];exact h
    .simp at h
   .simp at h
  .simp at h
theorem IE{rd bt rdf dr:G->BS}(hle:RdLe rd bt)(dW:RdLe rdf dr){T:G->O TyI}{mv:Æ}:∀(cs:H Cel){ts:H G}{ms:H Æ}{x},mY rd rdf T mv ts ms cs=B x->mY bt dr T mv ts ms cs=B x
 |[],_,_,_,h=>h
 |c::cs,ts,ms,x,h=>by
  simp only[mY]at h ⊢;split at h
  .rename_i ha;rw[YD hle dW ha];dsimp only;split at h
   .rename_i hr;rw[IE hle dW cs hr];exact h
   .simp at h
  .simp at h
theorem YE{rd bt rdf dr:G->BS}(hle:RdLe rd bt)(dW:RdLe rdf dr){n m:G}{us:Ups}{fs:H Bk}{os:H Out}{x}(h:mkHd rd rdf n us fs m os=B x):mkHd bt dr n us fs m os=B x:=by
 unfold mkHd at h ⊢;split at h
 .split at h
  .split at h
   .rename_i hf;simp only[jh]at hf;rw[if_pos (by simp only[jh];exact⟨hle.free hf.1,dW.isLive hf.2⟩)];exact h
   .simp at h
  .simp at h
 .simp at h
theorem P4{rd bt rdf dr:G->BS}(hle:RdLe rd bt)(dW:RdLe rdf dr){n:G}{us:Ups}{fs:H Bk}{r:Ret}{x}(h:qY rd rdf n us fs r=B x):qY bt dr n us fs r=B x:=by
 unfold qY at h ⊢;split at h
 .exact YE hle dW h
 .unfold zG at h ⊢;split at h
  .split at h
   .rename_i hf;simp only[jh]at hf;rw[if_pos (by simp only[jh];exact⟨hf.1,jr.2 λe he=>hle.free (jr.1 hf.2 e he)⟩)];exact h
   .simp at h
  .simp at h
 .split at h
  .split at h
   .split at h
    .rename_i hf;rw[if_pos (jr.2 λe he=>hle.free (jr.1 hf e he))];exact h
    .simp at h
   .simp at h
  .simp at h
inductive ActLe:Act->Act->Prop
 |val (chk:Æ) (s:Slot) (u:Ups):ActLe (.val chk s u) (.val chk s u)
 |call (f:G) (args:H Arg) (mk mk':Ret->O (Slot×Ups)):(∀r x,mk r=B x->mk' r=B x)->ActLe (.call f args mk) (.call f args mk')
theorem ActLe.refl(x:Act):ActLe x x:=by cases x with
 |val chk s u=>exact .val chk s u
 |call f args mk=>exact .call f args mk mk λ_ _ h=>h
theorem P5{x y:O Leaf}(h:∀z,x=B z->y=B z){r:Act}(hr:lL x=B r):lL y=B r:=by
 cases x with
 |none=>simp[lL]at hr
 |some z=>rw[h z rfl];exact hr
theorem YF{x y:O (Æ×Leaf)}(h:∀z,x=B z->y=B z){r:Act}(hr:oChk x=B r):oChk y=B r:=by
 cases x with
 |none=>simp[oChk]at hr
 |some z=>rw[h z rfl];exact hr
theorem P6{rd bt:G->BS}(hle:RdLe rd bt){t:G}{k v:Ty}{x y:Leaf}{z}(h:mapC rd t k v x y=B z):mapC bt t k v x y=B z:=by
 unfold mapC at h ⊢;split at h
 .split at h
  .rename_i hb;simp only[hle.live hb];exact h
  .simp at h
 .simp at h
theorem P7{E:Env}{ev:Ô->Slot}{rd bt:G->BS}(kE:RdLe rd bt){act:H (G×Æ)}{o:Ä}{A:Act}(h:dE E ev rd act o=B A):∃A',dE E ev bt act o=B A'/\ActLe A A':=by
 have hle:=kE.msk;have dW:=hle.rdf E.np;have dY:∀k,(if parK E.np k then BS.gone else mskM bt k) = .gone\/(if parK E.np k then BS.gone else mskM bt k)=mskM bt k:=λk=>by by_cases hp:parK E.np k=X<;>simp[hp]
 have same:dE E ev bt act o=B A->∃A',dE E ev bt act o=B A'/\ActLe A A':=λh=>⟨A,h,.refl A⟩;obtain⟨dst,op,type,pos,after,guard⟩:=o;cases op
 case alloc t=>
  refine same ?_;simp only[dE]at h ⊢;split at h
  .split at h
   .rename_i hf;simp only[hle.free hf,if_true];exact h
   .simp at h
  .simp at h
 case box t x=>
  refine same ?_;simp only[dE]at h ⊢;split at h
  .rename_i hf;simp only[hle.free hf,if_true];exact h
  .simp at h
 case build t ps=>
  refine same ?_;simp only[dE]at h ⊢;split at h
  .split at h
   .split at h
    .rename_i hi;simp only[hi,if_true];exact h
    rename_i hi;rw[if_neg hi];split at h
    .rename_i hb;rw[IC dW _ _ hb];exact h
    .simp at h
   .exact h
   .simp at h
  .simp at h
 case buildSlice t n ps=>
  refine same ?_;simp only[dE]at h ⊢;split at h
  .split at h
   .split at h
    .rename_i dg;rw[if_pos dg];exact Ys hle.free h
    rename_i dg;rw[if_neg dg];split at h
    .simp at h
    .rename_i hn;simp only[hn,z8];split at h
     .rename_i hb;rw[IC dW _ _ hb];dsimp only;split at h
      .rename_i hf;simp only[hle.free hf,if_true];exact h
      .simp at h
     .simp at h
   .simp at h
  .simp at h
 case load t x=>
  refine same ?_;simp only[dE]at h ⊢;split at h
  .split at h
   .rename_i pd;split at h
    .rename_i hg;rw[Yn hle pd];dsimp only;rw[P0 dW _ hg];exact h
    .simp at h
   .rename_i pd;cases mD:mW (mskM rd) _ (lf ((ev x).cel act)) with
    |none=>rw[mD]at h;simp[oCel]at h
    |some c=>rw[Yo hle pd mD,Yk hle mD];rw[mD]at h;exact h
  .simp at h
 case store t x y=>
  refine same ?_;simp only[dE]at h ⊢;split at h
  .split at h
   .rename_i hs;rw[YB hle dW hs];exact h
   .simp at h
  .simp at h
 case nilCheck x=>
  refine same ?_;simp only[dE]at h ⊢;split at h
  .split at h
   .rename_i hl;simp only[hle.isLive hl,if_true];exact h
   .simp at h
  .split at h
   .rename_i hl;simp only[hle.isLive hl,if_true];exact h
   .simp at h
  .exact h
  .simp at h
 case makeFunc fn first captured=>
  refine same ?_;cases fn with
  |func f=>
   simp only[dE]at h ⊢;split at h
   .rename_i hf;simp only[hf,if_true];split at h
    .rename_i oU;simp only[oU,if_true];exact h
    .rename_i oU;simp only[oU];split at h
     .rename_i hc;rw[P3 dW _ hc];exact h
     .simp at h
   .simp at h
  |_=>simp[dE]at h
 case fieldAddr t x i=>
  refine same ?_;simp only[dE]at h ⊢;split at h
  .exact P5 (λz hz=>Yl hle hz) h
  .simp at h
 case indexAddr t x i=>
  refine same ?_;simp only[dE]at h ⊢;split at h
  .exact YF (λz hz=>Ym hle hz) h
  .simp at h
 case call c=>
  simp only[dE]at h ⊢;cases hc:c.callee with
  |invoke r m=>simp[hc]at h
  |value f=>
   simp only[hc]at h ⊢;split at h
   .split at h
    .rename_i ha;rw[IE kE dW _ ha];dsimp only;split at h
     .rename_i hb;simp only[hb,if_true];simp only[jb]at h;subst h;exact⟨_,rfl,.call _ _ _ _ λr x hx=>P4 hle dW hx⟩
     .simp at h
    .simp at h
   .split at h
    .rename_i ha;rw[IE kE dW _ ha];dsimp only;split at h
     .rename_i hb;simp only[hb,if_true];simp only[jb]at h;subst h;exact⟨_,rfl,.call _ _ _ _ λr x hx=>P4 hle dW hx⟩
     .simp at h
    .simp at h
   .simp at h
  |builtin b=>
   simp only[hc]at h ⊢;cases b
   case len=>
    refine⟨A,?_,.refl A⟩;dsimp only at h ⊢;split at h
    .split at h
     .exact P5 (λz hz=>Yp hle hz) h
     .simp at h
    .simp at h
   case append=>
    refine⟨A,?_,.refl A⟩;dsimp only at h ⊢;split at h
    .split at h
     .rename_i ht;rw[if_pos ht];split at h
      .split at h
       .rename_i bn;split at h
        .rename_i hh;rw[Yq hle hh];exact h
        split at h
        .rename_i hh;rw[Yv hh];dsimp only;rw[Yu hle dW hh];exact h
        split at h
        .rename_i h1 h2;rw[Yr h1];dsimp only;rw[Yw dY (ID hle h2),Yy dW h1,ID hle h2];dsimp only;split at h
         .rename_i hf;simp only[hle.free hf,if_true];exact h
         .simp at h
        .simp at h
       .simp at h
      .simp at h
     .simp at h
    .simp at h
   case copy=>
    refine⟨A,?_,.refl A⟩;dsimp only at h ⊢;split at h
    .split at h
     .rename_i ht;rw[if_pos ht];split at h
      .split at h
       .rename_i hq;rw[Yz hle hq];exact h
       .simp at h
      .simp at h
     .simp at h
    .simp at h
   case clear=>
    refine⟨A,?_,.refl A⟩;dsimp only at h ⊢;split at h
    .split at h
     .split at h
      .rename_i hq;rw[YA hle hq];exact h
      .simp at h
     .simp at h
    .simp at h
   all_goals exact⟨A,h,.refl A⟩
 case slice t x lo hi mx=>
  refine same ?_;cases mx with
  |some m=>
   simp only[dE]at h ⊢;split at h
   .split at h
    .rename_i hq;rw[Yx hle hq];exact h
    .simp at h
   .simp at h
  |none=>
   simp only[dE]at h ⊢;split at h
   .split at h
    .rename_i hq;rw[YC hle hq];exact h
    .simp at h
   .simp at h
 case makeMap t x=>
  refine same ?_;cases x with
  |some m=>simp[dE]at h
  |none=>
   simp only[dE]at h ⊢;split at h
   .split at h
    .rename_i hf;simp only[hle.free hf,if_true];exact h
    .simp at h
   .simp at h
 case lookup t x i ok=>
  refine same ?_;simp only[dE]at h ⊢;split at h
  .split at h
   .rename_i hq;rw[P6 kE hq];exact h
   .simp at h
  .simp at h
 case mapUpdate t x i y=>
  refine same ?_;simp only[dE]at h ⊢;split at h
  .split at h
   .rename_i hq hd;rw[P6 kE hq,IB dW hd];exact h
   .simp at h
  .simp at h
 all_goals exact⟨A,h,.refl A⟩
section
variable{N:NT}{np:G}{S0:aM}{w0:Z}{refs:Refs}{σ:St}{a:À}{w:Z}{S:aM}{γ:G->Y}
def CFun(C:G->H Arg->(R:Type)->(Ret->O R)->O R):Prop:=
 ∀f args,∃o:O Ret,∀(R:Type)(k:Ret->O R),C f args R k=o.bind k
theorem P8{E:Env}{ev qJ:Ô->Slot}{rd:G->BS}{act:H (G×Æ)}{o:Ä}(h:∀x∈o.op.operands,ev x=qJ x):dE E ev rd act o=dE E qJ rd act o:=by
 have tN:∀ps:Ã (G×Ô),(∀x∈ps.toList.map (·.2),ev x=qJ x)->
   (ps.toList.map λp=>(p.1,(ev p.2).cel act))=(ps.toList.map λp=>(p.1,(qJ p.2).cel act)):=λps hp=>
  é λp hm=>by simp only[hp p.2 (qg.2 ⟨p,hm,rfl⟩)]
 have args:∀ps:Ã Ô,(∀x∈ps,ev x=qJ x)->(ps.toList.map λp=>(ev p).cel act)=(ps.toList.map λp=>(qJ p).cel act):=λps hp=>
  é λp hm=>by rw[hp p (by simpa using hm)]
 obtain⟨dst,op,type,pos,after,guard⟩:=o;cases op<;>simp only[Op.operands]at h<;>simp only[dE]
 case build t ps=>rw[tN ps λx hx=>h x (by simpa using hx)]
 case buildSlice t n ps=>rw[tN ps λx hx=>h x (by simpa using hx)]
 case makeFunc fn first captured=>
  have e:=args captured λx hx=>h x (by simp[hx]);cases fn with
  |func f=>simp only[e]
  |_=>rfl
 case call c=>
  have ha:=args c.args (λx hx=>h x (by simp[Call.operands,hx]));have tO:∀x∈c.args.toList,ev x=qJ x:=λx hx=>h x (by simp[Call.operands];right;simpa using hx);simp only[ha];cases hc:c.callee with
  |value f=>have hf:ev f=qJ f:=h f (by simp[Call.operands,hc]);simp only[hf]
  |invoke r m=>rfl
  |builtin b=>
   cases b<;>simp only
   case len=>
    split
    .rename_i x t fj lY;have:=tO x (by rw[fj];simp);simp only[this]
    .rfl
   case append=>
    split
    .rename_i t t' s x lY fj;have e1:=tO s (by rw[fj];simp);have e2:=tO x (by rw[fj];simp);simp only[e1,e2]
    .rfl
   case copy=>
    split
    .rename_i t t' s x lY fj;have e1:=tO s (by rw[fj];simp);have e2:=tO x (by rw[fj];simp);simp only[e1,e2]
    .rfl
   case clear=>
    split
    .rename_i t x lY fj;have e1:=tO x (by rw[fj];simp);simp only[e1]
    .rfl
 case slice t x lo hi mx=>
  have e1:=h x af
  have eo:∀y:O Ô,(∀z,y=B z->ev z=qJ z)->(y.map λx=>lf ((ev x).cel act))=(y.map λx=>lf ((qJ x).cel act)):=by
   intro y hy;cases y with
   |none=>rfl
   |some z=>simp only[qa,hy z rfl]
  have e2:=eo lo (λz hz=>h z (by simp[hz]));have e3:=eo hi (λz hz=>h z (by simp[hz]));cases mx with
  |some m=>have e4:=h m af;simp only[e1,e2,e3,e4]
  |none=>simp only[e1,e2,e3]
 case makeMap t x=>cases x<;>rfl
 all_goals (first|rfl|(simp_all;done))
def ShEq:BS->BS->Prop
 |.live (.cell _ _),.live (.cell _ _)=>True
 |.live (.lst e a xs _),.live (.lst e' a' cE _)=>e=e'/\a=a'/\xs.length=cE.length
 |.live (.arr n a _),.live (.arr n' a' _)=>n=n'/\a=a'
 |.live (.row e a n _),.live (.row e' a' n' _)=>e=e'/\a=a'/\n=n'
 |.free,.free=>True
 |.gone,.gone=>True
 |_,_=>False
theorem ShEq.refl:∀b:BS,ShEq b b
 |.live (.cell _ _)=>trivial
 |.live (.lst _ _ _ _)=>⟨rfl,rfl,rfl⟩
 |.live (.arr _ _ _)=>⟨rfl,rfl⟩
 |.live (.row _ _ _ _)=>⟨rfl,rfl,rfl⟩
 |.free=>trivial
 |.gone=>trivial
theorem ShEq.symm{b c:BS}(h:ShEq b c):ShEq c b:=by
 cases b with
 |free=>cases c<;>simp_all[ShEq]
 |gone=>cases c<;>simp_all[ShEq]
 |live b=>
  cases c with
  |free=>cases b<;>simp[ShEq]at h
  |gone=>cases b<;>simp[ShEq]at h
  |live c=>
   cases b<;>cases c<;>simp only[ShEq]at h ⊢
   .exact⟨h.1.symm,h.2.1.symm,h.2.2.symm⟩
   .exact⟨h.1.symm,h.2.symm⟩
   .exact⟨h.1.symm,h.2.1.symm,h.2.2.symm⟩
theorem ShEq.trans{b c d:BS}(h:ShEq b c)(h':ShEq c d):ShEq b d:=by
 cases b with
 |free=>cases c with
  |free=>exact h'
  |gone=>simp[ShEq]at h
  |live c=>cases c<;>simp[ShEq]at h
 |gone=>cases c with
  |gone=>exact h'
  |free=>simp[ShEq]at h
  |live c=>cases c<;>simp[ShEq]at h
 |live b=>cases c with
  |free=>cases b<;>simp[ShEq]at h
  |gone=>cases b<;>simp[ShEq]at h
  |live c=>cases d with
   |free=>cases c<;>simp[ShEq]at h'
   |gone=>cases c<;>simp[ShEq]at h'
   |live d=>
    cases b<;>cases c<;>simp only[ShEq]at h<;>cases d<;>simp only[ShEq]at h' ⊢
    .exact⟨h.1.trans h'.1,h.2.1.trans h'.2.1,h.2.2.trans h'.2.2⟩
    .exact⟨h.1.trans h'.1,h.2.trans h'.2⟩
    .exact⟨h.1.trans h'.1,h.2.1.trans h'.2.1,h.2.2.trans h'.2.2⟩
theorem ShEq.mask{rd bt:G->BS}{M:H G}(h:∀k,M.contains k=U->ShEq (rd k) (bt k))(k:G):ShEq (hQ M rd k) (hQ M bt k):=by
 unfold hQ;split
 .trivial
 .rename_i hc;exact h k (by simpa using hc)
theorem Ej{b c:BS}(h:ShEq b c):isLive b=isLive c:=by
 cases b with
 |free=>cases c<;>simp_all[ShEq,isLive]
 |gone=>cases c<;>simp_all[ShEq,isLive]
 |live b=>cases c with
  |free=>cases b<;>simp[ShEq]at h
  |gone=>cases b<;>simp[ShEq]at h
  |live c=>rfl
theorem YG{rd bt:G->BS}(h:∀k,ShEq (rd k) (bt k))(ti:TyI)(l i:Leaf):qX rd ti l i=qX bt ti l i:=by
 unfold qX;split
 .rename_i k _ _;have hk:=h k;generalize rd k=b at hk;generalize bt k=c at hk;cases b with
  |free=>cases c<;>simp_all[ShEq]
  |gone=>cases c<;>simp_all[ShEq]
  |live b=>cases c with
   |free=>cases b<;>simp[ShEq]at hk
   |gone=>cases b<;>simp[ShEq]at hk
   |live c=>
    cases b with
    |lst e a xs f=>cases c with
     |lst e' a' cE f'=>simp only[ShEq]at hk;obtain⟨rfl,rfl,hl⟩:=hk;dsimp only;rw[hl]
     |cell _ _=>simp[ShEq]at hk
     |arr _ _ _=>simp[ShEq]at hk
     |row _ _ _ _=>simp[ShEq]at hk
    |cell _ _=>cases c<;>first|rfl|(simp[ShEq]at hk)
    |arr _ _ _=>cases c<;>first|rfl|(simp[ShEq]at hk)
    |row e a n _=>cases c with
     |row e' a' n' _=>simp only[ShEq]at hk;obtain⟨rfl,rfl,rfl⟩:=hk;rfl
     |_=>simp[ShEq]at hk
 .rfl
 .rename_i k _ _;have hk:=h k;generalize rd k=b at hk;generalize bt k=c at hk;cases b with
  |free=>cases c<;>simp_all[ShEq]
  |gone=>cases c<;>simp_all[ShEq]
  |live b=>cases c with
   |free=>cases b<;>simp[ShEq]at hk
   |gone=>cases b<;>simp[ShEq]at hk
   |live c=>
    cases b with
    |arr n a xs=>cases c with
     |arr n' a' cE=>simp only[ShEq]at hk;obtain⟨rfl,rfl⟩:=hk;rfl
     |cell _ _=>simp[ShEq]at hk
     |lst _ _ _ _=>simp[ShEq]at hk
     |row _ _ _ _=>simp[ShEq]at hk
    |cell _ _=>cases c<;>first|rfl|(simp[ShEq]at hk)
    |lst _ _ _ _=>cases c<;>first|rfl|(simp[ShEq]at hk)
    |row _ _ _ _=>cases c<;>first|rfl|(simp[ShEq]at hk)
 .rename_i k _ _ _;have hk:=h k;generalize rd k=b at hk;generalize bt k=c at hk;cases b with
  |free=>cases c<;>simp_all[ShEq]
  |gone=>cases c<;>simp_all[ShEq]
  |live b=>cases c with
   |free=>cases b<;>simp[ShEq]at hk
   |gone=>cases b<;>simp[ShEq]at hk
   |live c=>
    cases b with
    |lst e a xs f=>cases c with
     |lst e' a' cE f'=>simp only[ShEq]at hk;obtain⟨rfl,rfl,hl⟩:=hk;dsimp only;rw[hl]
     |cell _ _=>simp[ShEq]at hk
     |arr _ _ _=>simp[ShEq]at hk
     |row _ _ _ _=>simp[ShEq]at hk
    |cell _ _=>cases c<;>first|rfl|(simp[ShEq]at hk)
    |arr _ _ _=>cases c<;>first|rfl|(simp[ShEq]at hk)
    |row _ _ _ _=>cases c<;>first|rfl|(simp[ShEq]at hk)
 .rfl
theorem YH{rd bt:G->BS}(h:∀k,ShEq (rd k) (bt k))(ti:TyI)(i:G)(l:Leaf):nN rd ti i l=nN bt ti i l:=by
 unfold nN;split
 .rw[Ej (h _)]
 .rw[Ej (h _)]
 .rfl
 .rfl
theorem ShEq.msk{rd bt:G->BS}{k:G}(h:ShEq (rd k) (bt k)):ShEq (mskM rd k) (mskM bt k):=by
 unfold mskM;generalize rd k=a at h;generalize bt k=b at h;cases a with
 |free=>cases b<;>simp_all[ShEq]
 |gone=>cases b<;>simp_all[ShEq]
 |live a=>
  cases b with
  |free=>cases a<;>simp[ShEq]at h
  |gone=>cases a<;>simp[ShEq]at h
  |live b=>
   cases a<;>cases b<;>simp only[ShEq]at h<;>dsimp only
   .trivial
   .obtain⟨rfl,rfl,h3⟩:=h;rename_i e _ _ _ _ _;cases isM e
    .exact⟨rfl,rfl,h3⟩
    .trivial
   .exact h
   .exact h
theorem YI{E:Env}{ev:Ô->Slot}{rd bt:G->BS}{act:H (G×Æ)}{o:Ä}(ha:ov o=X)(h:∀k,ShEq (rd k) (bt k)):dE E ev rd act o=dE E ev bt act o:=by
 have h:∀k,ShEq (mskM rd k) (mskM bt k):=λk=>(h k).msk;obtain⟨dst,op,type,pos,after,guard⟩:=o;cases op<;>simp only[ov,kp]at ha
 .simp only[dE];split
  .rw[Ej (h _)]
  .rw[Ej (h _)]
  .rfl
  .rfl
 .simp only[dE];split
  .rw[YH h]
  .rfl
 .simp only[dE];split
  .rw[YG h]
  .rfl
theorem P9:∀(u:Ups)(σ:St),(∀e∈u,ShEq (σ.bx e.1) e.2)->∀k,ShEq (σ.bx k) ((σ.upd u).bx k)
 |[],σ,_,k=>ShEq.refl _
 |e::u,σ,h,k=>by
  have h0:∀k,ShEq (σ.bx k) ((σ.setB e.1 e.2).bx k):=by
   intro k;simp only[St.setB];split
   .rename_i hk;rw[hk];exact h e af
   .exact ShEq.refl _
  have h1:=P9 u (σ.setB e.1 e.2) (λx hx=>(h0 x.1).symm.trans (h x (by simp[hx]))) k;exact(h0 k).trans h1
def UpSh(rd:G->BS)(u:Ups):Prop:=∀e∈u,ShEq (rd e.1) e.2/\isLive e.2=X
theorem YJ{rd:G->BS}{t:Ty}{l:Leaf}{v:t.den}{u:Ups}(h:iI rd t l=B (v,u)):UpSh rd u:=by
 unfold iI at h;split at h
 .split at h
  .simp only[jb,jf]at h;rw[<-h.2];intro e he;simp at he
  .simp at h
 .split at h
  .simp only[jb,jf]at h;rw[<-h.2];intro e he;simp at he
  .simp at h
 .split at h
  .rename_i hk;split at h
   .simp only[jb,jf]at h;rw[<-h.2];intro e he;simp only[kz]at he;subst he;dsimp only;rw[hk];exact⟨⟨rfl,rfl,rfl⟩,rfl⟩
   .simp at h
  .simp at h
 .simp at h
theorem YK{rd:G->BS}{t:Ty}{l:Leaf}{v:t.den}{u:Ups}(h:ik rd t l=B (v,u)):UpSh rd u:=by
 unfold ik at h;split at h
 .simp only[jb,jf]at h;rw[<-h.2];intro e he;simp at he
 .exact YJ h
theorem UpSh.app{rd:G->BS}{u v:Ups}(h:UpSh rd u)(h':UpSh rd v):UpSh rd (u++v):=by
 intro e he;rcases jx.1 he with he|he
 .exact h e he
 .exact h' e he
theorem Qa{rd:G->BS}:∀(t:Ty){ls:H Leaf}{v:t.den}{r:H Leaf}{u:Ups},gath rd t ls=B (v,r,u)->UpSh rd u:=by
 intro t;induction t with
 |unit=>intro ls v r u h;simp only[gath,jb,jf]at h;rw[<-h.2.2];intro e he;simp at he
 |wrap a ih=>
  intro ls v r u h;simp only[gath]at h;split at h
  .rename_i hg;simp only[jb,jf]at h;rw[<-h.2.2];exact ih hg
  .simp at h
 |pair a b uP uQ=>
  intro ls v r u h;simp only[gath]at h;split at h
  .rename_i hg;split at h
   .rename_i gh;simp only[jb,jf]at h;rw[<-h.2.2];exact(uP hg).app (uQ gh)
   .simp at h
  .simp at h
 |arr n a ih=>intro ls v r u h;simp[gath]at h
 |_=>
  intro ls v r u h;cases ls with
  |nil=>simp[gath]at h
  |cons l ls=>
   simp only[gath]at h;split at h
   .rename_i hl;simp only[jb,jf]at h;rw[<-h.2.2];exact YK hl
   .simp at h
theorem YL{rd rdf:G->BS}(bc:RdLe rdf rd){n:G}{c:Cel}{l:Leaf}{u:Ups}(h:sH rd rdf n c l=B u):UpSh rd u:=by
 have one:∀(k:G)(b b':Bx),rd k = .live b->ShEq (.live b) (.live b')->UpSh rd [(k,.live b')]:=by intro k b b' hk hs e he;simp only[kz]at he;subst he;exact⟨by rw[hk];exact hs,rfl⟩
 have lift:∀u,UpSh rdf u->UpSh rd u:=by
  intro u hu e he;obtain⟨h1,h2⟩:=hu e he;rcases bc e.1 with hq|hq
  .rw[hq]at h1;exact⟨h1,h2⟩
  .rw[hq]at h1;cases h3:e.2 with
   |free=>rw[h3]at h2;simp[isLive]at h2
   |gone=>rw[h3]at h2;simp[isLive]at h2
   |live b=>rw[h3]at h1;cases b<;>simp[ShEq]at h1
 unfold sH at h;split at h
 .split at h
  .rename_i hk;split at h
   .split at h
    .simp only[jb]at h;subst h;exact one _ _ _ hk trivial
    .simp at h
   .simp at h
  .rename_i hk;split at h
   .split at h
    .split at h
     .split at h
      .simp only[jb]at h;subst h;exact one _ _ _ hk ⟨rfl,rfl⟩
      .simp at h
     .simp at h
    .simp at h
   .simp at h
  .simp at h
 .split at h
  .rename_i hk;split at h
   .split at h
    .split at h
     .rename_i hg;split at h
      .simp at h
      .simp only[jb]at h;subst h;exact(lift _ (Qa _ hg)).app (one _ _ _ hk ⟨rfl,rfl,af⟩)
     .simp at h
    .simp at h
   .simp at h
  .rename_i hk;split at h
   .split at h
    .split at h
     .rename_i hg;split at h
      .simp at h
      .simp only[jb]at h;subst h;exact(lift _ (Qa _ hg)).app (one _ _ _ hk ⟨rfl,rfl⟩)
     .simp at h
    .simp at h
   .simp at h
  .rename_i hk;split at h
   .split at h
    .simp only[jb]at h;subst h;exact one _ _ _ hk ⟨rfl,rfl,rfl⟩
    .simp at h
   .simp at h
  .simp at h
 .simp at h
theorem YM(np:G)(rd:G->BS):RdLe (λk=>if parK np k then .gone else rd k) rd:=by
 intro k;dsimp only;split
 .exact .inr rfl
 .exact .inl rfl
theorem UpSh.le{rd bt:G->BS}(hle:RdLe rd bt){u:Ups}(h:UpSh rd u):UpSh bt u:=by
 intro e he;obtain⟨h1,h2⟩:=h e he;rcases hle e.1 with hq|hq
 .rw[hq]at h1;exact⟨h1,h2⟩
 .rw[hq]at h1;cases h3:e.2 with
  |free=>rw[h3]at h2;simp[isLive]at h2
  |gone=>rw[h3]at h2;simp[isLive]at h2
  |live b=>rw[h3]at h1;cases b<;>simp[ShEq]at h1
theorem YN(rd:G->BS):RdLe (mskM rd) rd:=λk=>Oy k
theorem YO{E:Env}{ev:Ô->Slot}{rd:G->BS}{act:H (G×Æ)}{o:Ä}(ho:ra o=X){chk:Æ}{s:Slot}{u:Ups}(h:dE E ev rd act o=B (.val chk s u)):UpSh rd u:=by
 obtain⟨dst,op,type,pos,after,guard⟩:=o;cases op<;>simp only[ra,kp]at ho;simp only[dE]at h;split at h
 .split at h
  .rename_i hs;simp only[jb,Act.val.injEq]at h;rw[<-h.2.2];exact(YL (YM E.np (mskM rd)) hs).le (YN rd)
  .simp at h
 .simp at h
theorem YP{E:Env}{ev:Ô->Slot}{rd:G->BS}{act:H (G×Æ)}{o:Ä}(ho:ra o=X){f:G}{args:H Arg}{mk:Ret->O (Slot×Ups)}:dE E ev rd act o≠B (.call f args mk):=by
 obtain⟨dst,op,type,pos,after,guard⟩:=o;cases op<;>simp only[ra,kp]at ho;intro h;simp only[dE]at h;split at h
 .split at h
  .simp at h
  .simp at h
 .simp at h
theorem UpSh.unmask{rd:G->BS}{M:H G}{u:Ups}(h:UpSh (hQ M rd) u):UpSh rd u:=by
 intro e he;obtain⟨h1,h2⟩:=h e he;rcases IA M rd e.1 with hq|hq
 .rw[hq]at h1;exact⟨h1,h2⟩
 .rw[hq]at h1;cases h3:e.2 with
  |free=>rw[h3]at h2;simp[isLive]at h2
  |gone=>rw[h3]at h2;simp[isLive]at h2
  |live b=>rw[h3]at h1;cases b<;>simp[ShEq]at h1
end
section
variable{N:NT}{np:G}{S0:aM}{w0:Z}{refs:Refs}{σ:St}{a:À}{w:Z}{S:aM}{γ:G->Y}
inductive Bef(ops:Ã Ä):G->G->Prop
 |dep {i j:G} {o:Ä}:ops[i]? = B o->j∈nd o->Bef ops i j
 |trans {i j k:G}:Bef ops i j->Bef ops j k->Bef ops i k
structure DOkR(ops:Ã Ä)(A:H (H G)):Prop where
 lt:∀i o,ops[i]? = B o->∀j∈nd o,j<i
 addr:∀i o,ops[i]? = B o->ov o=X->∀k,k∉A.getD i []
 dst:∀i j oi oj t,ops[i]? = B oi->ops[j]? = B oj->i≠j->oj.dst=B t->oi.dst≠B t/\(t∈oi.looksAt ops->Bef ops i j\/Bef ops j i)
 box:∀i j oi oj k,ops[i]? = B oi->ops[j]? = B oj->i≠j->k∈A.getD i []->k∈A.getD j []->Bef ops i j\/Bef ops j i
theorem DOkR.bef{ops:Ã Ä}{A:H (H G)}(h:DOkR ops A){i j:G}(hb:Bef ops i j):j<i:=by
 induction hb with
 |dep ho hj=>exact h.lt _ _ ho _ hj
 |trans _ _ h1 h2=>omega
def ClOk(ops:Ã Ä)(cl:H G):Prop:=∀i j,(cl.getD i 0).testBit j=X->Bef ops i j
theorem Qb{ops:Ã Ä}{cls:H G}(hc:ClOk ops cls){i:G}{o:Ä}(ho:ops[i]? = B o):∀(l:H G)(m:G),(∀j∈l,j∈nd o)->(∀j,m.testBit j=X->Bef ops i j)->
  ∀j,(l.foldl (λm j=>m|||(2^j|||cls.getD j 0)) m).testBit j=X->Bef ops i j
 |[],m,_,hm,j,h=>hm j h
 |x::l,m,hl,hm,j,h=>by
  refine Qb hc ho l _ (λj hj=>hl j (by simp[hj])) (λj hj=>?_) j h;simp only[Nat.testBit_or,qk,Nat.testBit_two_pow,jp]at hj;rcases hj with hj|hj|hj
  .exact hm j hj
  .subst hj;exact .dep ho (hl x af)
  .exact .trans (.dep ho (hl x af)) (hc x j hj)
theorem Qc{ops:Ã Ä}:∀(l:H Ä)(cls:H G),ClOk ops cls->(∀k o,l[k]? = B o->ops[cls.length+k]? = B o)->ClOk ops (zK l cls)
 |[],cls,hc,_=>hc
 |o::os,cls,hc,hl=>by
  have ho:ops[cls.length]? = B o:=by have:=hl 0 o rfl;simpa using this
  refine Qc os _ ?_ (λk x hk=>by
   have:=hl (k+1) x (by simpa using hk);rw[jv,List.length_singleton];rwa[show cls.length+1+k=cls.length+(k+1) by omega])
  intro i j eJ;rcases vr i cls.length with hi|hi|hi
  .rw[É,Ë hi,<-É]at eJ;exact hc i j eJ
  .subst hi;rw[É,ki (jz _),Nat.sub_self]at eJ;simp only[List.getElem?_cons_zero,qf]at eJ;exact Qb hc ho (nd o) 0 (λ_ h=>h) (λj h=>by simp at h) j eJ
  .rw[É,zu aN]at eJ;simp at eJ
theorem IF{ops:Ã Ä}{cl:H G}(hc:ClOk ops cl){i j:G}(h:zL cl i j=X):i=j\/Bef ops i j\/Bef ops j i:=by
 simp only[zL,qk,zb]at h;rcases h with (h|h)|h
 .exact .inl h
 .exact .inr (.inl (hc i j h))
 .exact .inr (.inr (hc j i h))
theorem YQ{ops:Ã Ä}{cl:H G}{A:H (H G)}(hc:ClOk ops cl)(bA:Oa ops cl A=X):DOkR ops A:=by
 have hz:∀{i:G}{o:Ä},ops[i]? = B o->(o,i)∈ops.toList.zipIdx:=by intro i o ho;rw[ze];exact⟨i,by rw[æ];simp[ho]⟩
 have Bq:∀i k,k∈A.getD i []->A.isEmpty=false:=by
  intro i k hk;cases A with
  |nil=>simp at hk
  |cons _ _=>rfl
 have ar:∀{i:G}{o:Ä},ops[i]? = B o->(∀j∈nd o,j<i)/\(A.isEmpty || !ov o||(A.getD i []).isEmpty)=X/\∀j oj,ops[j]? = B oj->DK ops cl A i o j oj=true:=by intro i o ho;have:=jr.1 bA (o,i) (hz ho);simp only[jh]at this;exact⟨λj hj=>by simpa using jr.1 this.1.1 j hj,this.1.2,λj oj iW=>jr.1 this.2 (oj,j) (hz iW)⟩
 refine⟨λi o ho=>(ar ho).1,λi o ho kP k hk=>?_,λi j oi oj t hi hj eJ ht=>?_,λi j oi oj k hi hj eJ hk bg=>?_⟩
 .have:=(ar ho).2.1;rw[Bq i k hk,kP]at this;simp only[jl,þ,List.isEmpty_iff]at this;rw[this]at hk;simp at hk
 .have:=(ar hi).2.2 j oj hj;simp only[DK,ht,jh]at this;have h1:=this.1;simp only[qk,zb,eJ,false_or,jh,bne_iff_ne,ne_eq,qb,qe,kg]at h1;refine⟨h1.1,λhm=>?_⟩;rcases h1.2 with h|h
  .exact absurd hm h
  .exact(IF hc h).resolve_left eJ
 .have:=(ar hi).2.2 j oj hj;simp only[DK,jh]at this;have h2:=this.2;rw[Bq i k hk]at h2;simp only[þ,qk]at h2;rcases h2 with h|h
  .exact(IF hc h).resolve_left eJ
  .have:=jr.1 h k hk;simp only[qe,qb,kg]at this;exact absurd bg this
theorem Qd{ops:Ã Ä}{cl:H G}{A:H (H G)}(hc:ClOk ops cl){i:G}{oi:Ä}{k:G}(hm:(rb ops cl A i oi).contains k=U){j:G}{oj:Ä}(hj:ops[j]? = B oj)(hk:k∈A.getD j []) :
  i=j\/Bef ops i j\/Bef ops j i\/(ov oi=X/\ra oj=X):=by
 have hz:(oj,j)∈ops.toList.zipIdx:=by rw[ze];exact⟨j,by rw[æ];simp[hj]⟩
 have br:A.isEmpty=false:=by
  cases A with
  |nil=>simp at hk
  |cons _ _=>rfl
 unfold rb at hm;rw[br]at hm;simp only[kp,z8,qe,kg,List.mem_flatMap,not_exists,not_and]at hm;have:=hm (oj,j) hz;dsimp only at this;split at this
 .rename_i h;simp only[qk,jh]at h;rcases h with h|h
  .rcases IF hc h with h|h|h
   .exact .inl h
   .exact .inr (.inl h)
   .exact .inr (.inr (.inl h))
  .exact .inr (.inr (.inr h))
 .exact absurd hk this
inductive DStep(P:Â)(E:Env)(ops:Ã Ä)(M Ai:H G)(o:Ä)(σ:St):St->Prop
 |skip (s:G) (wn v:Æ):mU ops o=B (s,wn)->σ.sl s = .one (.one (.d .bool v))->v≠wn->DStep P E ops M Ai o σ (σ.setD o.dst .und)
 |skipU (s:G) (wn:Æ):mU ops o=B (s,wn)->σ.sl s = .und->DStep P E ops M Ai o σ (σ.setD o.dst .und)
 |val (s:Slot) (u:Ups):(o.guard=Á\/∃s wn,mU ops o=B (s,wn)/\σ.sl s = .one (.one (.d .bool wn)))->dE E σ.ev (hQ M σ.bx) [] o=B (.val X s u)->(∀e∈u,e.1∈Ai)->
  DStep P E ops M Ai o σ ((σ.upd u).setD o.dst s)
 |call (f:G) (args:H Arg) (mk:Ret->O (Slot×Ups)) (ret:Ret) (s:Slot) (u:Ups):(o.guard=Á\/∃s wn,mU ops o=B (s,wn)/\σ.sl s = .one (.one (.d .bool wn)))->
  dE E σ.ev (hQ M σ.bx) [] o=B (.call f args mk)->Fun P f->D4 P f args (λr=>r=ret)->mk ret=B (s,u)->(∀e∈u,e.1∈Ai)->DStep P E ops M Ai o σ ((σ.upd u).setD o.dst s)
theorem Qe{s:G}{x:Slot}(h:σ.sl s=x):σ.setS s x=σ:=by
 unfold St.setS
 have:(λj=>if j=s then x else σ.sl j)=σ.sl:=by
  funext j
  split
  .rename_i hj;subst hj;exact h.symm
  .rfl
 rw[this]
theorem Qf{u:Ups}{Ai:H G}(h:(u.all λe=>Ai.contains e.1)=X):∀e∈u,e.1∈Ai:=λe he=>by simpa using jr.1 h e he
theorem IG{P:Â}{E:Env}(hC:iQ P E.C)(hF:CFun E.C){ops:Ã Ä}{M Ai:H G}{o:Ä}{R:Type}{k:St->O R}{r:R}
  (hg:o.guard=Á\/∃s wn,mU ops o=B (s,wn)/\σ.sl s = .one (.one (.d .bool wn)))(h:runD E M Ai σ o k=B r):∃σ',DStep P E ops M Ai o σ σ'/\k σ'=B r:=by
 unfold runD at h
 replace h:=N9 h
 split at h
 .simp at h
 .rename_i chk s u ho;split at h
  .rename_i hb;cases chk with
   |false=>simp at h
   |true=>exact⟨_,.val s u hg ho (Qf hb),h⟩
  .simp at h
 .rename_i f args mk ho;obtain⟨x,hx⟩:=hF f args;rw[hx]at h;cases x with
  |none=>simp at h
  |some ret=>
   simp only[ja]at h;obtain⟨hf,dB⟩:=hC f args Ret B ret (by rw[hx];rfl);split at h
   .rename_i s u bk;split at h
    .rename_i hb
     exact⟨_,.call f args mk ret s u hg ho hf (by
      intro w S vals ha hn hS;refine(dB w S vals ha hn hS).mono ?_
      rintro e w' ⟨r',rv,rest⟩
      exact⟨r',by simpa using rv,rest⟩) bk (Qf hb),h⟩
    .simp at h
   .simp at h
theorem YR{P:Â}{E:Env}(hC:iQ P E.C)(hF:CFun E.C){ops:Ã Ä}{M Ai:H G}{o:Ä}{R:Type}{k:St->O R}{r:R}
  (h:zM E ops M Ai σ o k=B r):∃σ',DStep P E ops M Ai o σ σ'/\k σ'=B r:=by
 unfold zM at h;split at h
 .rename_i hg;exact IG hC hF (.inl hg) h
 .split at h
  .rename_i s wn hg;split at h
   .rename_i v hv;cases v with
    |true=>
     rw[jc,Qe hv]at h;cases wn with
     |true=>exact IG hC hF (.inr ⟨s,X,hg,hv⟩) h
     |false=>exact⟨_,.skip s U X hg hv af,h⟩
    |false=>
     rw[jd,Qe hv]at h;cases wn with
     |false=>exact IG hC hF (.inr ⟨s,U,hg,hv⟩) h
     |true=>exact⟨_,.skip s X U hg hv af,h⟩
   .rename_i hv;exact⟨_,.skipU s wn hg hv,h⟩
   .simp at h
  .simp at h
theorem Qg{P:Â}{E:Env}(hC:iQ P E.C)(hF:CFun E.C){ops:Ã Ä}{cl:H G}{A:H (H G)}{R:Type}{k:St->O R}{r:R}:∀(n i:G)(σ:St),i+n=ops.size->xu E ops cl A (ops.toList.drop i) i σ k=B r->
  ∃τ:G->St,τ i=σ/\k (τ ops.size)=B r/\∀j o,i<=j->ops[j]? = B o->jX E.N o=X/\DStep P E ops (rb ops cl A j o) (A.getD j []) o (τ j) (τ (j+1))
 |0,i,σ,hi,h=>by
  rw[jk aN]at h;refine⟨λ_=>σ,rfl,h,λj o hj ho=>?_⟩;have:=(jn.1 ho).1;omega
 |n+1,i,σ,hi,h=>by
  have ay:i<ops.size:=aa;rw[jj (by simpa using ay)]at h;simp only[xu]at h;split at h
  .rename_i hd;obtain⟨σ1,hs,hk⟩:=YR (P:=P) hC hF h;obtain⟨τ1,h1,h2,h3⟩:=Qg hC hF n (i+1) σ1 aa hk;refine⟨λj=>if j=i then σ else τ1 j,af,?_,λj o hj ho=>?_⟩
   .simp only[show ops.size≠i by omega,z8];exact h2
   .by_cases oa:j=i
    .subst oa;have vZ:ops[j]? = B ops[j]:=jy ay;rw[vZ]at ho;simp only[jb]at ho;subst ho;refine⟨by simpa using hd,?_⟩;simp only[if_true,show j+1≠j by omega,z8,h1];simpa using hs
    .simp only[oa,z8,show j+1≠i by omega];exact h3 j o aa ho
  .simp at h
theorem Rel.drawn(hR:Rel N np S0 w0 refs σ a w S γ)(n:G):Rel N np S0 w0 refs σ a { w with drawn:=n } S γ:=
 Rel.step (bx':=σ.bx) (γ':=γ) hR (λ_ _ h=>⟨h,rfl⟩) (.refl _ _) (λk b hb=>dQ.keep (w:=w) (w':={ w with drawn:=n }) (λ_ _ h=>⟨h,rfl⟩) (.refl _ _) rfl (λ_ _=>⟨rfl,λ_=>Iff.rfl⟩) (hR.box k b hb))
  hR.own hR.apart hR.new hR.here hR.below hR.grow hR.os hR.tape hR.output (λ_ _ _ h=>⟨rfl,h⟩)
theorem D_wp{P:Â}{E:Env}(hT:ca P E.T)(hR:Rel E.N E.np S0 w0 refs σ a w S γ)(hc:cM σ){ops:Ã Ä}{M Ai:H G}{i:G}{o:Ä}(ho:ops[i]? = B o)(hd:jX E.N o=X)
  {τ τ':St}(hs:DStep P E ops M Ai o τ τ')(eu:(∀k,hQ M σ.bx k=hQ M τ.bx k)\/(ov o=X/\∀k,ShEq (hQ M σ.bx k) (hQ M τ.bx k)))(pk:∀t,t∈o.looksAt ops->σ.sl t=τ.sl t){K:À->Z->Prop}{Q:Ñ->À->Z->Prop}
  (hK:∀(s:Slot)(u:Ups)(a':À)(w':Z)(S':aM)(γ':G->Y),τ'=(τ.upd u).setD o.dst s->(∀e∈u,e.1∈Ai)->Rel E.N E.np S0 w0 refs ((σ.upd u).setD o.dst s) a' w' S' γ'->cM ((σ.upd u).setD o.dst s)->K a' w') :
  wpOp P ops Q i K a w:=by
 have rB:=vU hd
 have lC:∀x∈o.op.operands,σ.ev x=τ.ev x:=by
  intro x hx;cases x with
  |tmp t=>exact pk t (kj _ (zt.2 ⟨.tmp t,by simpa using hx,rfl⟩))
  |_=>rfl
 have uW:∀s wn,mU ops o=B (s,wn)->s∈o.looksAt ops:=by
  intro s wn hg;refine kq _ ?_;unfold mU at hg;split at hg
  .simp at hg
  .rename_i j w' Io;split at hg
   .rename_i oj iW;split at hg
    .rename_i s' eU;simp only[jb,jf]at hg;simp[Io,iW,eU,hg.1]
    .simp at hg
   .simp at hg
 have wa:∀s v,mU ops o≠Á->s∈o.looksAt ops->τ.sl s = .one (.one (.d .bool v))->tm a s = .bool v:=by intro s v _ hm hv;have:=hR.slot s;rw[pk s hm,hv]at this;exact qA this
 have aS:dE E σ.ev (hQ M σ.bx) [] o=dE E τ.ev (hQ M τ.bx) [] o:=by
  rcases eu with eu|⟨kP,eu⟩
  .rw[show hQ M σ.bx=hQ M τ.bx from funext eu];exact P8 lC
  .rw[YI kP eu];exact P8 lC
 have eL:∀(s:Slot)(u:Ups)(v:Y)(w':Z)(S':aM)(γ':G->Y),τ'=(τ.upd u).setD o.dst s->(∀e∈u,e.1∈Ai)->Rel E.N E.np S0 w0 refs (σ.upd u) a w' S' γ'->
   gA S' w' γ' (σ.upd u).bx (tm a) s v->s.bare=X->K (a.put o.dst v) w':=by
  intro s u v w' S' γ' he hb ct eU cP;obtain⟨h1,h2⟩:=Bg ct (PM hc) rB eU cP;exact hK s u _ w' S' γ' he hb h1 h2
 have tP:(o.guard=Á\/∃s wn,mU ops o=B (s,wn)/\τ.sl s = .one (.one (.d .bool wn)))->Å o (yielded ops a.tmps)=true:=by
  rintro (hg|⟨s,wn,hg,hv⟩)
  .simp[Å,hg]
  .exact(Ef hg).2 (wa s wn (by rw[hg];simp) (uW s wn hg) hv)
 unfold wpOp;simp only[ho];cases hs with
 |skip s wn v hg hv br=>
  have hw:¬Å o (yielded ops a.tmps)=true:=λhw=>by
   have h1:=(Ef hg).1 hw;rw[wa s v (by rw[hg];simp) (uW s wn hg) hv]at h1;exact br (by simpa using h1)
  simp only[hw,z8,kp];exact eL .und [] undef w S γ rfl af hR rfl rfl
 |skipU s wn hg hv=>
  have hu:tm a s=undef:=by have:=hR.slot s;rw[pk s (uW s wn hg),hv]at this;exact this
  have hw:¬Å o (yielded ops a.tmps)=true:=λhw=>by
   have h1:=(Ef hg).1 hw;rw[hu]at h1;simp[undef]at h1
  simp only[hw,z8,kp];exact eL .und [] undef w S γ rfl af hR rfl rfl
 |val s u hg bK hb=>
  simp only[tP hg,if_true];rw[<-aS]at bK;obtain⟨A',wb,hle⟩:=P7 (IA M σ.bx) bK;cases hle;obtain⟨⟨v,w',S',γ',aE,ct,eU⟩,cP⟩:=Ig hT hR (act:=[]) (λg hg=>by simp at hg) (λ_=> .inl rfl) wb;refine .inl ?_;unfold Ó;rcases aE with aE|⟨aE,rfl⟩
  .rw[aE,Õ];exact eL s u v w' S' γ' rfl hb ct eU cP
  .rw[aE,â];exact eL s u undef w' S' γ' rfl hb ct eU cP
 |call f args mk ret s u hg bK hf dB bk hb=>
  simp only[tP hg,if_true];rw[<-aS]at bK;obtain⟨A',wb,hle⟩:=P7 (IA M σ.bx) bK;cases hle with
  |call _ _ _ mk' tQ=>
   have Br:=tQ _ _ bk;obtain⟨vals,aE,ma,cP⟩:=PJ hR (act:=[]) (λg hg=>by simp at hg) (λ_=> .inl rfl) wb hf dB;refine .inl ?_;unfold Ó;rw[aE,Í];refine ma.mono ?_
   rintro e w' ⟨YS,rfl,ar⟩
   obtain⟨v,S',γ',rfl,ct,eU⟩:=ar s u Br;exact eL s u v w' S' γ' rfl hb ct eU (cP _ s u Br)
end
section
variable{S0:aM}{w0:Z}{refs:Refs}{σ:St}{a:À}{w:Z}{S:aM}{γ:G->Y}
theorem IH{o:Ä}{j:G}:j∈nd o↔∃e∈o.after,Region.binds .any e=X/\e.on=j:=by
 simp only[nd,zt];constructor
 .rintro⟨e,he,h⟩
  split at h
  .rename_i hb;simp only[jb]at h;exact⟨e,by simpa using he,hb,h⟩
  .simp at h
 .rintro⟨e,he,hb,h⟩
  exact⟨e,by simpa using he,by simp[hb,h]⟩
theorem YT{ops:Ã Ä}{ax:Ã Æ}{i:G}(h:i∈í .any ops ax) :
  ax.getD i X=U/\∃o,ops[i]? = B o/\∀j∈nd o,ax.getD j U=true:=by
 obtain⟨h0,o,ho,h1⟩:=mem_ready.1 h;exact⟨h0,o,ho,λj hj=>by obtain⟨e,he,hb,rfl⟩:=IH.1 hj;exact h1 e he hb⟩
def rR(P:Â)(E:Env)(ops:Ã Ä)(cl:H G)(A:H (H G))(τ:G->St):Prop:=
 ∀j o,ops[j]? = B o->jX E.N o=X/\DStep P E ops (rb ops cl A j o) (A.getD j []) o (τ j) (τ (j+1))
theorem Ek:∀(u:Ups)(σ:St)(t:G),(σ.upd u).sl t=σ.sl t
 |[],_,_=>rfl
 |e::u,σ,t=>Ek u (σ.setB e.1 e.2) t
theorem wc(σ:St)(d:O G)(s:Slot):(σ.setD d s).bx=σ.bx:=by cases d<;>rfl
theorem II{σ:St}{d:O G}{s:Slot}{t:G}(h:d≠B t):(σ.setD d s).sl t=σ.sl t:=by
 cases d with
 |none=>rfl
 |some d=>have:t≠d:=λe=>h (by rw[e]);simp[St.setD,St.setS,this]
theorem Qh{σ:St}{s:Slot}{t:G}:(σ.setD (B t) s).sl t=s:=by simp[St.setD,St.setS]
theorem El:∀(u:Ups)(σ:St)(k:G),(∀e∈u,e.1≠k)->(σ.upd u).bx k=σ.bx k
 |[],_,_,_=>rfl
 |e::u,σ,k,h=>by
  have h1:=El u (σ.setB e.1 e.2) k (λx hx=>h x (by simp[hx]));show ((σ.setB e.1 e.2).upd u).bx k=_;rw[h1];have:=h e af;have br:¬k=e.1:=λhk=>this hk.symm;simp[St.setB,br]
theorem Qi:∀(u:Ups)(σ τ:St)(k:G),σ.bx k=τ.bx k->(σ.upd u).bx k=(τ.upd u).bx k
 |[],_,_,_,h=>h
 |e::u,σ,τ,k,h=>by
  refine Qi u (σ.setB e.1 e.2) (τ.setB e.1 e.2) k ?_;simp only[St.setB];split
  .rfl
  .exact h
section
variable{P:Â}{E:Env}{ops:Ã Ä}{cl:H G}{A:H (H G)}{τ:G->St}
theorem IJ(h:rR P E ops cl A τ){j:G}{o:Ä}(ho:ops[j]? = B o):∃s u,τ (j+1)=((τ j).upd u).setD o.dst s/\(∀e∈u,e.1∈A.getD j [])/\(ra o=X->∀k,ShEq ((τ j).bx k) ((τ (j+1)).bx k)):=by
 obtain⟨_,hs⟩:=h j o ho;generalize hq:τ (j+1)=σ' at hs;cases hs with
 |skip s wn v hg hv br=>exact⟨.und,[],rfl,af,λ_ k=>by rw[wc];exact ShEq.refl _⟩
 |skipU s wn hg hv=>exact⟨.und,[],rfl,af,λ_ k=>by rw[wc];exact ShEq.refl _⟩
 |val s u hg bK hb=>exact⟨s,u,rfl,hb,λaL k=>by
  rw[wc];exact P9 u (τ j) (λe he=>((YO aL bK).unmask e he).1) k⟩
 |call f args mk ret s u hg bK hf dB bk hb=>exact⟨s,u,rfl,hb,λaL=>absurd bK (YP aL)⟩
theorem YU(h:rR P E ops cl A τ){j:G}{o:Ä}(ho:ops[j]? = B o){t:G}(ht:o.dst≠B t):(τ (j+1)).sl t=(τ j).sl t:=by
 obtain⟨s,u,he,_⟩:=IJ h ho;rw[he,II ht,Ek]
theorem Qj(h:rR P E ops cl A τ){j:G}{o:Ä}(ho:ops[j]? = B o){k:G}(hk:k∉A.getD j []):(τ (j+1)).bx k=(τ j).bx k:=by
 obtain⟨s,u,he,hu,_⟩:=IJ h ho;rw[he,wc];exact El u _ k (λe hm qH=>hk (qH▸hu e hm))
theorem Bs(h:rR P E ops cl A τ){t j:G}:∀n,j+n<=ops.size->(∀k o,j<=k->k<j+n->ops[k]? = B o->o.dst≠B t)->(τ (j+n)).sl t=(τ j).sl t
 |0,_,_=>rfl
 |n+1,hn,hk=>by
  have ay:j+n<ops.size:=aa;have ho:ops[j+n]? = B ops[j+n]:=jy ay;rw[<-ë,YU h ho (hk _ _ aa aa ho)];exact Bs h n aa (λk o h1 h2=>hk k o h1 aa)
theorem Bt(h:rR P E ops cl A τ){k j:G}:∀n,j+n<=ops.size->(∀i o,j<=i->i<j+n->ops[i]? = B o->k∉A.getD i [])->(τ (j+n)).bx k=(τ j).bx k
 |0,_,_=>rfl
 |n+1,hn,hk=>by
  have ay:j+n<ops.size:=aa;have ho:ops[j+n]? = B ops[j+n]:=jy ay;rw[<-ë,Qj h ho (hk _ _ aa aa ho)];exact Bt h n aa (λi o h1 h2=>hk i o h1 aa)
theorem Em(h:rR P E ops cl A τ){k j:G}:∀n,j+n<=ops.size->(∀i o,j<=i->i<j+n->ops[i]? = B o->k∈A.getD i []->ra o=X)->ShEq ((τ j).bx k) ((τ (j+n)).bx k)
 |0,_,_=>ShEq.refl _
 |n+1,hn,hk=>by
  have ay:j+n<ops.size:=aa;have ho:ops[j+n]? = B ops[j+n]:=jy ay;have ih:=Em h n aa (λi o h1 h2=>hk i o h1 aa);refine ih.trans ?_;rw[<-ë];by_cases hm:k∈A.getD (j+n) []
  .obtain⟨_,_,_,_,aL⟩:=IJ h ho;exact aL (hk _ _ aa aa ho hm) k
  .rw[Qj h ho hm];exact ShEq.refl _
structure Ph(ops:Ã Ä)(A:H (H G))(τ:G->St)(ax:Ã Æ)(σ:St):Prop where
 closed:∀j o,ops[j]? = B o->ax.getD j U=X->∀d∈nd o,ax.getD d U=X
 done:∀j o t,ops[j]? = B o->o.dst=B t->ax.getD j U=X->σ.sl t=(τ (j+1)).sl t
 rest:∀t,(∀j o,ops[j]? = B o->o.dst=B t->ax.getD j U=U)->σ.sl t=(τ 0).sl t
 bdone:∀j k,j<ops.size->k∈A.getD j []->ax.getD j U=X->(∀i,i<ops.size->k∈A.getD i []->ax.getD i U=X->i<=j)->σ.bx k=(τ (j+1)).bx k
 brest:∀k,(∀j,j<ops.size->k∈A.getD j []->ax.getD j U=U)->σ.bx k=(τ 0).bx k
theorem Ph.bef{ax:Ã Æ}(hp:Ph ops A τ ax σ){i j:G}(hb:Bef ops i j)(hi:ax.getD i U=X):ax.getD j U=true:=by
 induction hb with
 |dep ho hj=>exact hp.closed _ _ ho hi _ hj
 |trans _ _ h1 h2=>exact h2 (h1 hi)
theorem Ph.befd{ax:Ã Æ}(hp:Ph ops A τ ax σ){i j:G}{o:Ä}(ho:ops[i]? = B o)(hd:∀j∈nd o,ax.getD j U=X)(hb:Bef ops i j):ax.getD j U=true:=by
 induction hb with
 |dep vZ hj=>rw[ho]at vZ;simp only[jb]at vZ;subst vZ;exact hd _ hj
 |trans dg dM h1 h2=>exact hp.bef dM (h1 ho)
theorem En(p:G->Prop):∀n,(∃j,j<n/\p j)->∃m,m<n/\p m/\∀j,j<n->p j->j<=m
 |0,h=>by obtain⟨j,hj,_⟩:=h;omega
 |n+1,h=>by
  by_cases hn:p n
  .exact⟨n,aa,hn,λj hj _=>aa⟩
  .obtain⟨j,hj,hp⟩:=h
   have tw:j<n:=by
    rcases qr j n with h|h
    .exact h
    .have:j=n:=aa;subst this;exact absurd hp hn
   obtain⟨m,hm,YV,ar⟩:=En p n ⟨j,tw,hp⟩;refine⟨m,aa,YV,λi hi Qk=>?_⟩;rcases qr i n with h|h
   .exact ar i h Qk
   .have:i=n:=aa;subst this;exact absurd Qk hn
theorem Ql{l:Ã Æ}{i:G}(h:l.getD i X=U):l.getD i U=false:=by
 rcases qr i l.size with h'|h'
 .simp[h']at h ⊢;exact h
 .simp[Ý h']
theorem po{l:Ã Æ}{i j:G}(hi:i<l.size):(l.setIfInBounds i X).getD j U=X↔j=i\/l.getD j U=true:=by
 by_cases h:i=j
 .subst h;simp[hi]
 .rw[getD_set_ne U h];exact⟨.inr,λhh=>hh.resolve_left λe=>h e.symm⟩
theorem Bu{l:Ã Æ}{i:G}(h:¬l.getD i U=X):l.getD i U=false:=by
 cases hq:l.getD i U with
 |false=>rfl
 |true=>exact absurd hq h
section
variable(bA:DOkR ops A)(h:rR P E ops cl A τ){ax:Ã Æ}(hp:Ph ops A τ ax σ){i:G}{o:Ä}(hi:ops[i]? = B o)(ix:ax.getD i U=U)(dJ:∀j∈nd o,ax.getD j U=X)
include bA h hp hi ix dJ
theorem YW:∀t,t∈o.looksAt ops->σ.sl t=(τ i).sl t:=by
 intro t Aw;have jF:i<ops.size:=(jn.1 hi).1;have Eo:∀j oj,ops[j]? = B oj->oj.dst=B t->j≠i->Bef ops i j\/Bef ops j i:=λj oj hj ht br=>(bA.dst i j o oj t hi hj (λe=>br e.symm) ht).2 Aw;by_cases hex:∃(j:G)(oj:Ä),ops[j]? = B oj/\oj.dst=B t/\ax.getD j U=X
 .obtain⟨j,oj,hj,ht,mL⟩:=hex;have oa:j≠i:=λe=>by rw[e,ix]at mL;simp at mL
  have we:Bef ops i j:=by
   rcases Eo j oj hj ht oa with hd|hd
   .exact hd
   .have:=hp.bef hd mL;rw[ix]at this;simp at this
  have ay:=bA.bef we;rw[hp.done j oj t hj ht mL];have:=Bs h (t:=t) (j:=j+1) (i-(j+1)) aa (λk ok h1 h2 hk=>(bA.dst k j ok oj t hk hj aa ht).1);rw[show j+1+(i-(j+1))=i by omega]at this;exact this.symm
 .rw[hp.rest t (λj oj hj ht=>Bu λhq=>hex ⟨j,oj,hj,ht,hq⟩)]
  have:=Bs h (t:=t) (j:=0) i aa (λk ok _ hk ny qE=>by
   have qK:k≠i:=aa;rcases Eo k ok ny qE qK with hd|hd
   .exact hex ⟨k,ok,ny,qE,hp.befd hi dJ hd⟩
   .have:=bA.bef hd;omega)
  rw[ke]at this;exact this.symm
theorem Qm{k:G}(hk:∀j oj,ops[j]? = B oj->k∈A.getD j []->i=j\/Bef ops i j\/Bef ops j i):σ.bx k=(τ i).bx k:=by
 have jF:i<ops.size:=(jn.1 hi).1;by_cases hex:∃j,j<ops.size/\(k∈A.getD j []/\ax.getD j U=X)
 .obtain⟨m,hm,⟨qL,nA⟩,ei⟩:=En _ _ hex;have IK:ops[m]? = B ops[m]:=jy hm;have IL:i≠m:=λe=>by rw[<-e,ix]at nA;simp at nA
  have we:Bef ops i m:=by
   rcases hk m _ IK qL with hd|hd|hd
   .exact absurd hd IL
   .exact hd
   .have:=hp.bef hd nA;rw[ix]at this;simp at this
  have ay:=bA.bef we;rw[hp.bdone m k hm qL nA (λj hj dO mL=>ei j hj ⟨dO,mL⟩)]
  have:=Bt h (k:=k) (j:=m+1) (i-(m+1)) aa (λj oj h1 h2 hj dO=>by
   rcases hk j oj hj dO with hd|hd|hd
   .omega
   .have:=ei j aa ⟨dO,hp.befd hi dJ hd⟩;omega
   .have:=bA.bef hd;omega)
  rw[show m+1+(i-(m+1))=i by omega]at this;exact this.symm
 .rw[hp.brest k (λj hj dO=>Bu λhq=>hex ⟨j,hj,dO,hq⟩)]
  have:=Bt h (k:=k) (j:=0) i aa (λj oj h1 h2 hj dO=>by
   rcases hk j oj hj dO with hd|hd|hd
   .omega
   .exact hex ⟨j,aa,dO,hp.befd hi dJ hd⟩
   .have:=bA.bef hd;omega)
  rw[ke]at this;exact this.symm
theorem YX(kP:ov o=X){k:G}(hk:∀j oj,ops[j]? = B oj->k∈A.getD j []->i=j\/Bef ops i j\/Bef ops j i\/ra oj=X):ShEq (σ.bx k) ((τ i).bx k):=by
 have jF:i<ops.size:=(jn.1 hi).1;by_cases hex:∃j,j<ops.size/\(k∈A.getD j []/\ax.getD j U=X)
 .obtain⟨m,hm,⟨qL,nA⟩,ei⟩:=En _ _ hex;have IK:ops[m]? = B ops[m]:=jy hm;rw[hp.bdone m k hm qL nA (λj hj dO mL=>ei j hj ⟨dO,mL⟩)];rcases qr m i with IL|IL
  .have:=Em h (k:=k) (j:=m+1) (i-(m+1)) aa (λj oj h1 h2 hj dO=>by
    rcases hk j oj hj dO with hd|hd|hd|hd
    .omega
    .have:=ei j aa ⟨dO,hp.befd hi dJ hd⟩;omega
    .have:=bA.bef hd;omega
    .exact hd)
   rwa[show m+1+(i-(m+1))=i by omega]at this
  .have YY:i≠m:=λe=>by rw[<-e,ix]at nA;simp at nA
   have:=Em h (k:=k) (j:=i) (m+1-i) aa (λj oj h1 h2 hj dO=>by
    have mL:ax.getD j U=true:=by
     by_cases tR:j=m
     .rw[tR];exact nA
     .rcases bA.box j m oj ops[m] k hj IK tR dO qL with hd|hd
      .have:=bA.bef hd;omega
      .exact hp.bef hd nA
    rcases hk j oj hj dO with hd|hd|hd|hd
    .rw[<-hd,ix]at mL;simp at mL
    .have:=bA.bef hd;omega
    .have:=hp.bef hd mL;rw[ix]at this;simp at this
    .exact hd)
   rw[show i+(m+1-i)=m+1 by omega]at this;exact this.symm
 .rw[hp.brest k (λj hj dO=>Bu λhq=>hex ⟨j,hj,dO,hq⟩)]
  have:=Em h (k:=k) (j:=0) i aa (λj oj h1 h2 hj dO=>by
   rcases hk j oj hj dO with hd|hd|hd|hd
   .omega
   .exact absurd ⟨j,aa,dO,hp.befd hi dJ hd⟩ hex
   .have:=bA.bef hd;omega
   .exact hd)
  rwa[ke]at this
theorem YZ(hc:ClOk ops cl):(∀k,hQ (rb ops cl A i o) σ.bx k=hQ (rb ops cl A i o) (τ i).bx k)\/(ov o=X/\∀k,ShEq (hQ (rb ops cl A i o) σ.bx k) (hQ (rb ops cl A i o) (τ i).bx k)):=by
 by_cases kP:ov o=X
 .refine .inr ⟨kP,ShEq.mask λk hk=>YX bA h hp hi ix dJ kP λj oj hj dO=>?_⟩;rcases Qd hc hk hj dO with hd|hd|hd|hd
  .exact .inl hd
  .exact .inr (.inl hd)
  .exact .inr (.inr (.inl hd))
  .exact .inr (.inr (.inr hd.2))
 .refine .inl λk=>?_;unfold hQ;split
  .rfl
  .rename_i hk
   exact Qm bA h hp hi ix dJ λj oj hj dO=>by
    rcases Qd hc (by simpa using hk) hj dO with hd|hd|hd|hd
    .exact .inl hd
    .exact .inr (.inl hd)
    .exact .inr (.inr hd)
    .exact absurd hd.1 kP
theorem Y0(bW:ops.size<=ax.size){s:Slot}{u:Ups}(he:τ (i+1)=((τ i).upd u).setD o.dst s)(hu:∀e∈u,e.1∈A.getD i []):Ph ops A τ (ax.setIfInBounds i X) ((σ.upd u).setD o.dst s):=by
 have jF:i<ops.size:=(jn.1 hi).1;have fD:i<ax.size:=aa
 have kO:∀k,k∈A.getD i []->σ.bx k=(τ i).bx k:=λk hk=>Qm bA h hp hi ix dJ λj oj hj dO=>by
  by_cases eJ:i=j
  .exact .inl eJ
  .exact .inr (bA.box i j o oj k hi hj eJ hk dO)
 refine⟨?_,?_,?_,?_,?_⟩
 .intro j oj iW hj d nh;rcases (po fD).1 hj with rfl|hj
  .rw[hi]at iW;simp only[jb]at iW;subst iW;exact(po fD).2 (.inr (dJ d nh))
  .exact(po fD).2 (.inr (hp.closed j oj iW hj d nh))
 .intro j oj t iW ht hj;by_cases oa:j=i
  .subst oa;rw[hi]at iW;simp only[jb]at iW;subst iW;rw[he,ht,Qh,Qh]
  .rcases (po fD).1 hj with hj|hj
   .exact absurd hj oa
   .rw[II (bA.dst i j o oj t hi iW (λe=>oa e.symm) ht).1,Ek];exact hp.done j oj t iW ht hj
 .intro t ar
  have Y1:o.dst≠B t:=λe=>by
   have:=ar i o hi e;have h2:=(po (j:=i) fD).2 (.inl rfl);rw[this]at h2;simp at h2
  rw[II Y1,Ek]
  exact hp.rest t λj oj iW ht=>Bu λhq=>by
   have:=ar j oj iW ht;have h2:=(po (i:=i) fD).2 (.inr hq);rw[this]at h2;simp at h2
 .intro j k hj dO mL ei;rw[wc];by_cases oa:j=i
  .subst oa;rw[he,wc];exact Qi u σ (τ j) k (kO k dO)
  .have Bv:ax.getD j U=true:=by
    rcases (po fD).1 mL with e|hh
    .exact absurd e oa
    .exact hh
   have qK:k∉A.getD i []:=λqK=>by
    have hle:=ei i jF qK ((po fD).2 (.inl rfl));have iW:ops[j]? = B ops[j]:=jy hj;rcases bA.box i j o _ k hi iW (λe=>oa e.symm) qK dO with hd|hd
    .have:=bA.bef hd;omega
    .have:=hp.bef hd Bv;rw[ix]at this;simp at this
   rw[El u σ k (λe hm qH=>qK (qH▸hu e hm))];exact hp.bdone j k hj dO Bv (λi' cH bg lZ=>ei i' cH bg ((po fD).2 (.inr lZ)))
 .intro k ar
  have qK:k∉A.getD i []:=λqK=>by
   have:=ar i jF qK;have h2:=(po (j:=i) fD).2 (.inl rfl);rw[this]at h2;simp at h2
  rw[wc,El u σ k (λe hm qH=>qK (qH▸hu e hm))]
  exact hp.brest k λj hj dO=>Bu λhq=>by
   have:=ar j hj dO;have h2:=(po (i:=i) fD).2 (.inr hq);rw[this]at h2;simp at h2
end
theorem Y2(bA:DOkR ops A)(h:rR P E ops cl A τ){ax:Ã Æ}(hp:Ph ops A τ ax σ)(ar:∀j,j<ops.size->ax.getD j U=X):σ=τ ops.size:=by
 have eh:σ.sl=(τ ops.size).sl:=by
  funext t
  by_cases hex:∃(j:G)(oj:Ä),ops[j]? = B oj/\oj.dst=B t
  .obtain⟨j,oj,hj,ht⟩:=hex;have ay:j<ops.size:=(jn.1 hj).1;rw[hp.done j oj t hj ht (ar j ay)];have:=Bs h (t:=t) (j:=j+1) (ops.size-(j+1)) aa (λk ok h1 h2 hk=>(bA.dst k j ok oj t hk hj aa ht).1);rw[show j+1+(ops.size-(j+1))=ops.size by omega]at this;exact this.symm
  .rw[hp.rest t (λj oj hj ht=>absurd ⟨j,oj,hj,ht⟩ hex)];have:=Bs h (t:=t) (j:=0) ops.size aa (λk ok _ hk ny qE=>hex ⟨k,ok,ny,qE⟩);rw[ke]at this;exact this.symm
 have eu:σ.bx=(τ ops.size).bx:=by
  funext k
  by_cases hex:∃j,j<ops.size/\k∈A.getD j []
  .obtain⟨m,hm,qL,ei⟩:=En _ _ hex;rw[hp.bdone m k hm qL (ar m hm) (λj hj dO _=>ei j hj dO)];have:=Bt h (k:=k) (j:=m+1) (ops.size-(m+1)) aa (λj oj h1 h2 hj dO=>by have:=ei j aa dO;omega);rw[show m+1+(ops.size-(m+1))=ops.size by omega]at this;exact this.symm
  .rw[hp.brest k (λj hj dO=>absurd ⟨j,hj,dO⟩ hex)];have:=Bt h (k:=k) (j:=0) ops.size aa (λj oj h1 h2 hj dO=>hex ⟨j,aa,dO⟩);rw[ke]at this;exact this.symm
 cases σ;cases hq:τ ops.size;rw[hq]at eu eh;simp only at eu eh;rw[eu,eh]
end
theorem Y3{l:Ã Æ}{i:G}(hi:l.getD i X=U):(l.setIfInBounds i X).toList.count U+1=l.toList.count false:=by
 have ay:i<l.size:=by
  rcases qr i l.size with h|h
  .exact h
  .simp[Ý h]at hi
 have hv:l.toList[i]'(by simpa using ay)=false:=by simp[ay]at hi;simpa using hi
 have cI:0<l.toList.count false:=List.count_pos_iff.2 (hv▸jq _);have hc:(l.toList.set i X).count U=l.toList.count U-(if l.toList[i]'(by simpa using ay)==U then 1 else 0)+(if X==U then 1 else 0):=List.count_set (by simpa using ay);rw[hv]at hc;rw[Array.toList_setIfInBounds];simp only[kv,if_true,show (X==U)=U from rfl,kp,z8,Nat.add_zero]at hc;omega
theorem Y4{l:Ã Æ}(h:l.toList.count U=0){j:G}(hj:j<l.size):l.getD j U=true:=by
 have h0:U∉l.toList:=List.count_eq_zero.1 h;simp only[za,jy hj,qf];cases hv:l[j]with
 |true=>rfl
 |false=>exact absurd (hv▸by simp:U∈l.toList) h0
theorem Y5{ops:Ã Ä}{A:H (H G)}(bA:DOkR ops A){ax:Ã Æ}(hs:ax.size=ops.size)(h:í .any ops ax=[]):∀j,j<ops.size->ax.getD j U=true:=by
 intro j;induction j using ø with
 |_ j ih=>
  intro hj;cases hq:ax.getD j U with
  |true=>rfl
  |false=>
   have ho:ops[j]? = B ops[j]:=jy hj
   have hm:j∈í .any ops ax:=mem_ready.2 ⟨by
    have mG:j<ax.size:=aa;simp[mG]at hq ⊢;exact hq,ops[j],ho,λe he hb=>ih _ (bA.lt j _ ho _ (IH.2 ⟨e,he,hb,rfl⟩)) (Nat.lt_trans (bA.lt j _ ho _ (IH.2 ⟨e,he,hb,rfl⟩)) hj)⟩
   rw[h]at hm;simp at hm
theorem Y6{P:Â}{E:Env}(hT:ca P E.T){ops:Ã Ä}{cl:H G}{A:H (H G)}(dq:ClOk ops cl)(bA:DOkR ops A){τ:G->St}(h:rR P E ops cl A τ)
  {Q:Ñ->À->Z->Prop}(hn:∀a' w' S' γ',Rel E.N E.np S0 w0 refs (τ ops.size) a' w' S' γ'->cM (τ ops.size)->Q .normal a' w') :
  ∀(fuel:G)(ax:Ã Æ){σ:St}{a:À}{w:Z}{S:aM}{γ:G->Y},ax.size=ops.size->ax.toList.count U<=fuel->Rel E.N E.np S0 w0 refs σ a w S γ->cM σ->
   Ph ops A τ ax σ->wpAny P .any ops Q fuel ax a w:=by
 have kQ:∀(ax:Ã Æ){σ:St}{a:À}{w:Z}{S:aM}{γ:G->Y},Rel E.N E.np S0 w0 refs σ a w S γ->cM σ->Ph ops A τ ax σ->(∀j,j<ops.size->ax.getD j U=X)->Q .normal a w:=by intro ax σ a w S γ hR hc tS ar;have he:=Y2 bA h tS ar;subst he;exact hn a w S γ hR hc
 intro fuel;induction fuel with
 |zero=>
  intro ax σ a w S γ hs IM hR hc tS;have ar:∀j,j<ops.size->ax.getD j U=true:=λj hj=>Y4 aa aa;refine⟨?_,kQ ax hR hc tS ar⟩;refine List.eq_nil_iff_forall_not_mem.2 λi hi=>?_;have h0:=(mem_ready.1 hi).1;have ay:i<ops.size:=by obtain⟨_,o,ho,_⟩:=mem_ready.1 hi;exact(jn.1 ho).1
  have:=ar i ay;rw[Ql h0]at this;simp at this
 |succ fuel ih=>
  intro ax σ a w S γ hs IM hR hc tS;refine⟨λeI=>kQ ax hR hc tS (Y5 bA hs eI),λi hi=>?_⟩;obtain⟨ix,o,ho,dJ⟩:=YT hi;have wg:=Ql ix;have dR:=Y3 ix;have bW:(ax.setIfInBounds i X).size=ops.size:=by simpa using hs
  obtain⟨hd,gW⟩:=h i o ho;refine D_wp hT hR hc ho hd gW (YZ bA h tS ho wg dJ dq) (YW bA h tS ho wg dJ) ?_;intro s u a' w' S' γ' he hu ct dh;exact ih _ bW aa ct dh (Y0 bA h tS ho wg dJ (Nat.le_of_eq hs.symm) he hu)
theorem Y7{P:Â}{E:Env}(hT:ca P E.T)(hC:iQ P E.C)(hF:CFun E.C)(hR:Rel E.N E.np S0 w0 refs σ a w S γ)(hc:cM σ){ops:Ã Ä}{A:H (H G)}
  {R:Type}{k:St->O R}{r:R}{Q:Ñ->À->Z->Prop}(hn:∀σ' a' w' S' γ',Rel E.N E.np S0 w0 refs σ' a' w' S' γ'->cM σ'->k σ'=B r->Q .normal a' w')(h:zN E ops A σ k=B r) :
  wpAny P .any ops Q ops.size (Ö ops.size U) a { w with drawn:=w.drawn+1 }:=by
 unfold zN at h;split at h
 .rename_i bA;obtain⟨τ,h1,h2,h3⟩:=Qg (P:=P) (ops:=ops) hC hF ops.size 0 σ (ke _) (by simpa using h)
  have mc:∀j,(Ö ops.size U).getD j U=false:=by
   intro j;rcases qr j ops.size with hj|hj
   .simp[hj]
   .simp[hj]
  have dq:ClOk ops (zK ops.toList []):=Qc ops.toList [] (λi j h=>by simp at h) (λk o hk=>by simpa using hk);refine Y6 hT dq (YQ dq bA) (τ:=τ) (λj o ho=>h3 j o (ko _) ho) (λa' w' S' γ' ct dh=>hn _ a' w' S' γ' ct dh h2) ops.size _ af af (hR.drawn _) hc ?_
  exact⟨λj o _ hj=>by rw[mc]at hj;simp at hj,λj o t _ _ hj=>by rw[mc]at hj;simp at hj,λt _=>by rw[h1],
   λj k _ _ hj=>by rw[mc]at hj;simp at hj,λk _=>by rw[h1]⟩
 .simp at h
end
def FR(ro:O G):Fence:={ Ú with round:=ro }
theorem Qn(ro:O G)(n:G):(FR ro).room n:=λd h=>by simp[FR,Ú]at h
section
variable{P:Â}{ro:O G}{n:G}
theorem Y8{f:FuncId}{args:Ã Y}{w:Z}{R:Ending->Z->Prop}(h:Calls P f args w R):ÿ (FR ro) n P f args w R:=(callsIn_wide (n:=n)).2 h
theorem Y9{f:FuncId}{args:Ã Y}{w:Z}{R:Ending->Z->Prop}(h:ÿ (FR ro) n P f args w R):Calls P f args w R:=(callsIn_wide (n:=n)).1 h
theorem Za{m:G}{c:Ò}{Q:Ñ->À->Z->Prop}{a:À}{w:Z}(h:c.wpIn (FR ro) n P Q a w):c.wpIn (FR ro) m P Q a w:=
 λb k cs fH hb hr=>h b k cs fH hb (Qn _ _)
theorem Zb{row:String}{args:Ã Y}{w:Z}{R:Y->Z->Prop}(h:Rows P row args w R):RowsIn (FR ro) n P row args w R:=
 λc cs _=>let ⟨v,w',r,s⟩:=h c cs;⟨v,w',r,stepsIn_wide.2 s⟩
theorem Ep{o:Ä}(hp:ro=Á\/∀c,o.op ≠ .defer c){a:À}{w:Z}{K K':À->Z->Prop}{Q:Ñ->À->Z->Prop}(hK:∀a w,K a w->K' a w)
  (h:o.wp P a w K Q):o.wpIn (FR ro) n P a w K' Q:=by
 refine⟨λ_ _=>trivial,?_⟩
 have e:o.semAt (FR ro).round a.eval=execOp a.eval o:=by
  rcases hp with rfl|hp
  .rfl
  .exact Oper.semAt_eq _ _ _ hp
 rw[e];unfold Ó at h;revert h;cases (execOp a.eval o).run P w with
 |ok x w'=>
  cases x with
  |value v=>intro h;exact hK _ _ h
  |skip=>intro h;exact hK _ _ h
  |defer d=>intro h;exact hK _ _ h
  |enter f args=>
   intro h;refine⟨λhd=>by simp[FR,Ú]at hd,Y8 (Calls.mono h λe uL he=>?_)⟩;cases e with
   |returned v=>exact hK _ _ he
   |panicked c=>exact he
   |outgrown=>exact he
  |row r args=>intro h;exact⟨λhd=>by simp[FR,Ú]at hd,Zb (Rows.mono h λv uL he=>hK _ _ he)⟩
  |round l f tmps x y=>intro h;exact h.elim
  |_=>intro h;exact h.elim
 |halt x w'=>cases x<;>intro h<;>exact h
theorem yg{ops:Ã Ä}{Q:Ñ->À->Z->Prop}(hp:ro=Á\/∀o∈ops.toList,∀c,o.op ≠ .defer c)(cX:¬ò Q):∀(l:H G)(a:À)(w:Z),wpOps P ops Q l a w->wpOpsIn (FR ro) n P ops Q l a w
 |[],a,w,h=>h
 |i::r,a,w,h=>by
  simp only[wpOps]at h;simp only[wpOpsIn];cases ho:ops[i]? with
  |none=>simp only[ho]at h ⊢;exact yg hp cX r a w h
  |some o=>
   simp only[ho]at h ⊢;split
   .rename_i hw;simp only[hw,if_true]at h;rcases h with h|⟨_,h⟩
    .refine Ep (hp.imp id λhh=>hh o ?_) (λa w=>yg hp cX r a w) h;obtain⟨ay,rfl⟩:=jn.1 ho;exact Array.mem_toList_iff.2 (ð ay)
    .exact absurd h cX
   .rename_i hw;simp only[hw]at h;exact⟨λ_ _=>trivial,yg hp cX r _ w h⟩
theorem Er{md:Region.Mode}{ops:Ã Ä}{Q:Ñ->À->Z->Prop}(hp:ro=Á\/∀o∈ops.toList,∀c,o.op ≠ .defer c)(cX:¬ò Q) :
  ∀(fuel:G)(ax:Ã Æ)(a:À)(w:Z),wpAny P md ops Q fuel ax a w->wpAnyIn (FR ro) n P md ops Q fuel ax a w
 |0,_,_,_,h=>h
 |fuel+1,ax,a,w,h=>by
  refine⟨h.1,λi hi=>?_⟩;have h2:=h.2 i hi;unfold wpOp at h2;unfold wpOpIn;cases ho:ops[i]? with
  |none=>simp only[ho]at h2 ⊢;exact Er hp cX fuel _ a w h2
  |some o=>
   simp only[ho]at h2 ⊢;split
   .rename_i hw;simp only[hw,if_true]at h2;rcases h2 with h2|⟨_,h2⟩
    .refine Ep (hp.imp id λhh=>hh o ?_) (λa w=>Er hp cX fuel _ a w) h2;obtain⟨ay,rfl⟩:=jn.1 ho;exact Array.mem_toList_iff.2 (ð ay)
    .exact absurd h2 cX
   .rename_i hw;simp only[hw]at h2;exact⟨λ_ _=>trivial,Er hp cX fuel _ _ w h2⟩
end
section
variable{N:NT}{np:G}{S0:aM}{w0:Z}{refs:Refs}{σ:St}{a:À}{w:Z}{S:aM}{γ:G->Y}
theorem Rel.allocO(hR:Rel N np S0 w0 refs σ a w S γ)(o:Obj):Rel N np S0 w0 refs σ a (w.alloc o) S γ:=
 Rel.step (bx':=σ.bx) (γ':=γ) hR (uR hR o) (.refl _ _) (λk b hb=>dQ.keep (uR hR o) (.refl _ _) rfl (λg hg=>⟨heap_alloc_old w o (iu (hR.box k b hb) hg),λ_=>Iff.rfl⟩) (hR.box k b hb))
  hR.own hR.apart hR.new (λg i h=>by have:=hR.here g i h;simp;omega) (λg hg hr=>(heap_alloc_old w o (qx hg hR.grow)).trans (hR.below g hg hr)) (by have:=hR.grow;simp;omega) hR.os hR.tape hR.output
  (λg hg _ h=>⟨heap_alloc_old w o hg,h⟩)
structure Grew(w w':Z):Prop where
 old:∀g,g<w.heap.size->w'.heap[g]? = w.heap[g]?
 size:w.heap.size<=w'.heap.size
 os:w'.os=w.os
 tape:w'.tape=w.tape
 output:w'.output=w.output
structure yh(S:aM)(w:Z)(S':aM)(w':Z):Prop where
 sub:∀g o,S g o->S' g o
 new:∀g o,S' g o->S g o\/w.heap.size<=g
 here:∀g o,S' g o->g<w'.heap.size
theorem Rel.grew(hR:Rel N np S0 w0 refs σ a w S γ){S':aM}{w':Z}(h:Grew w w')(hs:yh S w S' w'):Rel N np S0 w0 refs σ a w' S' γ:=
 have aL:db S w S' w':=λg o hg=>⟨hs.sub g o hg,Ç (h.old g (hR.here g o hg))⟩
 Rel.step (bx':=σ.bx) (γ':=γ) hR aL (.refl _ _) (λk b hb=>dQ.keep aL (.refl _ _) rfl (λg hg=>
   have hl:=iu (hR.box k b hb) hg
   ⟨h.old g hl,λo=>⟨λh1=>(hs.new g o h1).resolve_right aa,hs.sub g o⟩⟩) (hR.box k b hb))
  hR.own hR.apart (λg o h1=>(hs.new g o h1).elim (hR.new g o) λh2=> .inr (.inl (qw hR.grow h2))) hs.here (λg hg hr=>(h.old g (qx hg hR.grow)).trans (hR.below g hg hr)) (qw hR.grow h.size) (h.os.trans hR.os) (h.tape.trans hR.tape) (h.output.trans hR.output)
  (λg hg _ hn=>⟨h.old g hg,hn⟩)
theorem Rel.swap(hR:Rel N np S0 w0 refs σ a w S γ){N':NT}{refs':Refs}{a':À}(hb:refs'.blks=refs.blks)(hv:refs'.val=refs.val)(bW:a'.tmps.size=N'.n)(IP:a'.defers=refs'.ds)
  (pq:∀i,gA S w γ σ.bx (tm a') (σ.sl i) (tm a' i))(hk:∀g o,refs'.kw g=B o->w.heap[g]? = B o/\∀k b,σ.bx k = .live b->blk (γ k)≠B g)
  (hf:∀i v,refs'.fix i=B v->N'.pin i=X/\a'.tmps.getD i undef=v)(Es:refs'.mv=refs.mv:=by rfl):Rel N' np S0 w0 refs' σ a' w S γ:=
 have hm:∀g,g∈refs'↔g∈refs:=λg=>by show g∈refs'.blks↔g∈refs.blks;rw[hb]
 ⟨bW,IP,pq,hR.box,λk b g h h'=>(hR.own k b g h h').imp (λh=>Own.swap h hb Es) λh=>⟨(hm g).2 h.1,h.2⟩,hR.apart,hR.ext,λg o h=>(hR.new g o h).imp id λh=>Own.swap h hb Es,hR.here,λg h h'=>hR.below g h λh2=>h' ((hm g).2 h2),
  hR.grow,hR.os,hR.tape,hR.output,λk v h=>hR.par k v (hv▸h),hk,hf⟩
theorem Qo{g o:G}{x:Obj}(h:w.heap[g]? = B x)(hc:x.isCells=U):w.cell? ⟨g,o,Á⟩=none:=by
 unfold World.cell?;simp only[h];cases x<;>first|rfl|(simp[Obj.isCells]at hc)
theorem Rel.putO(hR:Rel N np S0 w0 refs σ a w S γ){l:G}{o o':Obj}(hk:refs.kw l=B o)(hl:w0.heap.size<=l)(hc:o.isCells=U)(dh:o'.isCells=U) :
  Rel N np S0 w0 { refs with kw:=λg=>if g=l then B o' else refs.kw g } σ a (w.putObj l o') S γ:=by
 obtain⟨hw,cX⟩:=hR.kept l o hk;have ay:=(jn.1 hw).1
 have aL:db S w S (w.putObj l o'):=λg i h=>⟨h,by
  by_cases hg:g=l
  .subst hg;rw[Qo hw hc,Qo (Þ ay) dh]
  .exact Ç (È hg)⟩
 have bm:Rel N np S0 w0 { refs with kw:=λg=>if g=l then Á else refs.kw g } σ a w S γ:=
  Rel.swap hR rfl rfl hR.size hR.defers hR.slot (λg x h=>by
   simp only at h;split at h
   .simp at h
   .exact hR.kept g x h) hR.fix
 have bS:Rel N np S0 w0 { refs with kw:=λg=>if g=l then Á else refs.kw g } σ a (w.putObj l o') S γ:=
  Rel.step (bx':=σ.bx) (γ':=γ) bm aL (.refl _ _) (λk b hb=>dQ.keep aL (.refl _ _) rfl (λg hg=>⟨È (λe=>cX k b hb (e▸hg)),λ_=>Iff.rfl⟩) (hR.box k b hb))
   bm.own bm.apart bm.new (λg i h=>by simpa using hR.here g i h) (λg hg hr=>(È aa).trans (bm.below g hg hr)) (by simpa using hR.grow) hR.os hR.tape hR.output
   (λg _ lR h=>⟨È (λe=>by subst e;simp at lR),h⟩)
 refine Rel.swap bS rfl rfl bS.size bS.defers bS.slot (λg x h=>?_) bS.fix;simp only at h;split at h
 .rename_i e;subst e;simp only[jb]at h;subst h;exact⟨Þ ay,cX⟩
 .rename_i e;have h1:=hR.kept g x h;exact⟨(È e).trans h1.1,h1.2⟩
theorem Zc(np:G)(K:Keep)(s:Snap)(i:G):(∃c,(cR np K s).sl i = .one c)/\(i∉K.slots->(cR np K s).sl i = .one (.one .dead)):=by
 have eh:(cR np K s).sl i=match K.slots.idxOf? i with
  |some j=>uH s[j]?
  |none=> .one (.one .dead):=rfl
 rw[eh];cases hq:K.slots.idxOf? i with
 |none=>exact⟨⟨_,rfl⟩,λ_=>rfl⟩
 |some j=>refine⟨?_,λh=>absurd (kb (nZ hq)) h⟩;simp only;unfold uH;split<;>exact⟨_,rfl⟩
theorem Rel.frame{K:Keep}{s:Snap}(hR:Rel N np S0 w0 refs (cR np K s) a w S γ){N':NT}{refs':Refs}{a':À}(hb:refs'.blks=refs.blks)(hv:refs'.val=refs.val)(bW:a'.tmps.size=N'.n)(IP:a'.defers=refs'.ds)
  (eh:∀i∈K.slots,tm a' i=tm a i)(hk:∀g o,refs'.kw g=B o->w.heap[g]? = B o/\∀k b,(cR np K s).bx k = .live b->blk (γ k)≠B g)
  (hf:∀i v,refs'.fix i=B v->N'.pin i=X/\a'.tmps.getD i undef=v)(Es:refs'.mv=refs.mv:=by rfl):Rel N' np S0 w0 refs' (cR np K s) a' w S γ:=by
 refine hR.swap hb hv bW IP (λi=>?_) hk hf Es;obtain⟨⟨c,hc⟩,hd⟩:=Zc np K s i;by_cases hi:i∈K.slots
 .have:=hR.slot i;rw[hc]at this ⊢;rw[eh i hi];exact this
 .rw[hd hi];exact⟨trivial,λh=>absurd rfl h⟩
end
section
variable{P:Â}{F:Fence}{n:G}{b:Frame}{a:À}{k:H Go.Item}{cs:H Frame}{w:Z}{Q:Ñ->À->Z->Prop}
theorem yi{c:Ò}:step P (lone (b.atR a (.code (.scope c)::k)) cs w) = .next (lone (b.atR a (.code c :: .inScope c::k)) cs w):=
 step_lone_go (by simp[stepG,stepG.exec,Frame.atR])
theorem Zd{c:Ò}:step P (lone (b.atR a (.inScope c::k)) cs w) = .next (lone (b.atR a k) cs w):=
 step_lone_go (by simp[stepG,stepG.exec,Frame.atR])
theorem Ze{c:Ò}(Zf:∀l a w,¬Q (.goto l) a w)(h:c.wpIn F n P Q a w):(Code.scope c).wpIn F n P Q a w:=by
 intro b k cs fH hb hr;have h0:(lone (b.atR a (.code (.scope c)::k)) cs w).fenced P F:=fenced_calm hb hr rfl;obtain⟨e,a₁,w₁,hq,nB⟩:=h b (.inScope c::k) cs fH hb hr;cases e with
 |normal=>exact⟨.normal,a₁,w₁,hq,.head h0 yi (StepsIn.trans nB (.one (fenced_calm hb hr rfl) Zd))⟩
 |exit id=>
  have hx:exitTo id (.inScope c::k)=exitTo id k:=by simp[exitTo]
  exact⟨_,a₁,w₁,hq,λk' hk=> .head h0 yi (nB.1 k' (by rw[hx];exact hk)),
   λrv hk=>let ⟨k₁,h1,h2⟩:=nB.2 rv (by rw[hx];exact hk);⟨k₁,h1,.head h0 yi h2⟩⟩
 |goto l=>exact absurd hq (Zf l a₁ w₁)
 |ret=>exact⟨_,a₁,w₁,hq,.of_steps (.one h0 yi) nB⟩
 |panic ch=>exact⟨_,a₁,w₁,hq,.of_steps (.one h0 yi) nB⟩
 |outgrown=>exact⟨_,a₁,w₁,hq,.of_steps (.one h0 yi) nB⟩
end
section
variable{N:NT}{np:G}{S0:aM}{w0:Z}{refs:Refs}{σ:St}{a:À}{w:Z}{S:aM}{γ:G->Y}
theorem Qp{t:Ty}:∀{xs:H t.den}{css:H (H Y)}{bx:G->BS},All2 (λx c=>Rep S w t x c) xs css->All2 (bj S w γ bx) (xs.flatMap λx=>(scat t x).map TV.leaf) css.flatten
 |[],[],_,_=>trivial
 |[],_::_,_,h=>h.elim
 |_::_,[],_,h=>h.elim
 |x::xs,c::css,_,h=>(oz (ni t x c h.1)).append (Qp h.2)
theorem Zg{t:Ty}(xs:H t.den):rowL t xs.length xs=xs.flatMap λx=>(scat t x).map TV.leaf:=by
 unfold rowL;rw[ô,ô];exact congrArg List.flatten (OH (λx=>(scat t x).map TV.leaf) t.dflt xs)
theorem Qq{rd:G->BS}(aO:RdF np σ rd)(hB:sZ S w γ σ.bx)(t:Ty):∀{n:G}{ls:H Leaf}{xs:H t.den}{u:Ups}{cs:H Y},xy rd t n ls=B (xs,u)->All2 (bj S w γ σ.bx) ls cs->cs.length=n*t.size->
  FrzL np σ.bx u/\xs.length=n/\∀S' w',db S w S' w'->Froz σ.bx γ S' w' u->∃css,css.flatten=cs/\All2 (λx c=>Rep S' w' t x c) xs css
 |0,[],xs,u,cs,h,ha,hc=>by
  simp only[xy,jb,jf]at h;obtain⟨rfl,rfl⟩:=h;have:cs=[]:=js (by rw[hc,Nat.zero_mul]);subst this;exact⟨.nil,rfl,λS' w' _ _=>⟨[],rfl,trivial⟩⟩
 |0,_::_,_,_,_,h,_,_=>by simp[xy]at h
 |n+1,ls,xs,u,cs,h,ha,hc=>by
  simp only[xy]at h;split at h
  case h_2=>simp at h
  rename_i x r u1 hx;split at h
  case h_2=>simp at h
  rename_i cE v fj;simp only[jb,jf]at h;obtain⟨rfl,rfl⟩:=h;obtain⟨f1,e1,p1⟩:=td aO hB t hx ha;have qB:All2 (bj S w γ σ.bx) r (cs.drop t.size):=by rw[e1];exact ha.drop _
  obtain⟨f2,l2,p2⟩:=Qq aO hB t fj qB (by rw[qv,hc,zq];omega);refine⟨FrzL.app.2 ⟨f1,f2⟩,by rw[ju,l2],λS' w' hk hf=>?_⟩;obtain⟨lP,oE⟩:=Froz.app.1 hf;obtain⟨css,e3,q3⟩:=p2 S' w' hk oE;exact⟨cs.take t.size::css,by rw[kx,e3,qu],p1 S' w' hk lP,q3⟩
theorem Zh(hR:Rel N np S0 w0 refs σ a w S γ)(hc:cM σ){g:Gh}{σ':St}(h:xz np σ g=B (X,σ')):∃S' γ',Rel N np S0 w0 refs σ' a w S' γ'/\cM σ':=by
 cases g with
 |ex k c n m=>
  simp only[xz]at h;split at h
  case h_2=>simp at h
  rename_i ls hk;split at h
  case h_2=>simp at h
  rename_i b hs;split at h
  case h_2=>simp at h
  rename_i e t xs hb;split at h
  case isTrue=>simp at h
  rename_i bP;simp only[jb,jf]at h;obtain⟨h1,rfl⟩:=h;have h1:xs.length=m:=á h1;subst h1;simp only[qk,not_or,Ù,beq_eq_false_iff_ne,Bool.not_eq_false']at bP;obtain⟨⟨⟨⟨hm,hp⟩,vY⟩,cC⟩,hn⟩:=bP
  have hn:σ.bx n = .free:=by
   revert hn
   cases σ.bx n<;>simp[fV]
  have lR:k≠n:=by rintro rfl;rw[hn]at hk;simp at hk
  obtain⟨gk,IQ,ek,vN,Qr,Eo,bA,OI,_⟩:=hR.box k _ hk
  have lT:ls[c]? = B (.ol b):=by
   cases dh:ls[c]? with
   |none=>simp[dh]at hs
   |some x=>simp[dh]at hs;rw[hs]
  obtain⟨z,hz,eN⟩:=Eo.get c _ lT;have hu:z=γ b:=eN.2.2 _ hb;obtain⟨css,aD,ar,hS⟩:=gB hm (hR.box b _ hb);have bm:=xM hR hb;have lD:(σ.setB b .gone).bx n = .free:=by rw[bQ σ _ (Ne.symm vY)];exact hn
  obtain⟨bS,dV⟩:=HY bm lD (v':=γ b) (b:= .row e t xs.length (rowL t xs.length xs)) (λg' ao=>by
   refine⟨⟨?_,hR.kw_live hb ao⟩,λk' b' aG bg=>?_⟩
   .rcases hR.own b _ g' hb ao with h|h
    .exact h
    .rw[hp]at h;simp at h
   .have bI:k'≠b:=by rintro rfl;rw[ee]at aG;simp at aG
    rw[bQ σ _ bI]at aG;exact hR.apart k' b _ _ g' bI aG hb bg ao) (by
   refine⟨hm,⟨css.flatten,by rw[dH];exact aD,by rw[Zg];exact Qp ar,λu hu=>?_⟩,λg hg o=>?_⟩
   .obtain⟨c',dh,rj⟩:=List.mem_flatten.1 hu;obtain⟨x,_,hx⟩:=ar.mem_right c' dh;exact Rep.one t x c' hx u rj
   .rw[dH]at hg;exact(hS g hg).1 rfl o)
  have eb:((σ.setB b .gone).setB n (.live (.row e t xs.length (rowL t xs.length xs)))).bx k = .live (.cell ls U):=by rw[bQ _ _ lR,bQ _ _ (λh=>cC h.symm)];exact hk
  refine⟨S,_,Is bS eb (b':= .cell (ls.set c (.ol n)) U) trivial (λbx' nk=>?_),λi=>hc i⟩;obtain⟨g3,Zi,e3,q1,q2,q3,q4,q5,_⟩:=bS.box k _ eb;rw[eG γ _ lR,vN]at q1;simp at q1;subst q1;rw[Qr]at q2;simp at q2;obtain⟨rfl,rfl⟩:=q2;refine⟨gk,IQ,ek,by rw[eG γ _ lR];exact vN,Qr,?_,by rw[qo];exact q4,q5,af⟩;rw[qo];refine All2.set_left (q3.mono (λx u hx=>bj.keep (.refl S w) nk hx)) c (.ol n) z hz ?_;have wh:((σ.setB b .gone).setB n (.live (.row e t xs.length (rowL t xs.length xs)))).bx n = .live (.row e t xs.length (rowL t xs.length xs)):=ee _ _ _;refine bj.keep (.refl S w) nk (x:= .ol n) ⟨by rw[wh];simp,eN.2.1,λb' aG=>?_⟩;rw[dH];exact hu
 |rl k=>
  simp only[xz]at h;split at h
  .rename_i e t n ls hk;split at h
   case h_2=>simp at h
   rename_i xs u hx;split at h
   case isTrue=>simp at h
   rename_i fE;simp only[jb,jf,kn]at h;subst h;have fE:u.any (λy=>y.1==k)=false:=qc.2 fE;have aO:RdF np σ (λj=>if parK np j then .gone else mskM σ.bx j):=vS (RdR.msk λ_=> .inl rfl);obtain⟨hm,⟨cs,aD,ar,h1⟩,_⟩:=hR.box k _ hk;obtain⟨hf,hl,hp⟩:=Qq aO hR.box t hx ar aD.1;obtain⟨S1,bm,cg,fF,dm⟩:=lO u σ S hR hf;have df:(σ.upd u).bx k = .live (.row e t n ls):=(iv u σ fE).trans hk;obtain⟨css,Av,Bw⟩:=hp S1 w cg fF;have bS:=Is bm df (b':= .lst e t xs U) ⟨rfl,rfl,hm,hl.symm⟩ (λbx' hle=>xC hm ⟨css,by rw[Av,hl];exact aD,Bw,λg hg=>⟨λ_=>(bm.box k _ df).2.2 g hg,af⟩⟩);refine⟨S1,γ,by rw[gN];exact bS,λi=>?_⟩;rw[rr];exact hc i
  .simp only[jb,jf,kn]at h;subst h;exact⟨S,γ,hR,hc⟩
 |se k=>
  simp only[xz]at h;split at h
  case h_2=>simp at h
  rename_i ls hk;split at h
  case isTrue=>simp at h
  rename_i hp;split at h
  case h_2=>simp at h
  rename_i xs u hx;split at h
  case isTrue=>simp at h
  rename_i fE;simp only[jb,jf,kn]at h;subst h;have hp:parK np k=false:=qc.2 hp;have fE:u.any (λy=>y.1==k)=false:=qc.2 fE;have aO:RdF np σ (λj=>if parK np j then .gone else mskM σ.bx j):=vS (RdR.msk λ_=> .inl rfl);obtain⟨g,cur,e,hg,hh,dF,_⟩:=hR.box k _ hk;obtain⟨hf,xS⟩:=vE aO hx dF;obtain⟨S1,bm,cg,fF,dm⟩:=lO u σ S hR hf;have df:(σ.upd u).bx k = .live (.cell ls U):=(iv u σ fE).trans hk
  obtain⟨S2,g2,bS,_⟩:=O3 bm df hp (xs:=xs) (λg' vF e' ao sX _=>by
   rw[hg]at ao;simp at ao;subst ao;rw[hh]at sX;simp at sX;obtain⟨rfl,_⟩:=sX;exact xS S1 w cg fF)
  refine⟨S2,γ,by rw[gN];exact bS,λi=>?_⟩;rw[rr];exact hc i
 |da l=>
  simp only[xz]at h;split at h
  .rename_i σ1 hd;simp only[jb,jf,kn]at h;subst h;obtain⟨S',ct,dh⟩:=It l σ σ1 S hR hc hd;exact⟨S',γ,ct,dh⟩
  .simp at h
theorem IU{R:Type}{r:R}:∀{gs:H Gh}{σ:St}{S:aM}{γ:G->Y}{k:St->O R},Rel N np S0 w0 refs σ a w S γ->cM σ->uI np gs σ k=B r->
  ∃σ' S' γ',Rel N np S0 w0 refs σ' a w S' γ'/\cM σ'/\k σ'=B r
 |[],σ,S,γ,k,hR,hc,h=>⟨σ,S,γ,hR,hc,h⟩
 |g::gs,σ,S,γ,k,hR,hc,h=>by
  simp only[uI]at h;split at h
  .rename_i b σ1 hg;cases b with
   |false=>simp at h
   |true=>obtain⟨S1,γ1,bm,eg⟩:=Zh hR hc hg;exact IU bm eg h
  .simp at h
end
section
variable{N:NT}{np:G}{S0:aM}{w0:Z}{refs:Refs}{σ:St}{a:À}{w:Z}{S:aM}{γ:G->Y}
def exOf:Ex->Ñ
 |.normal=> .normal
 |.exit i=> .exit i
 |.ret=> .ret
def yj(E:Env)(b:G)(c:Ò):Prop:=
 ∀(s:Snap)(R:Type)(k:Ex->Snap->O R)(r:R),E.L b s R k=B r->∃n e s',loopN (Hc E b c) n s=B (e,s')/\k e s'=B r
def MrOK(E:Env)(b:G)(c:Ò):Prop:=
 ∀(m nm:G)(p:MrP),E.mr b=B (m,nm)->mrP b c=B p->∀(s:Snap)(R:Type)(k:Snap->O R)(r:R),E.M b s R k=B r->
  ∃(em:G)(v:Ty)(xs ys:H (Ï×v.den)),isM em=X/\s=iK s em v xs/\
   (∀zs,(cR E.np (E.keep b) (iK s em v zs)).bx nm = .live (.lst em (.pair (.int .i64) v) zs U)/\(cR E.np (E.keep b) (iK s em v zs)).sl m = .one (.one (.ol nm)))/\
   All2 (λx y=>y.1=x.1/\∀zs,zV E b p m (iK s em v zs) v x.1 x.2 B=B (iK s em v (@lk _ _ (Ty.int .i64).keq zs x.1 y.2))) xs ys/\k (iK s em v ys)=B r
theorem Bz(p:G->Prop):∀n,p n->∃m,p m/\∀j,p j->m<=j:=by
 intro n;induction n using ø with
 |_ n ih=>
  intro h;by_cases hj:∃j,j<n/\p j
  .obtain⟨j,hj,hp⟩:=hj;exact ih j hj hp
  .exact⟨n,h,λj hp=>Nat.le_of_not_lt λhl=>hj ⟨j,hl,hp⟩⟩
open Classical in
noncomputable def Et(p:G->Prop):Nat:=if h:∃n,p n then (Bz p h.choose h.choose_spec).choose else 0
theorem Qs{p:G->Prop}{n:G}(h:p n):p (Et p)/\Et p<=n:=by
 unfold Et;have hx:∃n,p n:=⟨n,h⟩;rw[dif_pos hx];exact⟨(Bz p hx.choose hx.choose_spec).choose_spec.1,(Bz p hx.choose hx.choose_spec).choose_spec.2 n h⟩
theorem Qt{P:Â}{F:Fence}{n0:G}{Q:Ñ->À->Z->Prop}{c:Ò}(I:G->À->Z->Prop){n:G}(h₀:I n a w)
  (round:∀n a w,I n a w->c.wpIn F n0 P (Exit.then (λa' w'=>∃m,m<n/\I m a' w') Q) a w):(Code.loop c).wpIn F n0 P Q a w:=by
 refine wpIn_loop (λa w=>∃n,I n a w) (λa w=>Et λn=>I n a w) ⟨n,h₀⟩ (λa w hI=>?_);obtain⟨m,hm⟩:=hI;have hl:=(Qs (p:=λn=>I n a w) hm).1;refine wpIn_mono (round _ a w hl) (λe a' w' h=>?_);cases e with
 |normal=>obtain⟨m',ay,Qu⟩:=h;exact⟨⟨m',Qu⟩,Nat.lt_of_le_of_lt (Qs (p:=λn=>I n a' w') Qu).2 ay⟩
 |_=>exact h
def yk(w0:Z)(refs:Refs):Prop:=
 refs.ds.Nodup/\∀d∈refs.ds,∃D,d={ target:= .collected D,args:=#[] }/\w0.heap.size<=D/\refs.kw D=B (.deferred (B []))
structure tT(w0:Z)(refs refs':Refs):Prop where
 blks:refs'.blks=refs.blks
 val:refs'.val=refs.val
 fix:refs'.fix=refs.fix
 marks:yk w0 refs'
 mv:refs'.mv=refs.mv
theorem tT.trans{r r' Qv:Refs}(h:tT w0 r r')(h':tT w0 r' Qv):tT w0 r Qv:=⟨h'.blks.trans h.blks,h'.val.trans h.val,h'.fix.trans h.fix,h'.marks,h'.mv.trans h.mv⟩
def Post(E:Env)(S0:aM)(w0:Z)(refs:Refs)(pl:Æ){R:Type}(k:Ex->St->O R)(r:R):Ñ->À->Z->Prop:=
 λe a' w'=>∃refs' ex σ' S' γ',tT w0 refs refs'/\(pl=X->refs'=refs)/\exOf ex=e/\Rel E.N E.np S0 w0 refs' σ' a' w' S' γ'/\cM σ'/\k ex σ'=B r
theorem IV{E:Env}{pl:Æ}{R:Type}{k:Ex->St->O R}{r:R}:¬ò (Post E S0 w0 refs pl k r):=by
 rintro⟨a,w,refs',ex,_,_,_,_,_,he,_⟩
 cases ex<;>simp[exOf]at he
def BwOK(P:Â)(f:G)(t:Ty):Prop:=
 Fun P f/\∀(cv:Ã Y)(m l:G)(J:G->aM->Z->Prop)(Jx:Z->Prop)(W:Z)(S:aM),
  (∀j S W S' W',Grew W W'->yh S W S' W'->J j S W->J j S' W')->(∀W W',Grew W W'->Jx W->Jx W')->(∀j S W,J j S W->∀g o,S g o->g<W.heap.size)->
  (∀j S W,j<m->J j S W->∃xs:H t.den,All2 (iq S W) [.p [⟨.list t,xs⟩]] cv.toList/\m-1-j<xs.length/\∀S' W' x v,Grew W W'->yh S W S' W'->xs[m-1-j]? = B x->VRep S' W' ⟨t,x⟩ v->
   YieldAt (FR Á) 0 P l #[.int .i64 ((m-1-j:G):Ï),v] W' λe W'=>(e = .returned (.bool X)/\∃S',J (j+1) S' W')\/(e = .returned (.bool U)/\Jx W'))->
  (∃(S':aM)(xs:H t.den),xs.length=m/\(∀g o,S' g o->g<W.heap.size)/\All2 (iq S' W) [.p [⟨.list t,xs⟩]] cv.toList)->J 0 S W->
  ÿ (FR Á) 0 P f (#[.func (.yield l) #[] #[]]++cv) W λe W'=>(∃v,e = .returned v)/\((∃S',J m S' W')\/Jx W')
def ItOK(P:Â)(f:G)(kd:Æ)(t:Ty):Prop:=
 Fun P f/\∀(cv:Ã Y)(l:G)(J:Ï->aM->Z->Prop)(Je Jx:Z->Prop)(W:Z)(S:aM)(fW:H t.den),
  (∀c S W S' W',Grew W W'->yh S W S' W'->J c S W->J c S' W')->(∀W W',Grew W W'->Je W->Je W')->(∀W W',Grew W W'->Jx W->Jx W')->(∀c S W,J c S W->∀g o,S g o->g<W.heap.size)->
  (∀c S W,J c S W->∃xs:H t.den,All2 (iq S W) [.p [⟨.list t,xs⟩]] cv.toList/\(Hb kd xs.length c=X->Je W)/\
   (Hb kd xs.length c=U->itOk kd xs.length c=X/\∀S' W' vs,Grew W W'->yh S W S' W'->All2 (VRep S' W') (zQ kd t xs c) vs->
    YieldAt (FR Á) 0 P l vs.toArray W' λe W'=>(e = .returned (.bool X)/\∃S',J (zP kd c) S' W')\/(e = .returned (.bool U)/\Jx W')))->
  (∃S',(∀g o,S' g o->g<W.heap.size)/\All2 (iq S' W) [.p [⟨.list t,fW⟩]] cv.toList)->J (zO kd fW.length) S W->
  ÿ (FR Á) 0 P f (#[.func (.yield l) #[] #[]]++cv) W λe W'=>(∃v,e = .returned v)/\(Je W'\/Jx W')
def Qw(P:Â)(fK fS e:G):Prop:=Fun P fK/\Fun P fS/\∀(w:Z)(g:G)(es:Ã ì)(clock:G)(ks:H Ï),
 w.heap[g]? = B (.map es clock)->MapKept.Stamped es clock->es.toList.map (·.key)=ks.map (Ê .i64)->(∀x∈ks, -9223372036854775808<=x/\x<=9223372036854775807)->ks.length<=1000000->
 Calls P fK #[.map (B g)] w λr w1=>∃c,r = .returned c/\Grew w w1/\Calls P fS #[c] w1 λr2 w2=>∃v,r2 = .returned v/\w2.ownsRow w1.heap.size e 1 v ks.length ((uD ks).map (Ê .i64))/\Grew w1 w2
def Qx(P:Â)(f e sz:G):Prop:=Fun P f/\∀(w:Z)(n:Ï),0<=n->n<=1000000->
 Calls P f #[.slice Á 0 0,.int .i64 n] w λr w'=>∃v,r = .returned v/\w'.ownsRow w.heap.size e sz v 0 []/\Grew w w'
def BwK(P:Â)(f:G):Æ×Ty->Prop
 |(X,.arr fK (.arr e .bool))=>Qw P fK f e
 |(X,.arr e (.arr sz .unit))=>Qx P f e sz
 |(kd,t)=>ItOK P f kd t
theorem BwK.it{P:Â}{f:G}{kd:Æ}{t:Ty}(h:BwK P f (kd,t))(ht:kd=X->t=segT):ItOK P f kd t:=by
 cases kd with
 |false=>exact h
 |true=>obtain rfl:=ht rfl;exact h
section
variable{N:NT}{np:G}{S0:aM}{w0:Z}{refs:Refs}{σ:St}{a:À}{w:Z}{S:aM}{γ:G->Y}
theorem Zj(ks:H Ï):(uD ks).length=ks.length:=by
 have hi:∀(x:Ï)(l:H Ï),(insI x l).length=l.length+1:=by
  intro x l;induction l with
  |nil=>rfl
  |cons y r ih=>unfold insI;cases decide (x<=y)<;>simp[ih]
 induction ks with
 |nil=>rfl
 |cons x r ih=>simp[uD,hi,ih]
theorem Qy{vt:Ty}:∀{xs:H (Ï×vt.den)}{l:H ì},All2 (λ(x:(Ty.int .i64).den×vt.den)(e:ì)=>Rep S w (.int .i64) x.1 [e.key]/\VRep S w ⟨vt,x.2⟩ e.val) xs l->
  l.map (·.key)=(xs.map λx=>x.1).map (Ê .i64)
 |[],[],_=>rfl
 |[],_::_,h=>h.elim
 |_::_,[],h=>h.elim
 |y::r,z::q,h=>by
  have h1:[z.key]=[Ê .i64 y.1]:=h.1.1;simp only[qq,List.cons.injEq];exact⟨by simpa using h1,Qy h.2⟩
theorem Zk{P:Â}{E:Env}(gF:∀f t,E.bw f=B t->BwK P f t)(hR:Rel E.N E.np S0 w0 refs σ a w S γ)(hc:cM σ){o o2:Ä}(hd:jX E.N o=X)(ir:jX E.N o2=X)
  {σ':St}(h:G6 E σ o o2=B (X,σ')){next tU:À->Z->Prop}{Q:Ñ->À->Z->Prop}
  (lD:∀a1 w1,o2.wp P a1 w1 next Q->tU a1 w1)(hn:∀a' w' S' γ',Rel E.N E.np S0 w0 refs σ' a' w' S' γ'->cM σ'->next a' w'):o.wp P a w tU Q:=by
 unfold G6 at h;split at h
 case h_2=>simp at h
 rename_i c1 c2 ho Be;split at h
 case h_2=>simp at h
 rename_i f1 x f2 d eg BA fp qB;split at h
 case h_2=>simp at h
 rename_i fK b fS lP hx oE;split at h
 case h_2=>simp at h
 rename_i G7 e em ta xs fr IW BB;split at h
 case h_2=>simp at h
 rename_i cq ys wi;split at h
 case isFalse=>simp at h
 rename_i bP;obtain⟨rfl,IX,Ed,BC,aV⟩:=bP;simp only[jb,jf]at h;obtain⟨rfl,rfl⟩:=h;obtain⟨Zl,Zm,dB⟩:Qw P G7 fS e:=gF _ _ IW;have BD:=jZ hR x;rw[hx]at BD;have Bi:a.eval x=γ b:=BD.1.2.2 _ BB;unfold N5 at wi;split at wi
 case h_2=>simp at wi
 rename_i vt xs;simp only[jb,jf]at wi;obtain⟨bA,rfl⟩:=wi
 obtain⟨g,es,clock,hg,hh,ar,aL⟩:zY S w (.pair (.int .i64) vt) xs (γ b):=by
  rcases (hR.box b _ BB).1 with⟨hm,_⟩|⟨_,hm⟩
  .rw[Ed]at hm;simp at hm
  .exact hm
 unfold N4 at bA;simp only[jh,jr,jp]at bA;have xQ:xs.length<=1000000:=Nat.le_of_ble_eq_true bA.1;have hks:es.toList.map (·.key)=(xs.map λx=>x.1).map (Ê .i64):=by exact Qy ar
 have dp:=dB w g es clock (xs.map λx=>x.1) hh aL.1 hks (λz hz=>by
  obtain⟨y,hy,rfl⟩:=qg.1 hz;exact bA.2 y hy) (by simpa using xQ)
 have BE:=jZ hR f1;rw[lP]at BE;obtain⟨cv,vJ,lz⟩:=BE.1
 obtain rfl:cv = #[]:=by
  have:cv.toList=[]:=by
   cases hq:cv.toList with
   |nil=>rfl
   |cons=>rw[hq]at lz;exact lz.elim
  exact vg.1 this
 have aE:=AW (w:=w) Zl ho eg vJ;have e1:c1.args.map a.eval ++ #[] = #[.map (B g)]:=by apply kr;simp[BA,Bi,hg]
 rw[e1]at aE;unfold Ó;rw[aE,Í];refine dp.mono ?_
 rintro r w1 ⟨c,rfl,mE,IY⟩
 have bm:=hR.grew mE (S':=S) ⟨λ_ _ h=>h,λ_ _ h=> .inl h,λg o h=>qx (hR.here g o h) mE.size⟩;obtain⟨bS,IZ⟩:=Bg bm hc (vU hd) (s:= .one (.one .dead)) (v:=c) ⟨trivial,λh=>absurd rfl h⟩ rfl;have BF:=jZ bS f2;rw[oE]at BF;obtain⟨cv,HI,lz⟩:=BF.1
 obtain rfl:cv = #[]:=by
  have:cv.toList=[]:=by
   cases hq:cv.toList with
   |nil=>rfl
   |cons=>rw[hq]at lz;exact lz.elim
  exact vg.1 this
 have tV:=AW (w:=w1) Zm Be fp HI;have Zn:d<a.tmps.size:=by rw[hR.size];exact(vU hd d IX).1
 have e2:c2.args.map (a.put o.dst c).eval ++ #[] = #[c]:=by
  apply kr;have:(a.put o.dst c).eval (.tmp d)=c:=by show tm (a.put o.dst c) d=c;rw[IX,yb Zn,if_pos rfl]
  simp[qB,this]
 rw[e2]at tV;refine lD _ _ ?_;unfold Ó;rw[tV,Í];refine IY.mono ?_
 rintro r2 w2 ⟨v,rfl,bX,nC⟩
 have gC:(σ.setD o.dst (.one (.one .dead))).bx ((o2.dst.getD 0)*64) = .free:=by
  rw[show (σ.setD o.dst (.one (.one .dead))).bx=σ.bx by rw[IX];rfl];cases hq:σ.bx ((o2.dst.getD 0)*64) with
  |free=>rfl
  |gone=>rw[hq]at aV;simp[fV]at aV
  |live=>rw[hq]at aV;simp[fV]at aV
 have hblk:∀g',blk v=B g'->w1.heap.size<=g'/\g'<w2.heap.size:=by
  intro g' ao;rcases bX.2 with⟨rfl,_⟩|⟨gb,cap,cur,rfl,ea,vR,_⟩
  .simp[blk]at ao
  .simp[blk]at ao;subst ao;exact⟨ea,(jn.1 vR).1⟩
 have pr:w2.ownsRow 0 e (Ty.int .i64).size v (qU xs).length (((qU xs).map (λx=>[Ê .i64 x])).flatten):=by
  have e3:((qU xs).map (λx=>[Ê .i64 x])).flatten=(uD (xs.map λx=>x.1)).map (Ê .i64):=by
   unfold qU;induction uD (xs.map λx=>x.1) with
   |nil=>rfl
   |cons y r ih=>simp only[qq,kx,ih];rfl
  rw[e3,show (qU xs).length=(xs.map λx=>x.1).length from Zj _];refine⟨bX.1,?_⟩;rcases bX.2 with hl|⟨gb,cap,cur,h1,h2,h3⟩
  .exact .inl hl
  .exact .inr ⟨gb,cap,cur,h1,ko _,h3⟩
 have yl:=xN bS gC (w':=w2) (S':=S) (v':=v) (e:=e) BC (el:= .int .i64) (zs:=qU xs) (frz:=U) (css:=(qU xs).map λx=>[Ê .i64 x])
  (λg' o' hs=>⟨hs,Ç (nC.old g' (bS.here g' o' hs))⟩) (λg' ao _=>nC.old g' ao) nC.size
  (λg' ao=>⟨.inl (qw bS.grow (hblk g' ao).1),λk b' aG hk=>by have:=iu (bS.box k b' aG) hk;have:=(hblk g' ao).1;omega,(hblk g' ao).2⟩)
  (λ_ _ h=> .inl h) nC.os nC.tape nC.output pr (by
   generalize qU xs=l
   induction l with
   |nil=>trivial
   |cons y r ih=>exact⟨rfl,ih⟩)
  (λg' ao=>⟨λ_ o' hs=>by have:=bS.here g' o' hs;have:=(hblk g' ao).1;omega,λh=>by simp at h⟩) (λg' ao=>bS.kw_new (hblk g' ao).1)
 obtain⟨eV,lW⟩:=yl;obtain⟨mM,ob⟩:=Bg eV (λi=>IZ i) (vU ir) (s:= .one (.one (.ol ((o2.dst.getD 0)*64)))) (v:=v) lW rfl;exact hn _ _ _ _ mM ob
theorem Zo{P:Â}{E:Env}(gF:∀f t,E.bw f=B t->BwK P f t)(hR:Rel E.N E.np S0 w0 refs σ a w S γ)(hc:cM σ){o:Ä}(hd:jX E.N o=X)
  {σ':St}(h:G8 E σ o=B (X,σ')){next:À->Z->Prop}{Q:Ñ->À->Z->Prop}
  (hn:∀a' w' S' γ',Rel E.N E.np S0 w0 refs σ' a' w' S' γ'->cM σ'->next a' w'):o.wp P a w next Q:=by
 unfold G8 at h;split at h
 case h_2=>simp at h
 rename_i c1 ho;split at h
 case h_2=>simp at h
 rename_i f1 x y eg BA;split at h
 case h_2=>simp at h
 rename_i fG n lP hx hy;split at h
 case h_2=>simp at h
 rename_i e sz ti IW xG;split at h
 case h_2=>simp at h
 rename_i ta bn;split at h
 case isFalse=>simp at h
 rename_i bP;obtain⟨rfl,BC,aV⟩:=bP;simp only[jb,jf,jh,jp]at h;obtain⟨⟨h9,lD⟩,rfl⟩:=h;obtain⟨Zp,dB⟩:Qx P fG e ta.size:=gF _ _ IW;have BD:=jZ hR x;rw[hx]at BD;have Bi:a.eval x = .slice Á 0 0:=BD.1;have Qz:=jZ hR y;rw[hy]at Qz;have Im:a.eval y = .int .i64 n:=rk Qz;have BE:=jZ hR f1;rw[lP]at BE;obtain⟨cv,vJ,lz⟩:=BE.1
 obtain rfl:cv = #[]:=by
  have:cv.toList=[]:=by
   cases hq:cv.toList with
   |nil=>rfl
   |cons=>rw[hq]at lz;exact lz.elim
  exact vg.1 this
 have aE:=AW (w:=w) Zp ho eg vJ;have e1:c1.args.map a.eval ++ #[] = #[.slice Á 0 0,.int .i64 n]:=by apply kr;simp[BA,Bi,Im]
 rw[e1]at aE;unfold Ó;rw[aE,Í];refine(dB w n h9 lD).mono ?_
 rintro r w1 ⟨v,rfl,bX,mE⟩
 have gC:σ.bx ((o.dst.getD 0)*64) = .free:=by
  cases hq:σ.bx ((o.dst.getD 0)*64) with
  |free=>rfl
  |gone=>rw[hq]at aV;simp[fV]at aV
  |live=>rw[hq]at aV;simp[fV]at aV
 have hblk:∀g',blk v=B g'->w.heap.size<=g'/\g'<w1.heap.size:=by
  intro g' ao;rcases bX.2 with⟨rfl,_⟩|⟨gb,cap,cur,rfl,ea,vR,_⟩
  .simp[blk]at ao
  .simp[blk]at ao;subst ao;exact⟨ea,(jn.1 vR).1⟩
 have pr:w1.ownsRow 0 e ta.size v ([]:H ta.den).length (([]:H (H Y)).flatten):=by
  refine⟨bX.1,?_⟩;rcases bX.2 with hl|⟨gb,cap,cur,h1,h2,h3⟩
  .exact .inl hl
  .exact .inr ⟨gb,cap,cur,h1,ko _,h3⟩
 have yl:=xN hR gC (w':=w1) (S':=S) (v':=v) (e:=e) BC (el:=ta) (zs:=[]) (frz:=U) (css:=[])
  (λg' o' hs=>⟨hs,Ç (mE.old g' (hR.here g' o' hs))⟩) (λg' ao _=>mE.old g' ao) mE.size
  (λg' ao=>⟨.inl (qw hR.grow (hblk g' ao).1),λk b' aG hk=>by have:=iu (hR.box k b' aG) hk;have:=(hblk g' ao).1;omega,(hblk g' ao).2⟩)
  (λ_ _ h=> .inl h) mE.os mE.tape mE.output pr trivial
  (λg' ao=>⟨λ_ o' hs=>by have:=hR.here g' o' hs;have:=(hblk g' ao).1;omega,λh=>by simp at h⟩) (λg' ao=>hR.kw_new (hblk g' ao).1)
 obtain⟨eV,lW⟩:=yl;obtain⟨mM,ob⟩:=Bg eV (λi=>hc i) (vU hd) (s:= .one (.one (.ol ((o.dst.getD 0)*64)))) (v:=v) lW rfl;exact hn _ _ _ _ mM ob
theorem QA{P:Â}{E:Env}(hT:ca P E.T)(hC:iQ P E.C)(gF:∀f t,E.bw f=B t->BwK P f t)(hR:Rel E.N E.np S0 w0 refs σ a w S γ)(hc:cM σ){o:Ä}(hd:jX E.N o=X){R:Type}{k:St->O R}{r:R}
  (h:runK E σ o k=B r){next:À->Z->Prop}{Q:Ñ->À->Z->Prop}
  (hn:∀σ' a' w' S' γ',Rel E.N E.np S0 w0 refs σ' a' w' S' γ'->cM σ'->k σ'=B r->next a' w'):o.wp P a w next Q:=by
 unfold runK at h;split at h
 .rename_i c σ' hg;cases c with
  |false=>simp at h
  |true=>exact Zo gF hR hc hd hg (λa' w' S' γ' ct dh=>hn _ _ _ _ _ ct dh h)
 .exact Bj hT hC hR (act:=[]) (λg hg=>by simp at hg) (p:=U) (λ_=>hc) hd h (λσ' a' w' S' γ' ct dh hk=>hn _ _ _ _ _ ct (dh rfl) hk)
theorem I0{P:Â}{E:Env}(hT:ca P E.T)(hC:iQ P E.C)(gF:∀f t,E.bw f=B t->BwK P f t){ops:Ã Ä}(cP:bare ops=X){R:Type}{k:St->O R}{r:R}{Q:Ñ->À->Z->Prop}
  (hn:∀σ' a' w' S' γ',Rel E.N E.np S0 w0 refs σ' a' w' S' γ'->cM σ'->k σ'=B r->Q .normal a' w') :
  ∀(n i:G)(σ:St)(a:À)(w:Z)(S:aM)(γ:G->Y),i+n=ops.size->Rel E.N E.np S0 w0 refs σ a w S γ->cM σ->qZ E (ops.toList.drop i) σ k=B r->
   wpOps P ops Q (ñ i n) a w
 |0,i,σ,a,w,S,γ,hi,hR,hc,h=>by
  rw[jk aN]at h;exact hn _ _ _ _ _ hR hc h
 |1,i,σ,a,w,S,γ,hi,hR,hc,h=>by
  have ay:i<ops.size:=aa;rw[jj (by simpa using ay),jk aN]at h;simp only[qZ]at h;split at h
  .rename_i hd;have ho:ops[i]? = B ops[i]:=jy ay;simp only[vb,wpOps,ho];have hg:ops[i].guard=none:=by have:=jr.1 cP ops[i] af;simpa using this
   have hw:Å ops[i] (yielded ops a.tmps)=true:=by simp[Å,hg]
   simp only[hw,if_true];exact .inl (QA hT hC gF hR hc (by simpa using hd) (by simpa using h) (λσ' a' w' S' γ' ct dh hk=>hn _ _ _ _ _ ct dh hk))
  .simp at h
 |n+2,i,σ,a,w,S,γ,hi,hR,hc,h=>by
  have ay:i<ops.size:=aa;have rS:i+1<ops.size:=aa;rw[jj (by simpa using ay),jj (by simpa using rS)]at h;simp only[qZ]at h;have ho:ops[i]? = B ops[i]:=jy ay;have Be:ops[i+1]? = B ops[i+1]:=jy rS
  have hw:∀(j:G)(hj:j<ops.size)(a:À),Å ops[j] (yielded ops a.tmps)=true:=λj hj a=>by
   have hg:ops[j].guard=none:=by have:=jr.1 cP ops[j] af;simpa using this
   simp[Å,hg]
  split at h
  case isFalse=>simp at h
  rename_i hd;split at h
  .rename_i cq σ' hks;split at h
   case isFalse=>simp at h
   rename_i ir;cases cq with
   |false=>simp at h
   |true=>simp only[jc]at h;simp only[vb,wpOps,ho,Be,hw i ay,hw (i+1) rS,if_true];refine .inl (Zk gF hR hc (by simpa using hd) (by simpa using ir) (by simpa using hks) (λa1 w1 hq=> .inl hq) (λa' w' S' γ' ct dh=>?_));exact I0 hT hC gF cP hn n (i+2) σ' a' w' S' γ' aa ct dh h
  .rw[vb];simp only[wpOps,ho,hw i ay,if_true];refine .inl (QA hT hC gF hR hc (by simpa using hd) (by simpa using h) (λσ' a' w' S' γ' ct dh hk=>?_));refine I0 hT hC gF cP hn (n+1) (i+1) σ' a' w' S' γ' aa ct dh ?_;rw[jj (by simpa using rS)];simpa using hk
theorem Zq{P:Â}{E:Env}(hT:ca P E.T)(hC:iQ P E.C)(gF:∀f t,E.bw f=B t->BwK P f t)(hR:Rel E.N E.np S0 w0 refs σ a w S γ)(hc:cM σ){ops:Ã Ä}{R:Type}{k:St->O R}{r:R}
  {Q:Ñ->À->Z->Prop}(hn:∀σ' a' w' S' γ',Rel E.N E.np S0 w0 refs σ' a' w' S' γ'->cM σ'->k σ'=B r->Q .normal a' w')(h:zJ E ops σ k=B r) :
  wpOps P ops Q (List.range ops.size) a w:=by
 rw[å];unfold zJ at h;split at h
 .rename_i hb;exact I0 hT hC gF hb hn ops.size 0 σ a w S γ aa hR hc (by simpa using h)
 .simp at h
end
theorem Zr{P:Â}{f:G}{t:Ty}(h:BwOK P f t):ItOK P f U t:=by
 refine⟨h.1,λcv l J Je Jx W S fW aL hse Zs hh hY ej ym=>?_⟩;obtain⟨S',Zt,dh⟩:=ej;refine CallsIn.mono (h.2 cv fW.length l (λj S W=>j<=fW.length/\J ((fW.length:Ï)-j) S W) Jx W S (λj S W S' W' hg hs hj=>⟨hj.1,aL _ _ _ _ _ hg hs hj.2⟩) Zs (λj S W hj=>hh _ _ _ hj.2) ?_ ⟨S',fW,rfl,Zt,dh⟩ ⟨ko _,?_⟩) ?_
 .rintro j S W hj ⟨_,hJ⟩
  obtain⟨xs,h1,_,h3⟩:=hY _ _ _ hJ;obtain⟨h4,h5⟩:=h3 (by show decide _=U;exact decide_eq_false aa);have h4:(fW.length:Ï)-j<=Int.ofNat xs.length:=ky h4;have h4:(fW.length:Ï)-j<=(xs.length:Ï):=h4;refine⟨xs,h1,aa,λS' W' x v hg hs hx hv=>?_⟩
  have I1:All2 (VRep S' W') (zQ U t xs ((fW.length:Ï)-j)) [.int .i64 ((fW.length-1-j:G):Ï),v]:=by
   refine⟨⟨?_,λhm=>absurd hm (show¬gK (.int .i64)=X by decide),λ_=>rfl⟩,?_,trivial⟩
   .show [Ê .i64 ((fW.length-1-j:G):Ï)]=[Ê .i64 ((fW.length:Ï)-j-1)];rw[show ((fW.length-1-j:G):Ï)=(fW.length:Ï)-j-1 by omega]
   .have e:List.getD xs ((fW.length:Ï)-j-1).toNat t.dflt=x:=by rw[show ((fW.length:Ï)-j-1).toNat=fW.length-1-j by omega];simp[List.getD,hx]
    rw[e];exact hv
  obtain⟨fn,tmps,as,bo,hy,hR⟩:=h5 S' W' _ hg hs I1;refine⟨fn,tmps,as,bo,hy,hR.mono λe W' he=>?_⟩;rcases he with⟨h6,S6,h7⟩|h6
  .refine .inl ⟨h6,S6,aa,?_⟩;have e2:zP U ((fW.length:Ï)-j)=(fW.length:Ï)-((j+1:G):Ï):=by show (fW.length:Ï)-j-1=_;omega
   rw[<-e2];exact h7
  .exact .inr h6
 .have:((fW.length:Ï)-((0:G):Ï))=zO U fW.length:=by show _=Int.ofNat fW.length;simp
  rw[this];exact ym
 .rintro e W' ⟨hv,⟨S',_,hJ⟩|hx⟩
  .obtain⟨xs,_,h2,_⟩:=hY _ _ _ hJ;exact⟨hv,.inl (h2 (by show decide _=X;exact vv aa))⟩
  .exact⟨hv,.inr hx⟩
def Eu(P:Â)(E:Env)(ro:O G)(c:Ò):Prop:=
 ∀(b n:G){S0:aM}{w0:Z}{refs:Refs}{σ:St}{a:À}{w:Z}{S:aM}{γ:G->Y}{R:Type}{k:Ex->St->O R}{r:R},yk w0 refs->
  (∀x∈dP b c,yj E x.1 x.2/\MrOK E x.1 x.2)->Rel E.N E.np S0 w0 refs σ a w S γ->cM σ->eD E b c σ k=B r->c.wpIn (FR ro) n P (Post E S0 w0 refs (dn c) k r) a w
theorem tW:∀(c:Ò)(b:G),dn c=X->dP b c=[]
 |.seq x y,b,h=>by simp only[dn,jh]at h;simp[dP,tW x b h.1,tW y b h.2]
 |.cond _ x y,b,h=>by simp only[dn,jh]at h;simp[dP,tW x b h.1,tW y b h.2]
 |.block id c,b,h=>by simp only[dn]at h;simp[dP,tW c id h]
 |.loop c,b,h=>by simp[dn]at h
 |.rangeFunc _ _ _ _,b,h=>by simp[dn]at h
 |.skip,_,_=>rfl
 |.region _ _ _,_,_=>rfl
 |.exit _,_,_=>rfl
 |.goto _,_,_=>rfl
 |.label _,_,_=>rfl
 |.ret,_,_=>rfl
 |.scope c,b,h=>by simp only[dn]at h;simp[dP,tW c b h]
theorem QB:∀(L:H (G×Y))(T:Ã Y),nP (L.map (·.1))=X->(∀q∈L,q.1<T.size)->
  (∀q∈L,(L.foldl (λt (q:G×Y)=>t.setIfInBounds q.1 q.2) T).getD q.1 undef=q.2)/\(∀i,i∉L.map (·.1)->(L.foldl (λt (q:G×Y)=>t.setIfInBounds q.1 q.2) T).getD i undef=T.getD i undef)/\
  (L.foldl (λt (q:G×Y)=>t.setIfInBounds q.1 q.2) T).size=T.size
 |[],T,_,_=>⟨λq h=>by simp at h,λ_ _=>rfl,rfl⟩
 |q::r,T,hn,hb=>by
  simp only[qq,nP,jh,qb,qe,kg]at hn;obtain⟨h1,h2,h3⟩:=QB r (T.setIfInBounds q.1 q.2) hn.2 (λp hp=>by simpa using hb p (by simp[hp]));have hq:=hb q af;refine⟨λp hp=>?_,λi hi=>?_,by simpa using h3⟩
  .rcases jm.1 hp with rfl|hp
   .show (List.foldl (λt (q:G×Y)=>t.setIfInBounds q.1 q.2) (T.setIfInBounds p.1 p.2) r).getD p.1 undef=_;rw[h2 p.1 hn.1];simp[Array.getD,hq]
   .exact h1 p hp
  .simp only[qq,jm,not_or]at hi;show (List.foldl (λt (q:G×Y)=>t.setIfInBounds q.1 q.2) (T.setIfInBounds q.1 q.2) r).getD i undef=_;rw[h2 i hi.2];rw[za,Array.getElem?_setIfInBounds,if_neg (λh=>hi.1 h.symm),<-za]
theorem QC{N:NT}{np:G}:∀(L:H (G×TV)){σ:St},Rel N np S0 w0 refs σ a w S γ->cM σ->(∀q∈L,VRep S w q.2 (tm a q.1))->Rel N np S0 w0 refs (setL L σ) a w S γ/\cM (setL L σ)
 |[],_,hR,hc,_=>⟨hR,hc⟩
 |q::r,σ,hR,hc,hv=>by
  have h1:=Iq hR (s:=q.1) (x:= .one (mV q.2.t q.2.v)) (xU (hv q af));refine QC r h1 (λi=>?_) (λp hp=>hv p (by simp[hp]));simp only[St.setS];split
  .rfl
  .exact hc i
theorem QD{S:aM}{w:Z}:∀{ps:H G}{xs:H TV}{vs:H Y},All2 (VRep S w) xs vs->∀q∈ps.zip xs,∃v,(q.1,v)∈ps.zip vs/\VRep S w q.2 v
 |[],_,_,_,q,h=>by simp at h
 |p::ps,[],vs,_,q,h=>by simp at h
 |p::ps,x::xs,[],h2,q,h=>h2.elim
 |p::ps,x::xs,v::vs,h2,q,h=>by
  simp only[Ø,jm]at h;rcases h with rfl|h
  .exact⟨v,af,h2.1⟩
  .obtain⟨u,h3,h4⟩:=QD h2.2 q h;exact⟨u,by simp[h3],h4⟩
theorem QE:∀(ps:H G)(vs:H Y),nP ps=X->nP ((ps.zip vs).map (·.1))=X
 |[],_,_=>by simp[nP]
 |p::ps,[],_=>by simp[nP]
 |p::ps,v::vs,h=>by
  simp only[nP,jh,qb,qe,kg,Ø,qq]at h ⊢;refine⟨λhm=>h.1 ?_,QE ps vs h.2⟩;obtain⟨q,hq,he⟩:=qg.1 hm;rw[<-he];exact(ß hq).1
theorem Zu{kd:Æ}{t:Ty}{xs:H t.den}{c:Ï}(h:kd=X->t=segT):(zQ kd t xs c).length=cond kd 1 2:=by
 cases kd with
 |false=>rfl
 |true=>have:=h rfl;subst this;rfl
theorem Zv{P:Â}{E:Env}(gF:∀f t,E.bw f=B t->BwK P f t)(kR:E.N.pin=λ_=>U){b n:G}{g:Ô}{ps:Ã G}{x y:Ò}
  (pt:∀l,dn x=X->Eu P (E.rnd ps x y) (B l) x)(pw:∀l,dn y=X->Eu P (E.rnd ps x y) (B l) y)
  (Zw:yj E b (.rangeFunc g ps x y)){R:Type}{k:Ex->St->O R}{r:R}(hm:yk w0 refs)(hR:Rel E.N E.np S0 w0 refs σ a w S γ)(hc:cM σ)
  (h:eD E b (.rangeFunc g ps x y) σ k=B r) :
  (Code.rangeFunc g ps x y).wpIn (FR Á) n P (Post E S0 w0 refs (dn (.rangeFunc g ps x y)) k r) a w:=by
 refine Za (n:=1) ?_;simp only[eD]at h;split at h
 case h_2=>simp at h
 rename_i f t xs lC;split at h
 case h_2=>simp at h
 rename_i kd bA;split at h
 case h_2=>simp at h
 rename_i s hs;obtain⟨Zx,e,s',BG,hk⟩:=Zw _ R _ r h;have bB:=jZ hR g;rw[lC]at bB;obtain⟨⟨cv,QF,lz⟩,_⟩:=bB;obtain⟨S1,γ1,bm,eg⟩:=tM hR hc hs
 have parts:∀f t kd,rfK E b f t ps x y=B kd->E.bw f=B (kd,t)/\(kd=X->t=segT)/\ps.toList.length=cond kd 1 2/\nP ps.toList=X/\(∀p∈ps.toList,p<E.N.n)/\dn x=X/\dn y=X/\pinK ps x y (E.keep b)=true:=by
  intro f t kd bA;unfold rfK at bA;split at bA
  case h_2=>simp at bA
  rename_i q hq;cases px:(decide (q.2=t)&&(cond q.1 (decide (t=segT)) X&&(decide (ps.toList.length=cond q.1 1 2)&&(nP ps.toList&&(ps.toList.all (λp=>decide (p<E.N.n))&&(dn x&&(dn y&&pinK ps x y (E.keep b)))))))) with
  |false=>rw[px]at bA;simp at bA
  |true=>
  rw[px,jc,jb]at bA;subst bA;simp only[jh,jp,jr]at px;obtain⟨h1,h0,h2,h3,h4,h5,h6,h7⟩:=px;exact⟨by rw[hq,<-h1],λhk=>by rw[hk]at h0;exact ky h0,h2,h3,h4,h5,h6,h7⟩
 obtain⟨xY,QG,h2,dA,ay,wj,wk,QH⟩:=parts f t kd bA;obtain⟨⟨QI,I2,tX,bO⟩,yf⟩:=(gF f _ xY).it QG
 have Zy:∀args w,(callFunc f args).run P w = .ok (.enter f args) w:=λargs w=>by
  have jA:¬QI.body=none:=λhn=>by rw[hn]at tX;simp at tX
  have tE : ¬ QI.name = "runtime.NumGoroutine" := by simpa using bO
  simp[callFunc,I2,jA,tE]
 refine wpIn_rangeFunc λfn _=>?_;obtain⟨rec,fB⟩:∃rec:LoopState->O Ò->Loop,rec=λst pe=>{ state:=st,pending:=pe,fn,tmps:=a.tmps,params:=ps,assign:=x,body:=y,defers:=w.heap.size }:=⟨_,rfl⟩;obtain⟨W1,yn⟩:∃W1,(w.alloc (.deferred (B []))).alloc (.loop (rec .ready Á))=W1:=⟨_,rfl⟩
 refine⟨w.heap.size+1,[{ target:= .collected w.heap.size,args:=#[] }],W1,{ target:= .fn (.func f) cv,args:=#[.func (.yield (w.heap.size+1)) #[] #[]] },W1,f,
  #[.func (.yield (w.heap.size+1)) #[] #[]]++cv,W1,?_,?_,λ_ _=>trivial,?_,λhd=>by simp[FR,Ú]at hd,?_⟩
 .rw[<-yn,fB];exact run_enterLoop_outer _ _ _ _ _
 .simp only[resolve,QF];simp[go_sem]
 .simp[invoke,go_sem,Zy]
 obtain⟨l,hl⟩:∃l,l=w.heap.size+1:=⟨_,rfl⟩;rw[<-hl];let cb:(G->O Y)->Obj->Refs:=λfx o=>{ blks:=refs.blks,val:=refs.val,ds:=[],kw:=λg=>if g=l then B o else if g=w.heap.size then B (.deferred (B [])) else refs.kw g,fix:=fx,mv:=refs.mv }
 let fx:G->O Value:=λi=>if xA ps x y i then B (a.tmps.getD i undef) else Á
 let aI:Go.Act:={ tmps:=a.tmps,defers:=[] }
 have lE:∀fx o,(cb fx o).kw l=B o:=λfx o=>by simp[cb]
 have Ev:w0.heap.size<=l:=by have:=hR.grow;omega
 have bk:∀fx o,yk w0 (cb fx o):=λfx o=>⟨ã,λd hd=>by simp[cb]at hd⟩
 have kM:∀{N:NT}{fx:G->O Y}{o o':Obj}{σ:St}{a:À}{W:Z}{S:aM}{γ:G->Y},o.isCells=U->o'.isCells=U->Rel N E.np S0 w0 (cb fx o) σ a W S γ->
   Rel N E.np S0 w0 (cb fx o') σ a (W.putObj l o') S γ:=by
  intro N fx o o' σ a W S γ h1 h2 hR;have:=hR.putO (lE fx o) Ev h1 h2;refine this.swap rfl rfl this.size this.defers this.slot (λg u hg=>this.kept g u ?_) this.fix;simp only[cb]at hg ⊢;split
  .rename_i e;subst e;simpa using hg
  .rename_i e;simpa[e]using hg
 have py:∀{N N':NT}{fx I3:G->O Y}{o:Obj}{K:Keep}{s:Snap}{a a':À}{W:Z}{S:aM}{γ:G->Y},Rel N E.np S0 w0 (cb fx o) (cR E.np K s) a W S γ->a'.tmps.size=N'.n->a'.defers=[]->
   (∀i∈K.slots,tm a' i=tm a i)->(∀i v,I3 i=B v->N'.pin i=X/\a'.tmps.getD i undef=v)->Rel N' E.np S0 w0 (cb I3 o) (cR E.np K s) a' W S γ:=by
  intro N N' fx I3 o K s a a' W S γ hR h1 h2 h3 h4;exact hR.frame rfl rfl h1 h2 h3 (λg u hg=>hR.kept g u hg) h4
 have pz:∀i v,(λ_=>Á:G->O Y) i=B v->E.N.pin i=X/\aI.tmps.getD i undef=v:=λi v h=>by simp at h
 let J:Ï->aM->Z->Prop:=λc S W=>∃s γ fu,Rel E.N E.np S0 w0 (cb (λ_=>Á) (.loop (rec .ready Á))) (cR E.np (E.keep b) s) aI W S γ/\cM (cR E.np (E.keep b) s)/\
  loopN (xB E b g ps x y) fu (.s (.one (.d (.int .i64) c))::s)=B (e,s')
 let Je:Z->Prop:=λW=>∃S γ,Rel E.N E.np S0 w0 (cb (λ_=>Á) (.loop (rec .ready Á))) (cR E.np (E.keepX b e) s') aI W S γ/\cM (cR E.np (E.keepX b e) s')/\e = .normal
 let Jx:Z->Prop:=λW=>∃S γ c,Rel E.N E.np S0 w0 (cb (λ_=>Á) (.loop (rec .done (B c)))) (cR E.np (E.keepX b e) s') aI W S γ/\cM (cR E.np (E.keepX b e) s')/\
  ((e = .ret/\c = .ret)\/∃i,e = .exit i/\c = .exit i)
 have tY:∀K:Keep,pinK ps x y K=X->∀i∈K.slots,xA ps x y i=true:=λK hK i hi=>jr.1 hK i hi;have tZ:∀i,xA ps x y i=X->i∉ps.toList:=by intro i hi;simp only[xA,jh,qb,qe,kg]at hi;exact hi.1
 have ym:J (zO kd xs.length) S1 W1:=by
  refine⟨s,γ1,Zx,?_,eg,BG⟩;have hA:=(bm.allocO (.deferred (B []))).allocO (.loop (rec .ready Á));rw[yn]at hA;refine hA.frame rfl rfl hR.size rfl (λi _=>rfl) (λg' u ao=>?_) pz;simp only[cb]at ao;split at ao
  .rename_i e';simp only[jb]at ao;subst ao;rw[e',hl];refine⟨?_,λk' b' aG cC=>?_⟩
   .rw[<-yn];have:=ç (w.alloc (.deferred (B []))) (.loop (rec .ready Á));rwa[World.size_alloc]at this
   .have:=iu (bm.box k' b' aG) cC;omega
  .split at ao
   .rename_i _ e';simp only[jb]at ao;subst ao;rw[e'];refine⟨?_,λk' b' aG cC=>?_⟩
    .rw[<-yn];exact(heap_alloc_old _ _ af).trans (ç w _)
    .have:=iu (bm.box k' b' aG) cC;omega
   .exact hA.kept g' u ao
 have Zz:aI.eval g=a.eval g:=by cases g<;>rfl
 have I4:aI.tmps.size=E.N.n:=hR.size
 have BH:∀{K:Keep}{s:Snap}{o:Obj}{W W':Z}{S:aM}{γ:G->Y},Grew W W'->Rel E.N E.np S0 w0 (cb (λ_=>Á) o) (cR E.np K s) aI W S γ->Rel E.N E.np S0 w0 (cb (λ_=>Á) o) (cR E.np K s) aI W' S γ:=
  λhg h1=>h1.grew hg ⟨λ_ _ h=>h,λ_ _ h=> .inl h,λg o h=>qx (h1.here g o h) hg.size⟩
 refine CallsIn.mono (yf cv l J Je Jx W1 S1 xs (λc S W S' W' hg hs ⟨s,γ,fu,h1,h2,h3⟩=>⟨s,γ,fu,h1.grew hg hs,h2,h3⟩) (λW W' hg ⟨S,γ,h1,h2⟩=>⟨S,γ,BH hg h1,h2⟩) (λW W' hg ⟨S,γ,c,h1,h2⟩=>⟨S,γ,c,BH hg h1,h2⟩)
  (λc S W ⟨s,γ,fu,h1,_⟩=>h1.here) ?_ ?_ ym) ?_
 ·-- a round
  rintro cn S W ⟨s,γ,fu,yo,QJ,qM⟩
  cases fu with
  |zero=>simp[loopN]at qM
  |succ fu=>
  simp only[loopN]at qM;cases aL:xB E b g ps x y (.s (.one (.d (.int .i64) cn))::s) with
  |none=>rw[aL]at qM;simp at qM
  |some r0=>
  rw[aL]at qM;unfold xB zU at aL;dsimp only at aL;split at aL
  case h_2=>simp at aL
  rename_i f' t' cE I5;split at aL
  case h_2=>simp at aL
  rename_i ZA ny;have kG:=jZ yo g;rw[I5,Zz,QF]at kG;obtain⟨⟨cv',BI,ej⟩,_⟩:=kG;simp only[Value.func.injEq,Fn.func.injEq,kn]at BI;obtain⟨rfl,rfl⟩:=BI;have ht:=(parts f t' ZA ny).1;rw[xY]at ht;simp only[jb,jf]at ht;obtain⟨rfl,rfl⟩:=ht;refine⟨cE,ej,λI6=>?_,λI6=>?_⟩
  .rw[I6,jc]at aL;cases nD:pinK ps x y (E.keepX b .normal) with
   |false=>rw[nD]at aL;simp at aL
   |true=>
   rw[nD,jc]at aL;split at aL
   case h_2=>simp at aL
   rename_i s3 ZB;simp only[jb]at aL;subst aL;simp only[jb,jf]at qM;obtain⟨rfl,rfl⟩:=qM;obtain⟨S5,γ5,mN,BJ⟩:=tM yo QJ ZB;exact⟨S5,γ5,mN,BJ,rfl⟩
  rw[I6,jd]at aL;cases hle:itOk kd cE.length cn with
  |false=>rw[hle]at aL;simp at aL
  |true=>
  rw[hle,jc]at aL;refine⟨rfl,λSg Wg vs ZC qN gD=>?_⟩;have yo:=yo.grew ZC qN;have tt:vs.toArray.size=ps.size:=by have e1:=gD.length;rw[Zu QG]at e1;simp only[zv];rw[<-e1,<-h2,qh]
  refine⟨fn,_,x,y,by have:=run_yield (P:=P) (args:=vs.toArray) (yo.kept l _ (lE _ _)).1 (by rw[fB];exact tt);rw[fB]at this;exact this,roundIn_of_wpIn trivial ?_⟩;let a1:Go.Act:={ tmps:=(ps.zip vs.toArray).foldl (λt (q:G×Y)=>t.setIfInBounds q.1 q.2) a.tmps,defers:=[] }
  have eN:(ps.zip vs.toArray).toList=ps.toList.zip vs:=af;have BA:a1.tmps=(ps.toList.zip vs).foldl (λt (q:G×Y)=>t.setIfInBounds q.1 q.2) a.tmps:=by show (ps.zip vs.toArray).foldl _ _=_;rw[<-Array.foldl_toList,eN]
  have dY:∀i,i∈(ps.toList.zip vs).map (·.1)->i∈ps.toList:=λi hi=>by
   obtain⟨q,hq,rfl⟩:=qg.1 hi;exact(ß hq).1
  have I7:nP ((ps.toList.zip vs).map (·.1))=true:=QE _ _ dA;obtain⟨Ea,iO,QK⟩:=QB (ps.toList.zip vs) a.tmps I7 (λq hq=>by rw[hR.size];exact ay _ (ß hq).1);rw[<-BA]at Ea iO QK;have I8:a1.tmps.size=E.N.n:=QK.trans hR.size;have wa:∀i,i∉ps.toList->tm a1 i=tm aI i:=λi hi=>iO i (λh=>hi (dY i h))
  have ZD:Rel (E.rnd ps x y).N E.np S0 w0 (cb fx (.loop (rec .ready Á))) (cR E.np (E.keep b) s) a1 Wg Sg γ:=py yo I8 rfl (λi hi=>wa i (tZ i (tY _ QH i hi))) (λi u hu=>by
   simp only[fx]at hu;split at hu
   .rename_i hp;simp only[jb]at hu;refine⟨hp,?_⟩;show tm a1 i=u;rw[wa i (tZ i hp)];exact hu
   .simp at hu)
  obtain⟨ZE,oU⟩:=QC (ps.toList.zip (zQ kd t cE cn)) ZD QJ (λq hq=>by
   obtain⟨v,h3,h4⟩:=QD gD q hq;have:=Ea _ h3;show VRep Sg Wg q.2 (a1.tmps.getD q.1 undef);rw[this];exact h4)
  refine wpIn_mono (pt l wj 0 0 (bk _ _) (by rw[tW x 0 wj];simp) ZE oU aL) ?_
  rintro e1 a2 w2 ⟨fy,ex,σ2,S2,γ2,_,fa,rfl,bS,fp,eb⟩
  have:=fa wj;subst this;cases ex with
  |exit i=>simp at eb
  |ret=>simp at eb
  |normal=>
  refine⟨_,run_beginRound (bS.kept l _ (lE _ _)).1 (by rw[fB]),?_⟩;have eV:Rel (E.rnd ps x y).N E.np S0 w0 (cb fx (.loop (rec .busy Á))) σ2 a2 (w2.putObj l (.loop { rec .ready Á with state:= .busy })) S2 γ2:=by have:=kM (o':= .loop (rec .busy Á)) rfl rfl bS;rw[fB]at this ⊢;exact this
  refine wpIn_mono (pw l wk 0 0 (bk _ _) (by rw[tW y 0 wk];simp) eV fp eb) ?_
  rintro e1 a3 w3 ⟨QL,ex,σ3,S3,γ3,_,fa,rfl,mM,ob,wm⟩
  have:=fa wk;subst this
  have kS:∀{K:Keep}{s:Snap}{o:Obj}{W:Z}{S:aM}{γ:G->Y},pinK ps x y K=X->Rel (E.rnd ps x y).N E.np S0 w0 (cb fx o) (cR E.np K s) a3 W S γ->
    Rel E.N E.np S0 w0 (cb (λ_=>Á) o) (cR E.np K s) aI W S γ:=λhK hR=>py hR I4 rfl (λi hi=>by
   have:=(hR.fix i (a.tmps.getD i undef) (by simp only[cb,fx];rw[if_pos (tY _ hK i hi)])).2;exact this.symm) pz
  have pA:∀(ex:Ex)(c:Ò),((ex = .ret/\c = .ret)\/∃i,ex = .exit i/\c = .exit i)->
    (cond (pinK ps x y (E.keepX b ex)) (match il E.np (E.keepX b ex) σ3 with
     |some s'=>B (Sum.inr (ex,s'))
     |none=>Á) Á:O (Snap ⊕ Ex×Snap))=B r0->
    ∃v w',(û l (B c)).run P w3 = .ok v w'/\((Î v = .returned (.bool X)/\∃S',J (zP kd cn) S' w')\/(Î v = .returned (.bool U)/\Jx w')):=by
   intro ex c hex pB;cases nD:pinK ps x y (E.keepX b ex) with
   |false=>rw[nD]at pB;simp at pB
   |true=>
   rw[nD,jc]at pB;split at pB
   case h_2=>simp at pB
   rename_i s2 kC;simp only[jb]at pB;subst pB;simp only[jb,jf]at qM;obtain⟨rfl,rfl⟩:=qM;obtain⟨S5,γ5,mN,BJ⟩:=tM mM ob kC;refine⟨_,_,run_endRound (B c) (mN.kept l _ (lE _ _)).1,.inr ⟨rfl,S5,γ5,c,?_,BJ,hex⟩⟩;have:=kM (o':= .loop (rec .done (B c))) rfl rfl (kS nD mN);rw[fB]at this ⊢;exact this
  cases ex with
  |normal=>
   dsimp only at wm
   split at wm
   case h_2=>simp at wm
   rename_i s2 kC;simp only[jb]at wm;subst wm;obtain⟨S5,γ5,mN,BJ⟩:=tM mM ob kC;show∃v w',(û l Á).run P w3 = .ok v w'/\_;refine⟨_,_,run_endRound Á (mN.kept l _ (lE _ _)).1,.inl ⟨rfl,S5,s2,γ5,fu,?_,BJ,?_⟩⟩
   .have:=kM (o':= .loop (rec .ready Á)) rfl rfl (kS QH mN);rw[fB]at this ⊢;exact this
   .exact qM
  |exit i=>exact pA _ _ (.inr ⟨i,rfl,rfl⟩) wm
  |ret=>exact pA _ _ (.inl ⟨rfl,rfl⟩) wm
 .refine⟨S,λg o h=>by rw[<-yn];have:=hR.here g o h;simp;omega,lz.mono λx z hx=>?_⟩;rw[<-yn]
  exact iq.keep (λg o h=>⟨h,by
   have:=hR.here g o h;rw[è _ _ _ aN,è _ _ _ this]⟩) hx
 .rintro e2 W2 ⟨⟨v,rfl⟩,kQ⟩
  have kS:∀{K:Keep}{s:Snap}{o:Obj}{W:Z}{S:aM}{γ:G->Y},Rel E.N E.np S0 w0 (cb (λ_=>Á) o) (cR E.np K s) aI W S γ->
    ∃refs',tT w0 refs refs'/\Rel E.N E.np S0 w0 refs' (cR E.np K s) { a with defers:=[{ target:= .collected w.heap.size,args:=#[] }]++a.defers } W S γ:=by
   intro K s o W S γ QM;refine⟨{ blks:=refs.blks,val:=refs.val,ds:={ target:= .collected w.heap.size,args:=#[] }::refs.ds,kw:=λg=>if g=w.heap.size then B (.deferred (B [])) else refs.kw g,fix:=refs.fix,mv:=refs.mv },⟨rfl,rfl,rfl,⟨?_,?_⟩,rfl⟩,?_⟩
   .refine qt.2 ⟨λic=>?_,hm.1⟩;obtain⟨D,hD,_,QN⟩:=hm.2 _ ic;simp only[Deferred.mk.injEq,Target.collected.injEq,vq]at hD;rw[<-hD,hR.kw_new (jz _)]at QN;simp at QN
   .intro d hd;rcases jm.1 hd with rfl|hd
    .exact⟨w.heap.size,rfl,hR.grow,af⟩
    .obtain⟨D,rfl,h1,h2⟩:=hm.2 d hd;refine⟨D,rfl,h1,?_⟩;show (if D=w.heap.size then _ else refs.kw D)=_;rw[if_neg,h2]
     rintro rfl
     rw[hR.kw_new (jz _)]at h2;simp at h2
   .refine QM.frame rfl rfl hR.size (by rw[hR.defers];rfl) (λi _=>rfl) (λg' u ao=>QM.kept g' u ?_) (λi v hv=>?_)
    .simp only[cb]at ao ⊢;by_cases h1:g'=l
     .exfalso;subst h1;rw[if_neg aa,hR.kw_new aa]at ao;simp at ao
     .rw[if_neg h1];exact ao
    .have:=(hR.fix i v hv).1;rw[kR]at this;simp at this
  rcases kQ with⟨S2,γ2,rT,ZG,rfl⟩|⟨S2,γ2,c,rJ,tp,hex⟩
  .refine⟨Á,_,by have:=run_endLoop (P:=P) (rT.kept l _ (lE _ _)).1 (by rw[fB];simp);rw[fB]at this;exact this,?_⟩;have ua:=kM (o':= .loop { rec .ready Á with state:= .exhausted }) rfl rfl rT;obtain⟨refs',hle,rT⟩:=kS ua;rw[fB]at rT;exact⟨refs',.normal,_,S2,γ2,hle,λhf=>by simp[dn]at hf,rfl,rT,ZG,hk⟩
  .have ua:=kM (o':= .loop { rec .done (B c) with state:= .exhausted }) rfl rfl rJ;obtain⟨refs',hle,rT⟩:=kS ua;refine⟨B c,_,by have:=run_endLoop (P:=P) (rJ.kept l _ (lE _ _)).1 (by rw[fB];simp);rw[fB]at this;exact this,?_⟩;rw[fB]at rT;rcases hex with⟨rfl,rfl⟩|⟨i,rfl,rfl⟩
   .exact wpIn_ret ⟨refs',.ret,_,S2,γ2,hle,λhf=>by simp[dn]at hf,rfl,rT,tp,hk⟩
   .exact wpIn_exit ⟨refs',.exit i,_,S2,γ2,hle,λhf=>by simp[dn]at hf,rfl,rT,tp,hk⟩
def MrS(P:Â)(yp:G->O (G×G)):Prop:=
 ∀{E:Env},E.mr=yp->ca P E.T->iQ P E.C->CFun E.C->(∀f t,E.bw f=B t->BwK P f t)->(E.N.pin=λ_=>U)->
  ∀(x y:Ò)(b n:G)(pl:Æ){S0:aM}{w0:Z}{refs:Refs}{σ:St}{a:À}{w:Z}{S:aM}{γ:G->Y}{R:Type}{k:Ex->St->O R}{r:R},yk w0 refs->
   (∀z∈dP b y,MrOK E z.1 z.2)->Rel E.N E.np S0 w0 refs σ a w S γ->cM σ->zS E x y=X->zT E x y σ k=B r->(Code.seq x y).wpIn (FR Á) n P (Post E S0 w0 refs pl k r) a w
theorem ZH{E:Env}{x y:Ò}(h:zS E x y=X):dn (.seq x y)=false:=by
 unfold zS at h;split at h
 .simp[dn]
 .simp at h
theorem ZI{P:Â}(gX:P.follows .mixedOrders=X){yp:G->O (G×G)}(I9:MrS P yp):∀(c:Ò){E:Env}{ro:O G},ca P E.T->iQ P E.C->CFun E.C->E.mr=yp->
  (∀f t,E.bw f=B t->BwK P f t)->(dn c=X\/(ro=Á/\E.N.pin=λ_=>U))->Eu P E ro c:=by
 intro c;induction c with
 |skip=>intro E ro hT hC hF hE fH hp b n S0 w0 refs σ a w S γ R k r hm hL hR hc h;exact wpIn_skip ⟨refs,.normal,σ,S,γ,⟨rfl,rfl,rfl,hm,rfl⟩,λ_=>rfl,rfl,hR,hc,h⟩
 |label l=>intro E ro hT hC hF hE fH hp b n S0 w0 refs σ a w S γ R k r hm hL hR hc h;exact wpIn_label ⟨refs,.normal,σ,S,γ,⟨rfl,rfl,rfl,hm,rfl⟩,λ_=>rfl,rfl,hR,hc,h⟩
 |region Ja ops draw=>
  intro E ro hT hC hF hE fH hp b n S0 w0 refs σ a w S γ R k r hm hL hR hc h
  have Jb:ro=Á\/∀o∈ops.toList,∀c,o.op ≠ .defer c:=hp.elim (λhp=> .inr λo ho c hd=>by
   have:=jr.1 hp o ho;simp[Oc,hd]at this) λh=> .inl h.1
  cases draw with
  |true=>simp only[eD]at h;obtain⟨σ,S,γ,hR,hc,h⟩:=IU hR hc h;exact wpIn_region_any gX (Er Jb IV _ _ _ _ (Y7 hT hC hF hR hc (λσ' a' w' S' γ' ct dh hk=>⟨refs,.normal,σ',S',γ',⟨rfl,rfl,rfl,hm,rfl⟩,λ_=>rfl,rfl,ct,dh,hk⟩) h))
  |false=>
   simp only[eD]at h;obtain⟨σ,S,γ,hR,hc,h⟩:=IU hR hc h;cases hks:E.ks Ja with
   |true=>rw[hks,jc]at h;exact wpIn_region (yg Jb IV _ _ _ (Zq hT hC fH hR hc (λσ' a' w' S' γ' ct dh hk=>⟨refs,.normal,σ',S',γ',⟨rfl,rfl,rfl,hm,rfl⟩,λ_=>rfl,rfl,ct,dh,hk⟩) h))
   |false=>rw[hks,jd]at h;exact wpIn_region (yg Jb IV _ _ _ (PS hT hC hR hc (λσ' a' w' S' γ' ct dh hk=>⟨refs,.normal,σ',S',γ',⟨rfl,rfl,rfl,hm,rfl⟩,λ_=>rfl,rfl,ct,dh,hk⟩) h))
 |seq x y pt pw=>
  intro E ro hT hC hF hE fH hp b n S0 w0 refs σ a w S γ R k r hm hL hR hc h;simp only[eD]at h;cases Ew:zS E x y with
  |true=>rw[Ew,jc]at h;obtain⟨rfl,kR⟩:=hp.resolve_left (by rw[ZH Ew];simp);exact I9 hE hT hC hF fH kR x y b n _ hm (λz hz=>(hL z (by simp[dP,hz])).2) hR hc Ew h
  |false=>
  rw[Ew,jd]at h;have wj:dn x=X\/(ro=Á/\E.N.pin=λ_=>U):=hp.imp (λh=>by simp only[dn,jh]at h;exact h.1) id;have wk:dn y=X\/(ro=Á/\E.N.pin=λ_=>U):=hp.imp (λh=>by simp only[dn,jh]at h;exact h.2) id;refine wpIn_seq (wpIn_mono (pt hT hC hF hE fH wj b n hm (λz hz=>hL z (by simp[dP,hz])) hR hc h) ?_)
  rintro e a' w' ⟨refs',ex,σ',S',γ',hle,fa,rfl,ct,dh,hk⟩
  have hx:dn (.seq x y)=X->refs'=refs:=λh=>by simp only[dn,jh]at h;exact fa h.1
  cases ex with
  |normal=>
   refine wpIn_mono (pw hT hC hF hE fH wk b n hle.marks (λz hz=>hL z (by simp[dP,hz])) ct dh hk) ?_
   rintro e2 a2 w2 ⟨fy,ex,σ2,S2,γ2,dV,Jc,rfl,bS,fp,eb⟩
   refine⟨fy,ex,σ2,S2,γ2,hle.trans dV,λh=>?_,rfl,bS,fp,eb⟩;have h1:=hx h;simp only[dn,jh]at h;rw[Jc h.2,h1]
  |exit i=>exact⟨refs',.exit i,σ',S',γ',hle,hx,rfl,ct,dh,hk⟩
  |ret=>exact⟨refs',.ret,σ',S',γ',hle,hx,rfl,ct,dh,hk⟩
 |cond c x y pt pw=>
  intro E ro hT hC hF hE fH hp b n S0 w0 refs σ a w S γ R k r hm hL hR hc h;simp only[eD]at h;have wj:dn x=X\/(ro=Á/\E.N.pin=λ_=>U):=hp.imp (λh=>by simp only[dn,jh]at h;exact h.1) id;have wk:dn y=X\/(ro=Á/\E.N.pin=λ_=>U):=hp.imp (λh=>by simp only[dn,jh]at h;exact h.2) id;split at h
  .rename_i v hv;have lC:=jZ hR c;rw[hv]at lC;have ZJ:a.eval c = .bool v:=qA lC;refine wpIn_cond ZJ ?_;cases v with
   |true=>
    rw[jc,Ob hv]at h;refine wpIn_mono (pt hT hC hF hE fH wj b n hm (λz hz=>hL z (by simp[dP,hz])) hR hc h) ?_
    rintro e a' w' ⟨refs',ex,σ',S',γ',hle,fa,he,hr⟩
    exact⟨refs',ex,σ',S',γ',hle,λh=>by simp only[dn,jh]at h;exact fa h.1,he,hr⟩
   |false=>
    rw[jd,Ob hv]at h;refine wpIn_mono (pw hT hC hF hE fH wk b n hm (λz hz=>hL z (by simp[dP,hz])) hR hc h) ?_
    rintro e a' w' ⟨refs',ex,σ',S',γ',hle,fa,he,hr⟩
    exact⟨refs',ex,σ',S',γ',hle,λh=>by simp only[dn,jh]at h;exact fa h.2,he,hr⟩
  .simp at h
 |block id c ih=>
  intro E ro hT hC hF hE fH hp b n S0 w0 refs σ a w S γ R k r hm hL hR hc h;simp only[eD]at h;refine wpIn_block (wpIn_mono (ih hT hC hF hE fH hp id n hm (λz hz=>hL z (by simpa[dP]using hz)) hR hc h) ?_)
  rintro e a' w' ⟨refs',ex,σ',S',γ',hle,fa,rfl,ct,dh,hk⟩
  cases ex with
  |normal=>exact⟨refs',.normal,σ',S',γ',hle,fa,rfl,ct,dh,hk⟩
  |exit i=>
   simp only[exOf,Exit.inBlock];simp only at hk;split
   .rename_i hi;rw[if_pos hi]at hk;exact⟨refs',.normal,σ',S',γ',hle,fa,rfl,ct,dh,hk⟩
   .rename_i hi;rw[if_neg hi]at hk;exact⟨refs',.exit i,σ',S',γ',hle,fa,rfl,ct,dh,hk⟩
  |ret=>exact⟨refs',.ret,σ',S',γ',hle,fa,rfl,ct,dh,hk⟩
 |scope c ih=>intro E ro hT hC hF hE fH hp b n S0 w0 refs σ a w S γ R k r hm hL hR hc h;simp only[eD]at h;refine Ze (λl a w hq=>?_) (ih hT hC hF hE fH hp b n hm (λz hz=>hL z (by simpa[dP]using hz)) hR hc h);obtain⟨_,ex,_,_,_,_,_,he,_⟩:=hq;cases ex<;>simp[exOf]at he
 |loop c ih=>
  intro E ro hT hC hF hE fH hp b n S0 w0 refs σ a w S γ R k r hm hL hR hc h;have QP:=hp.resolve_left (by simp[dn]);simp only[eD]at h;cases Jd:isRf c with
  |true=>rw[Jd]at h;simp at h
  |false=>
  rw[Jd,jd]at h;cases ix:Nat.blt 0 (E.un b) with
  |true=>
   rw[ix,jc]at h;refine Qt (λn a w=>∃refs' σ' S γ,tT w0 refs refs'/\Rel E.N E.np S0 w0 refs' σ' a w S γ/\cM σ'/\∃i,sR (λi σ k=>eD (E.offR (cond (dP b c).isEmpty i 0)) b c σ k) n i σ' k=B r) ⟨refs,σ,S,γ,⟨rfl,rfl,rfl,hm,rfl⟩,hR,hc,0,h⟩ ?_
   rintro m a1 w1 ⟨BK,σ1,S2,γ2,fQ,bS,fp,i,ic⟩
   cases m with
   |zero=>simp[sR]at ic
   |succ m=>
    simp only[sR]at ic
    have ZK:∀z∈dP b c,yj (E.offR (cond (dP b c).isEmpty i 0)) z.1 z.2/\MrOK (E.offR (cond (dP b c).isEmpty i 0)) z.1 z.2:=by
     intro z hz;cases he:dP b c with
     |nil=>rw[he]at hz;simp at hz
     |cons q l=>exact hL z (by simp[dP,hz])
    refine wpIn_mono (ih (E:=E.offR (cond (dP b c).isEmpty i 0)) hT hC hF hE fH (.inr QP) b n fQ.marks ZK bS fp ic) ?_
    rintro e2 a2 w2 ⟨fy,ex,σ2,S3,γ3,dV,_,rfl,eV,rQ,iy⟩
    cases ex with
    |normal=>exact⟨m,õ m,fy,σ2,S3,γ3,fQ.trans dV,eV,rQ,i+1,iy⟩
    |exit i=>exact⟨fy,.exit i,σ2,S3,γ3,fQ.trans dV,λhf=>by simp[dn]at hf,rfl,eV,rQ,iy⟩
    |ret=>exact⟨fy,.ret,σ2,S3,γ3,fQ.trans dV,λhf=>by simp[dn]at hf,rfl,eV,rQ,iy⟩
  |false=>
  rw[ix,jd]at h;split at h
  .rename_i s hs;obtain⟨n1,e,s',hn,hk⟩:=(hL (b,c) (by simp[dP])).1 s R _ r h
   have gW:Hc E b c=uJ E b c:=by
    funext s
    cases c<;>first|rfl|simp[isRf]at Jd
   rw[gW]at hn;obtain⟨S1,γ1,bm,eg⟩:=tM hR hc hs;refine Qt (λn a w=>∃refs' s S γ,tT w0 refs refs'/\Rel E.N E.np S0 w0 refs' (cR E.np (E.keep b) s) a w S γ/\cM (cR E.np (E.keep b) s)/\loopN (uJ E b c) n s=B (e,s')) ⟨refs,s,S1,γ1,⟨rfl,rfl,rfl,hm,rfl⟩,bm,eg,hn⟩ ?_
   rintro m a1 w1 ⟨BK,s1,S2,γ2,fQ,bS,fp,ic⟩
   cases m with
   |zero=>simp[loopN]at ic
   |succ m=>
    simp only[loopN]at ic;cases aL:uJ E b c s1 with
    |none=>simp[aL]at ic
    |some out=>
     rw[aL]at ic;unfold uJ at aL;refine wpIn_mono (ih hT hC hF hE fH (.inr QP) b n fQ.marks (λz hz=>hL z (by simp[dP,hz])) bS fp aL) ?_
     rintro e2 a2 w2 ⟨fy,ex,σ2,S3,γ3,dV,_,rfl,eV,rQ,iy⟩
     cases ex with
     |normal=>
      simp only at iy;split at iy
      .rename_i s2 kC;simp only[jb]at iy;subst iy;obtain⟨S4,γ4,mM,ob⟩:=tM eV rQ kC;exact⟨m,õ m,fy,s2,S4,γ4,fQ.trans dV,mM,ob,ic⟩
      .simp at iy
     |exit i=>
      simp only at iy;split at iy
      .rename_i s2 kC;simp only[jb]at iy;subst iy;obtain⟨S4,γ4,mM,ob⟩:=tM eV rQ kC;simp only[jb,jf]at ic;obtain⟨rfl,rfl⟩:=ic;exact⟨fy,.exit i,_,S4,γ4,fQ.trans dV,λhf=>by simp[dn]at hf,rfl,mM,ob,hk⟩
      .simp at iy
     |ret=>
      simp only at iy;split at iy
      .rename_i s2 kC;simp only[jb]at iy;subst iy;obtain⟨S4,γ4,mM,ob⟩:=tM eV rQ kC;simp only[jb,jf]at ic;obtain⟨rfl,rfl⟩:=ic;exact⟨fy,.ret,_,S4,γ4,fQ.trans dV,λhf=>by simp[dn]at hf,rfl,mM,ob,hk⟩
      .simp at iy
  .simp at h
 |rangeFunc g ps x y pt pw=>
  intro E ro hT hC hF hE fH hp b n S0 w0 refs σ a w S γ R k r hm hL hR hc h;obtain⟨rfl,kR⟩:=hp.resolve_left (by simp[dn])
  exact Zv fH kR (λl hx=>pt (E:=E.rnd ps x y) hT hC hF hE fH (.inl hx)) (λl hy=>pw (E:=E.rnd ps x y) hT hC hF hE fH (.inl hy))
   (hL (b,.rangeFunc g ps x y) (by simp[dP])).1 hm hR hc h
 |exit i=>intro E ro hT hC hF hE fH hp b n S0 w0 refs σ a w S γ R k r hm hL hR hc h;exact wpIn_exit ⟨refs,.exit i,σ,S,γ,⟨rfl,rfl,rfl,hm,rfl⟩,λ_=>rfl,rfl,hR,hc,h⟩
 |ret=>intro E ro hT hC hF hE fH hp b n S0 w0 refs σ a w S γ R k r hm hL hR hc h;exact wpIn_ret ⟨refs,.ret,σ,S,γ,⟨rfl,rfl,rfl,hm,rfl⟩,λ_=>rfl,rfl,hR,hc,h⟩
 |goto l=>intro E ro hT hC hF hE fH hp b n S0 w0 refs σ a w S γ R k r hm hL hR hc h;simp[eD]at h
 |refuse y=>intro E ro hT hC hF hE fH hp b n S0 w0 refs σ a w S γ R k r hm hL hR hc h;simp[eD]at h
end
def keyB(es:Ã ì):H (Y×G):=es.toList.map λe=>(e.key,e.born)
structure AtR(g r it since clock:G)(ks:H (Y×G))(es:Ã ì)(seen:Ã G)(a:À)(w:Z):Prop where
 map:w.heap[g]? = B (.map es clock)
 ks:keyB es=ks
 iter:w.heap[r]? = B (.mapIter (B g) since seen clock)
 ptr:tm a it = .pointer (B ⟨r,0,Á⟩)
section
variable{N:NT}{np:G}{S0:aM}{w0:Z}{refs:Refs}{σ:St}{a:À}{w:Z}{S:aM}{γ:G->Y}
structure Mix{β:Type}(xs ys:H (Ï×β))(seen:Ã G)(zs:H (Ï×β)):Prop where
 len:zs.length=xs.length
 get:∀i,zs[i]? = if seen.contains i=X then ys[i]? else xs[i]?
theorem beqF{i j:G}(h:i≠j):Nat.beq i j=false:=by
 cases hq:Nat.beq i j with
 |false=>rfl
 |true=>exact absurd (á hq) h
theorem ZL{P:Â}(gX:P.follows .mixedOrders=X)(yp:G->O (G×G)):MrS P yp:=by
 intro E hE hT hC hF gF kR x y b n pl S0 w0 refs σ a w S γ R k r hm hMO hR hc BL h;unfold zT at h;cases hz:E.nz<;>simp[hz]at h
theorem ZM{P:Â}(gX:P.follows .mixedOrders=X)(c:Ò){E:Env}{ro:O G}(hT:ca P E.T)(hC:iQ P E.C)(hF:CFun E.C)(gF:∀f t,E.bw f=B t->BwK P f t)
 (hq:dn c=X\/(ro=Á/\E.N.pin=λ_=>U)):Eu P E ro c:=ZI gX (ZL gX E.mr) c hT hC hF rfl gF hq
end
section
variable{N:NT}{np:G}{S0:aM}{w0:Z}{refs:Refs}{σ:St}{a:À}{w:Z}{S:aM}{γ:G->Y}
def wo:Arg->Æ
 |.ref _=>X
 |.rl _ _=>X
 |_=>U
def BM(args:H Arg)(vals:H Y)(k:G):O Value:=
 if k%64=0 then match args[k/64]? with
  |some x=>if wo x then vals[k/64]? else Á
  |none=>Á
 else Á
def nE(args:H Arg)(vals:H Y):Refs:={ blks:=dI args vals,val:=BM args vals,mv:=mvOf args vals }
def γ0(vals:H Y)(k:G):Value:=vals.getD (k/64) undef
theorem BN:∀{as:H Arg}{us:H Y}{i:G}{x:Arg}{u:Y}{g:G},as[i]? = B x->us[i]? = B u->jT x u=B g->g∈dI as us
 |y::as,v::us,0,x,u,g,h,h',hg=>by
  simp at h h';subst h;subst h';simp[dI,hg]
 |y::as,v::us,i+1,x,u,g,h,h',hg=>by
  have:=BN (as:=as) (us:=us) (i:=i) (by simpa using h) (by simpa using h') hg;simp[dI,this]
 |[],_,_,_,_,_,h,_,_=>by simp at h
 |_::_,[],_,_,_,_,_,h',_=>by simp at h'
theorem QQ:∀{as:H Arg}{us:H Y}{i j:G}{x y:Arg}{u v:Y}{g:G},(dI as us).Nodup->as[i]? = B x->us[i]? = B u->as[j]? = B y->us[j]? = B v->
  jT x u=B g->jT y v=B g->i=j
 |z::as,t::us,0,0,_,_,_,_,_,_,_,_,_,_,_,_=>rfl
 |z::as,t::us,0,j+1,x,y,u,v,g,hn,hx,hu,hy,hv,h1,h2=>by
  simp at hx hu;subst hx;subst hu;have:=BN (as:=as) (us:=us) (i:=j) (by simpa using hy) (by simpa using hv) h2;simp[dI,h1]at hn;exact absurd this hn.1
 |z::as,t::us,i+1,0,x,y,u,v,g,hn,hx,hu,hy,hv,h1,h2=>by
  simp at hy hv;subst hy;subst hv;have:=BN (as:=as) (us:=us) (i:=i) (by simpa using hx) (by simpa using hu) h1;simp[dI,h2]at hn;exact absurd this hn.1
 |z::as,t::us,i+1,j+1,x,y,u,v,g,hn,hx,hu,hy,hv,h1,h2=>by
  have Iw:(dI as us).Nodup:=by simp only[dI]at hn;exact(z9.1 hn).2.1
  rw[QQ Iw (i:=i) (j:=j) (by simpa using hx) (by simpa using hu) (by simpa using hy) (by simpa using hv) h1 h2]
 |[],_,_,_,_,_,_,_,_,_,h,_,_,_,_,_=>by simp at h
 |_::_,[],_,_,_,_,_,_,_,_,_,h,_,_,_,_=>by simp at h
theorem QR:∀{as:H Arg}{us:H Y}{i e:G}{x:TV}{u:Y}{g:G},as[i]? = B (.mv e x)->us[i]? = B u->blk u=B g->g∈mvOf as us
 |y::as,v::us,0,e,x,u,g,h,h',hg=>by
  simp at h h';subst h;subst h';simp[mvOf,hg]
 |y::as,v::us,i+1,e,x,u,g,h,h',hg=>by
  have:=QR (as:=as) (us:=us) (i:=i) (by simpa using h) (by simpa using h') hg;cases y<;>simp[mvOf,this]
 |[],_,_,_,_,_,_,h,_,_=>by simp at h
 |_::_,[],_,_,_,_,_,_,h',_=>by simp at h'
theorem ZN{args:H Arg}{vals:H Y}(ha:All2 (nr S w) args vals)(dA:(dI args vals).Nodup)(hS:∀g o,S g o->g<w.heap.size)(hlen:args.length=np)(hN:np<=N.n) :
  Rel N np S w (nE args vals) (St.init args) ⟨vals.toArray++Ö (N.n-vals.toArray.size) undef,[]⟩ w S (γ0 vals)/\cM (St.init args):=by
 have tt:vals.length=np:=by rw[<-ha.length,hlen]
 have wa:∀i u,vals[i]? = B u->(vals.toArray++Ö (N.n-vals.toArray.size) undef).getD i undef=u:=by intro i u hu;have hi:i<vals.length:=(jt.1 hu).1;rw[za,Array.getElem?_append_left (by simpa using hi)];simp[hu]
 have jC:∀i u,vals[i]? = B u->γ0 vals (i*64)=u:=by intro i u hu;simp only[γ0];rw[vj _ aa];simp[hu]
 have rU:∀i u,vals[i]? = B u->γ0 vals (i*64+63)=u:=by intro i u hu;simp only[γ0];rw[show (i*64+63)/64=i by omega];simp[hu]
 have eu:∀k b,(St.init args).bx k = .live b->∃i x u,args[i]? = B x/\vals[i]? = B u/\nr S w x u/\((k=i*64/\ln (B x) = .live b)\/(k=i*64+63/\rf (B x) = .live b)):=by
  intro k b hb;simp only[St.init]at hb;split at hb
  .rename_i hk;cases hx:args[k/64]? with
   |none=>simp[hx,ln]at hb
   |some x=>obtain⟨u,hu,gV⟩:=ha.get _ x hx;exact⟨k/64,x,u,hx,hu,gV,.inl ⟨aa,by rw[hx]at hb;exact hb⟩⟩
  .split at hb
   .rename_i hk;cases hx:args[k/64]? with
    |none=>simp[hx,rf]at hb
    |some x=>obtain⟨u,hu,gV⟩:=ha.get _ x hx;exact⟨k/64,x,u,hx,hu,gV,.inr ⟨aa,by rw[hx]at hb;exact hb⟩⟩
   .simp at hb
 have pC:∀{x:Arg}{b:Bx},rf (B x) = .live b->∃e t xs,x = .mv e ⟨.list t,xs⟩/\b = .lst e t xs false:=by
  intro x b hb;cases x with
  |mv e y=>obtain⟨t,v⟩:=y;cases t<;>simp[rf]at hb;exact⟨_,_,_,rfl,hb.symm⟩
  |_=>simp[rf]at hb
 have BO:∀i x,args[i]? = B x->(St.init args).bx (i*64+63)=rf (B x):=by intro i x hx;simp only[St.init];rw[if_neg aa,if_pos aa,show (i*64+63)/64=i by omega,hx]
 have me:∀i x,args[i]? = B x->(St.init args).bx (i*64)=ln (B x):=by intro i x hx;simp only[St.init];rw[if_pos aa,vj _ aa,hx]
 have hblk:∀x u b,ln (B x) = .live b->jT x u=blk u:=by intro x u b hb;cases x<;>first|rfl|simp[ln]at hb
 refine⟨⟨?_,rfl,?_,?_,?_,?_,λ_ _ h=>h,λ_ _ h=> .inl h,hS,λ_ _ _=>rfl,jz _,rfl,rfl,rfl,?_,λg o h=>by simp[nE]at h,λi v h=>by simp[nE]at h⟩,?_⟩
 .simp;omega
 .intro i
  have eh:(St.init args).sl i=match args[i]? with
   |some a=> .one (DM i a)
   |none=> .one (.one .dead):=rfl
  rw[eh];cases hx:args[i]? with
  |none=>exact⟨trivial,λh=>absurd rfl h⟩
  |some x=>
   obtain⟨u,hu,gV⟩:=ha.get i x hx;show bE S w (γ0 vals) (St.init args).bx (DM i x) _;rw[wa i u hu];have hb:=me i x hx;cases x with
   |v x=>exact xU gV
   |ref ls=>obtain⟨g,cur,e,h1,_⟩:=id gV;exact⟨⟨by rw[hb];simp[ln],by rw[h1];rfl,λb _=>⟨g,(jC i u hu).trans h1,h1⟩⟩,λ_=>by rw[h1];rfl⟩
   |rl e x=>obtain⟨t,xs,rfl,bX,_⟩:=id gV;have cu:One u:=bX.one;exact⟨⟨by rw[hb];simp[ln],cu,λb _=>(jC i u hu).symm⟩,λ_=>cu⟩
   |ip ls=>obtain⟨g,o,cs,h1,_⟩:=id gV;exact⟨gV,λ_=>by rw[h1];rfl⟩
   |clo f caps=>obtain⟨cv,h1,_⟩:=id gV;exact⟨gV,λ_=>by rw[h1];rfl⟩
   |mv e x=>obtain⟨t,xs,rfl,bX,_⟩:=id gV.1;have cu:One u:=bX.one;have aG:=BO i _ hx;exact⟨⟨by rw[aG];simp[rf],cu,λb _=>(rU i u hu).symm⟩,λ_=>cu⟩
 .intro k b hb;obtain⟨i,x,u,hx,hu,gV,⟨rfl,cj⟩|⟨rfl,cj⟩⟩:=eu k b hb
  .cases x with
   |ref ls=>simp only[ln,BS.live.injEq]at cj;subst cj;exact HW (jC i u hu) gV
   |rl e x=>obtain⟨t,xs,rfl,_⟩:=id gV;simp only[ln,BS.live.injEq]at cj;subst cj;exact xT (jC i u hu) gV
   |_=>simp[ln]at cj
  .obtain⟨e,t,xs,rfl,rfl⟩:=pC cj;exact xT (rU i u hu) gV.1
 .intro k b g hb hg;obtain⟨i,x,u,hx,hu,gV,⟨rfl,cj⟩|⟨rfl,cj⟩⟩:=eu k b hb
  .rw[jC i u hu,<-hblk x u b cj]at hg;refine .inr ⟨BN hx hu hg,?_⟩;have:i<args.length:=(jt.1 hx).1;simp[parK];omega
  .obtain⟨e,t,xs,rfl,rfl⟩:=pC cj;rw[rU i u hu]at hg;exact .inl (.inr ⟨QR hx hu hg,BN (x:= .mv e ⟨.list t,xs⟩) hx hu hg⟩)
 .intro k k' b b' g br hb aG hg ao
  have QS:∀k b g,(St.init args).bx k = .live b->blk (γ0 vals k)=B g->∃i x u,args[i]? = B x/\vals[i]? = B u/\jT x u=B g/\((k=i*64/\ln (B x) = .live b)\/(k=i*64+63/\rf (B x) = .live b)):=by
   intro k b g hb hg;obtain⟨i,x,u,hx,hu,gV,⟨rfl,cj⟩|⟨rfl,cj⟩⟩:=eu k b hb
   .rw[jC i u hu,<-hblk x u b cj]at hg;exact⟨i,x,u,hx,hu,hg,.inl ⟨rfl,cj⟩⟩
   .obtain⟨e,t,xs,rfl,rfl⟩:=pC cj;rw[rU i u hu]at hg;exact⟨i,_,u,hx,hu,hg,.inr ⟨rfl,cj⟩⟩
  obtain⟨i,x,u,hx,hu,h1,h2⟩:=QS k b g hb hg;obtain⟨j,y,v,hy,hv,h3,h4⟩:=QS k' b' g aG ao;have eJ:=QQ dA hx hu hy hv h1 h3;subst eJ;rw[hx]at hy;cases hy;rcases h2 with⟨rfl,h2⟩|⟨rfl,h2⟩<;>rcases h4 with⟨rfl,h4⟩|⟨rfl,h4⟩
  .exact br rfl
  .obtain⟨e,t,xs,rfl,rfl⟩:=pC h4;simp[ln]at h2
  .obtain⟨e,t,xs,rfl,rfl⟩:=pC h2;simp[ln]at h4
  .exact br rfl
 .intro k v hv;simp only[nE,BM]at hv;split at hv
  .rename_i hk;split at hv
   .rename_i x hx;split at hv
    .rename_i hr;have hi:k/64<args.length:=(jt.1 hx).1;have bg:k=(k/64)*64:=aa;refine⟨by simp[parK,hk];omega,?_,?_⟩
     .rw[bg,me _ x hx];cases x with
      |rl e y=>obtain⟨u,hu,gV⟩:=ha.get _ _ hx;obtain⟨t,xs,rfl,_⟩:=gV;simp[ln]
      |ref ls=>simp[ln]
      |_=>simp[wo]at hr
     .rw[bg];exact jC _ v hv
    .simp at hv
   .simp at hv
  .simp at hv
 .intro i;show ((match args[i]? with|some a=>Slot.one (DM i a)|none=> .one (.one .dead)):Slot).bare=X;split<;>rfl
theorem Ey{α β:Type}{P:Â}(f:α->Sem β):∀{rs:H α}{zs:H β},All2 (λr z=>(f r).run P w = .ok z w) rs zs->(rs.mapM f).run P w = .ok zs w
 |[],[],_=>af
 |r::rs,z::zs,h=>by
  simp only[zd,Û,h.1,Ð,Ey f h.2,Ü]
 |[],_::_,h=>h.elim
 |_::_,[],h=>h.elim
def Uns(b:Bx):Prop:=(∃ls,b = .cell ls U)\/∃e t xs,b = .lst e t xs U
theorem Ez{P:Â}{E:Env}(hT:ca P E.T)(hR:Rel N np S0 w0 refs σ a w S γ){r:Ì}{c:Cel}(h:uK E σ r=B c) :
  ∃z,((match r with
   |.tmp t=>pure (a.tmps.getD t undef)
   |.cell x t=>do loadVar t (<-asAddr (a.tmps.getD x undef)):Sem Y)).run P w = .ok z w/\bE S w γ σ.bx c z:=by
 cases r with
 |tmp t=>
  simp only[uK]at h;split at h
  .rename_i c' hc;simp only[jb]at h;subst h;have:=hR.slot t;rw[hc]at this;exact⟨_,af,this⟩
  .simp at h
 |cell x t=>
  simp only[uK]at h;split at h
  .rename_i ti y ht hy;have:=hR.slot x;rw[hy]at this;obtain⟨z,hz,gg⟩:=Oz hT hR (RdR.msk λ_=> .inl rfl) ht h this.1;refine⟨z,?_,gg⟩;show (do loadVar t (<-asAddr (a.tmps.getD x undef)):Sem Y).run P w=_
   have hu:∃ad,a.tmps.getD x undef = .pointer (B ad):=by
    generalize a.tmps.getD x undef=u at hz
    cases u with
    |pointer o=>
     cases o with
     |some ad=>exact⟨ad,rfl⟩
     |none=>simp[î,ä]at hz
    |_=>simp[î,ä]at hz
   obtain⟨ad,hu⟩:=hu;rw[hu]at hz ⊢;simpa[î,ä,asAddr]using hz
  .simp at h
theorem EA{rd:G->BS}(hR:Rel N np S0 w0 refs σ a w S γ)(aO:RdF np σ rd):∀{ks:H SoK}{ls:H Leaf}{r:H RL}{n:H G}{v:Ups}{zs:H Y},soOf rd ks ls=B (r,n,v)->
  All2 (bj S w γ σ.bx) ls zs->(∀z∈zs,One z)->FrzL np σ.bx v/\(∀k∈n,(∃b,σ.bx k = .live b/\Uns b)/\parK np k=U)/\mI r zs=(n.filterMap λk=>blk (γ k))/\
   ∀S',db S w S' w->Froz σ.bx γ S' w v->(∀k∈n,∀g,blk (γ k)=B g->∀o,¬S' g o)->All2 (D1 S' w) r zs
 |[],[],r,n,v,zs,h,ha,h1=>by
  simp[soOf]at h;obtain⟨rfl,rfl,rfl⟩:=h;cases zs with
  |nil=>exact⟨.nil,af,rfl,λ_ _ _ _=>trivial⟩
  |cons _ _=>exact ha.elim
 |.d t::ks,l::ls,r,n,v,zs,h,ha,h1=>by
  cases zs with
  |nil=>exact ha.elim
  |cons z zs=>
  simp only[soOf]at h;split at h
  .rename_i x u r' n' v' hx hr;cases dW:t.leafy with
   |false=>rw[dW]at h;simp at h
   |true=>
   rw[dW,jc]at h;simp only[jb,jf]at h;obtain⟨rfl,rfl,rfl⟩:=h;obtain⟨f1,p1⟩:=tc aO hR.box hx ha.1;obtain⟨f2,k2,b2,p2⟩:=EA hR aO hr ha.2 (λy hy=>h1 y (by simp[hy]));refine⟨FrzL.app.2 ⟨f1,f2⟩,k2,by simp[mI,b2],λS' aL dN hn=>?_⟩;obtain⟨g1,g2⟩:=Froz.app.1 dN;exact⟨⟨h1 z af,p1 S' w aL g1⟩,p2 S' aL g2 hn⟩
  .simp at h
 |.own e t::ks,l::ls,r,n,v,zs,h,ha,h1=>by
  cases zs with
  |nil=>exact ha.elim
  |cons z zs=>
  cases l with
  |nil=>
   simp only[soOf]at h;split at h
   .rename_i r' n' v' hr;cases hm:isM e with
    |true=>rw[hm]at h;simp at h
    |false=>
    rw[hm,jd]at h;simp only[jb,jf]at h;obtain⟨rfl,rfl,rfl⟩:=h;have hz:z = .slice Á 0 0:=ha.1;subst hz;obtain⟨f2,k2,b2,p2⟩:=EA hR aO hr ha.2 (λy hy=>h1 y (by simp[hy]));refine⟨f2,k2,by simp[mI,blk,b2],λS' aL dN hn=>⟨⟨t,[],rfl,.inl ⟨hm,[],⟨af,.inl ⟨rfl,rfl⟩⟩,trivial⟩,λg hg=>by simp[blk]at hg⟩,p2 S' aL dN hn⟩⟩
   .simp at h
  |ol k=>
   simp only[soOf]at h;split at h
   .rename_i e' b xs hk;cases he:Nat.beq e' e with
    |false=>rw[he]at h;simp at h
    |true=>
    rw[he,jc]at h;split at h
    .rename_i r' n' v' hr;simp only[jb,jf]at h;obtain⟨rfl,rfl,rfl⟩:=h;have hp:=aO.par hk;have hk:=aO.ok.live hk;have hz:=ha.1.2.2 _ hk;obtain⟨f2,k2,b2,p2⟩:=EA hR aO hr ha.2 (λy hy=>h1 y (by simp[hy]));refine⟨f2,λk' bg=>?_,?_,λS' aL dN hn=>⟨⟨b,xs,rfl,by rw[hz];exact(hR.box k _ hk).1.keep aL (λ_ _=>rfl),λg hg=>hn k af g (by rw[<-hz];exact hg)⟩,p2 S' aL dN (λk' bg=>hn k' (by simp[bg]))⟩⟩
     .rcases jm.1 bg with rfl|bg
      .exact⟨⟨_,hk,.inr ⟨_,_,_,rfl⟩⟩,hp⟩
      .exact k2 k' bg
     .simp only[mI,hz,zm];rw[b2];cases blk (γ k)<;>rfl
    .simp at h
   .simp at h
  |_=>simp[soOf]at h
 |[],_::_,r,n,v,zs,h,_,_=>by simp[soOf]at h
 |.d _::_,[],r,n,v,zs,h,_,_=>by simp[soOf]at h
 |.own _ _::_,[],r,n,v,zs,h,_,_=>by simp[soOf]at h
theorem ZO{P:Â}{E:Env}(hT:ca P E.T)(hR:Rel N E.np S0 w0 refs σ a w S γ){rd:G->BS}(aO:RdF E.np σ rd){own:Æ}{t:G}{c:Cel}{v:RV}{ks:H G}{u:Ups}{z:Y}(h:rvOf E rd own t c=B (v,ks,u))(hc:bE S w γ σ.bx c z) :
  FrzL E.np σ.bx u/\(∀k∈ks,(∃b,σ.bx k = .live b/\Uns b)/\parK E.np k=U)/\jG v z=(ks.filterMap λk=>blk (γ k))/\
   ∀S',db S w S' w->Froz σ.bx γ S' w u->(∀k∈ks,∀g,blk (γ k)=B g->∀o,¬S' g o)->nY S' w v z:=by
 unfold rvOf at h;split at h
 .rename_i k;split at h
  .rename_i ls hk;split at h
   .rename_i xs u1 h1;simp only[jb,jf]at h;obtain⟨rfl,rfl,rfl⟩:=h;have hp:=aO.par hk;have hk:=aO.ok.live hk;obtain⟨g,hg,hz⟩:=hc.1.2.2 _ hk;obtain⟨g',cur,e,ao,hh,dF,_⟩:=hR.box k _ hk;rw[hg]at ao;simp at ao;subst ao;obtain⟨hf,xS⟩:=vE aO h1 dF;refine⟨hf,λk' bg=>by simp at bg;subst bg;exact⟨⟨_,hk,.inl ⟨_,rfl⟩⟩,hp⟩,?_,λS' aL dN hn=>⟨g,cur,e,hz,hh,by rw[DO dF (xS S' w aL dN)];exact xS S' w aL dN,?_⟩⟩
    .simp[jG,lx,hz,hg,blk]
    .exact hn k af g (by rw[hg];rfl)
   .simp at h
  .simp at h
 .rename_i f caps;simp only[jb,jf]at h;obtain⟨rfl,rfl,rfl⟩:=h;obtain⟨⟨cv,hz,ar⟩,_⟩:=hc;exact⟨.nil,af,by simp[jG,lx],λS' aL _ _=>⟨cv,hz,ar.mono λ_ _ h=>iq.keep aL h⟩⟩
 .split at h
  .rename_i ti ht;split at h
   .rename_i ty bn;split at h
    .split at h
     .rename_i ls;split at h
      .rename_i r n u1 Jf;simp only[jb,jf]at h;obtain⟨rfl,rfl,rfl⟩:=h;obtain⟨cs,hz,ar,cu⟩:=hc;subst hz;obtain⟨f1,k1,b1,p1⟩:=EA hR aO Jf ar cu;exact⟨f1,k1,b1,λS' aL dN hn=>⟨cs,rfl,p1 S' aL dN hn⟩⟩
      .simp at h
     .rename_i el cX _;simp only[jb,jf]at h;obtain⟨rfl,rfl,rfl⟩:=h;have hz:z = .slice Á 0 0:=hc.1;subst hz;exact⟨.nil,af,by simp[jG,lx,blk],λS' _ _ _=>⟨el,[],rfl,.inl ⟨Hj hT ht,[],⟨af,.inl ⟨rfl,rfl⟩⟩,trivial⟩,λg hg=>by simp[blk]at hg⟩⟩
     .rename_i k cX _;split at h
      .rename_i e el xs hk;simp only[jb,jf]at h;obtain⟨rfl,rfl,rfl⟩:=h;have hp:=aO.par hk;have bO:=aO.ok.nm hk;have hk:=aO.ok.live hk;have hz:=hc.1.2.2 _ hk;obtain⟨css,aD,ar,_⟩:=gB bO (hR.box k _ hk);refine⟨.nil,λk' bg=>by simp at bg;subst bg;exact⟨⟨_,hk,.inr ⟨_,_,_,rfl⟩⟩,hp⟩,?_,λS' aL _ hn=>⟨el,xs,rfl,by rw[hz];exact(hR.box k _ hk).1.keep aL (λ_ _=>rfl),λg hg=>hn k af g (by rw[<-hz];exact hg)⟩⟩;simp only[jG,lx,hz,zm,List.filterMap_nil];cases blk (γ k)<;>rfl
      .simp at h
     .simp at h
    .split at h
     .rename_i x u1 hx;simp only[jb,jf]at h;obtain⟨rfl,rfl,rfl⟩:=h;obtain⟨hf,hp,_⟩:=Ag aO hR.box hx hc;exact⟨hf,af,by simp[jG,lx],λS' aL dN _=>hp S' w aL dN⟩
     .simp at h
   .simp at h
  .simp at h
theorem QT{P:Â}{E:Env}(hT:ca P E.T)(hR:Rel N E.np S0 w0 refs σ a w S γ):∀{os:H Æ}{rs:H Ì}{ts:H G}{vs:H RV}{ks:H G}{u:Ups},nQ E σ os rs ts=B (vs,ks,u)->
  ∃zs,All2 (λ(r:Ì) z=>((match r with
   |.tmp t=>pure (a.tmps.getD t undef)
   |.cell x t=>do loadVar t (<-asAddr (a.tmps.getD x undef)):Sem Y)).run P w = .ok z w) rs zs/\
  FrzL E.np σ.bx u/\(∀k∈ks,(∃b,σ.bx k = .live b/\Uns b)/\parK E.np k=U)/\gr vs zs=(ks.filterMap λk=>blk (γ k))/\
   ∀S',db S w S' w->Froz σ.bx γ S' w u->(∀k∈ks,∀g,blk (γ k)=B g->∀o,¬S' g o)->All2 (nY S' w) vs zs
 |os,[],ts,vs,ks,u,h=>by
  simp[nQ]at h;obtain⟨rfl,rfl,rfl⟩:=h;exact⟨[],trivial,.nil,af,rfl,λ_ _ _ _=>trivial⟩
 |os,r::rs,ts,vs,ks,u,h=>by
  simp only[nQ]at h;split at h
  .rename_i c hc;split at h
   .rename_i v k1 u1 hv;split at h
    .rename_i im k2 u2 gD;simp only[jb,jf]at h;obtain⟨rfl,rfl,rfl⟩:=h;obtain⟨z,hz,gg⟩:=Ez hT hR hc;obtain⟨f1,p1,n1,r1⟩:=ZO hT hR (vS (RdR.msk λ_=> .inl rfl)) hv gg;obtain⟨zs,jS,f2,p2,n2,r2⟩:=QT hT hR gD;refine⟨z::zs,⟨hz,jS⟩,FrzL.app.2 ⟨f1,f2⟩,λk hk=>?_,?_,λS' aL dN hn=>?_⟩
     .rcases jx.1 hk with hk|hk
      .exact p1 k hk
      .exact p2 k hk
     .simp[gr,n1,n2]
     .obtain⟨g1,g2⟩:=Froz.app.1 dN;exact⟨r1 S' aL g1 (λk hk=>hn k (by simp[hk])),r2 S' aL g2 (λk hk=>hn k (by simp[hk]))⟩
    .simp at h
   .simp at h
  .simp at h
theorem Jg(hR:Rel N np S0 w0 refs σ a w S γ):∀{as:H Arg}{us:H Y}{i:G}{os:H Out}{u:Ups},outs np σ i as=B (os,u)->as.length=us.length->
  (∀(j:G)(x:Arg)(v:Y),as[j]? = B x->us[j]? = B v->wo x=X->γ ((i+j)*64)=v)->
  FrzL np σ.bx u/\∀S',db S w S' w->Froz σ.bx γ S' w u->(∀(j:G)(x:Arg)(v:Y)(g:G),as[j]? = B x->us[j]? = B v->wo x=X->(∃b,σ.bx ((i+j)*64) = .live b/\Uns b)->blk v=B g->∀o,¬S' g o)->jH S' w as us os
 |[],us,i,os,u,h,hl,_=>by
  simp[outs]at h;obtain⟨rfl,rfl⟩:=h;cases us with
  |nil=>exact⟨.nil,λ_ _ _ _=>trivial⟩
  |cons _ _=>simp at hl
 |x::as,[],i,os,u,h,hl,_=>by simp at hl
 |x::as,v::us,i,os,u,h,hl,hg=>by
  simp only[outs]at h;split at h
  .rename_i Pv u' h'
   obtain⟨f1,r1⟩:=Jg hR (i:=i+1) h' (by simpa using hl) (λj y z hy hz hr=>by
    have:=hg (j+1) y z (by simpa using hy) (by simpa using hz) hr;rwa[show i+1+j=i+(j+1) by omega])
   have cU:∀S',db S w S' w->Froz σ.bx γ S' w u'->(∀(j:G)(x':Arg)(v':Y)(g:G),(x::as)[j]? = B x'->(v::us)[j]? = B v'->wo x'=X->(∃b,σ.bx ((i+j)*64) = .live b/\Uns b)->blk v'=B g->∀o,¬S' g o)->jH S' w as us Pv:=by intro S' aL dN hn;refine r1 S' aL dN (λj y z g hy hz hr hb ZP=>?_);exact hn (j+1) y z g (by simpa using hy) (by simpa using hz) hr (by rwa[show i+(j+1)=i+1+j by omega]) ZP
   split at h
   .rename_i ls;have Jh:γ (i*64)=v:=hg 0 _ v rfl rfl rfl;split at h
    .rename_i fw hb;split at h
     .rename_i xs u2 hx;simp only[jb,jf]at h;obtain⟨rfl,rfl⟩:=h;obtain⟨g,cur,e,h1,h2,h3,_⟩:=hR.box _ _ hb;obtain⟨f2,r2⟩:=vE (vS (RdR.msk λ_=> .inl rfl)) hx h3;refine⟨FrzL.app.2 ⟨f2,f1⟩,λS' aL dN hn=>?_⟩;obtain⟨g1,g2⟩:=Froz.app.1 dN;have QU:v = .pointer (B ⟨g,0,Á⟩):=by rw[<-Jh];exact h1
      exact⟨⟨g,cur,e,QU,h2,by rw[DO h3 (r2 S' w aL g1)];exact r2 S' w aL g1,hn 0 _ v g rfl rfl rfl ⟨_,hb,.inl ⟨fw,rfl⟩⟩ (by rw[QU];rfl)⟩,cU S' aL g2 hn⟩
     .simp at h
    .simp at h
   .rename_i e y;have Jh:γ (i*64)=v:=hg 0 _ v rfl rfl rfl;split at h
    .rename_i e' t xs hb;split at h
     .rename_i bP;obtain⟨rfl,yq⟩:=bP;simp only[jb,jf]at h;obtain⟨rfl,rfl⟩:=h;have aD:=(hR.box _ _ hb).1;rw[Jh]at aD;refine⟨f1,λS' aL dN hn=>⟨⟨t,xs,rfl,aD.keep aL (λ_ _=>rfl),λg ao=>hn 0 _ v g rfl rfl rfl ⟨_,hb,.inr ⟨_,t,xs,rfl⟩⟩ ao⟩,yq.symm,cU S' aL dN hn⟩⟩
     .simp at h
    .simp at h
   .rename_i Ji Jj;simp only[jb,jf]at h;obtain⟨rfl,rfl⟩:=h;refine⟨f1,λS' aL dN hn=>?_⟩;have:=cU S' aL dN hn;cases x with
    |ref ls=>exact absurd rfl (Ji ls)
    |rl e y=>exact absurd rfl (Jj e y)
    |_=>exact this
  .simp at h
theorem QV{x:Arg}{u:Y}{g:G}(h:nr S w x u)(hr:jT x u=B g):∀o,¬S g o:=by
 cases x with
 |ref ls=>obtain⟨g',cur,e,h1,_,_,h4⟩:=h;have rv:blk u=B g:=hr;rw[h1]at rv;simp[blk]at rv;subst rv;exact h4
 |rl e y=>obtain⟨t,xs,_,_,h4⟩:=h;exact h4 g hr
 |mv e y=>obtain⟨⟨t,xs,_,_,h4⟩,_⟩:=h;exact h4 g hr
 |_=>simp[jT]at hr
theorem Jk:∀{as:H Arg}{us:H Y}{g:G},g∈dI as us->∃(i:G)(x:Arg)(u:Y),as[i]? = B x/\us[i]? = B u/\jT x u=B g
 |[],_,_,h=>by simp[dI]at h
 |_::_,[],_,h=>by simp[dI]at h
 |x::as,u::us,g,h=>by
  simp only[dI,jx,Option.mem_toList]at h;rcases h with h|h
  .exact⟨0,x,u,rfl,rfl,h⟩
  .obtain⟨i,y,v,h1,h2,h3⟩:=Jk h;exact⟨i+1,y,v,by simpa using h1,by simpa using h2,h3⟩
theorem Jl(zs:H Y):(if h:zs.toArray.size=1 then zs.toArray[0] else .tuple zs.toArray)=kH zs:=by
 match zs with
 |[]=>rfl
 |[z]=>rfl
 |z::z'::zs=>simp[kH]
theorem ZQ{P:Â}{E:Env}(hT:ca P E.T)(hR:Rel N np S0 w0 refs σ a w S γ){rs:H Ì}{vs im:H RV}{zs:H Y}
  (jS:All2 (λ(r:Ì) z=>((match r with
   |.tmp t=>pure (a.tmps.getD t undef)
   |.cell x t=>do loadVar t (<-asAddr (a.tmps.getD x undef)):Sem Y)).run P w = .ok z w) rs zs) (h:nilV E σ rs vs=B im) :
  (∀S' w',All2 (nY S' w') vs zs->All2 (nY S' w') im zs)/\gr im zs=gr vs zs/\(∀m,im=[.hd m]->vs=[.hd m])/\∀ns s,im=[.raw ns s]->vs=[.raw ns s]:=by
 unfold nilV at h;split at h
 .simp only[jb]at h;subst h;exact⟨λ_ _ h=>h,rfl,λ_ h=>h,λ_ _ h=>h⟩
 .split at h
  .rename_i r x;split at h
   .rename_i ls hc;split at h
    .rename_i hn;simp only[jb]at h;subst h;obtain⟨z,hz,gg⟩:=Ez hT hR hc;cases zs with
     |nil=>exact jS.elim
     |cons z' zs=>
      cases zs with
      |cons _ _=>exact jS.2.elim
      |nil=>
       have nV:z'=z:=by have h1:=hz.symm.trans jS.1;simp only[Result.ok.injEq]at h1;exact h1.1.symm
       subst nV;obtain⟨cs,hu,ar,_⟩:=gg;refine⟨λS' w' hv=>⟨⟨hv.1,λkJ wq i hi z ZR=>?_⟩,trivial⟩,rfl,λm hm=>by simp at hm,λns s hm=>by simp at hm⟩;rw[hu]at wq;simp only[Value.agg.injEq]at wq;subst wq;have hl:=jr.1 hn i hi;cases Jm:ls[i]? with
       |none=>rw[Jm]at hl;simp at hl
       |some l=>rw[Jm]at hl;obtain⟨z2,Jn,nW⟩:=ar.get i l Jm;rw[ZR]at Jn;simp only[jb]at Jn;subst Jn;cases l<;>first|exact nW|simp at hl
    .simp at h
   .simp at h
  .simp at h
theorem ZS{E:Env}{os:H Æ}{rs:H Ì}{ts:H G}{vs:H RV}{ks:H G}{u:Ups}(h:nQ E σ os rs ts=B (vs,ks,u))(m:G):vs≠[.hd m]:=by
 cases rs with
 |nil=>simp[nQ]at h;rw[<-h.1];simp
 |cons r rs=>
  simp only[nQ]at h;split at h
  .split at h
   .rename_i v k1 u1 hv;split at h
    .simp only[jb,jf]at h;rw[<-h.1];intro he;have:v = .hd m:=by simpa using (List.cons.inj he).1
     subst this;unfold rvOf at hv;split at hv
     .split at hv
      .split at hv<;>simp at hv
      .simp at hv
     .simp at hv
     .split at hv
      .split at hv
       .split at hv
        .split at hv
         .split at hv<;>simp at hv
         .simp at hv
         .split at hv<;>simp at hv
         .simp at hv
        .split at hv<;>simp at hv
       .simp at hv
      .simp at hv
    .simp at h
   .simp at h
  .simp at h
theorem ZT{E:Env}{os:H Æ}{rs:H Ì}{ts:H G}{vs:H RV}{ks:H G}{u:Ups}(h:nQ E σ os rs ts=B (vs,ks,u))(ns:H G)(s:Snap):vs≠[.raw ns s]:=by
 cases rs with
 |nil=>simp[nQ]at h;rw[<-h.1];simp
 |cons r rs=>
  simp only[nQ]at h;split at h
  .split at h
   .rename_i v k1 u1 hv;split at h
    .simp only[jb,jf]at h;rw[<-h.1];intro he;have:v = .raw ns s:=by simpa using (List.cons.inj he).1
     subst this;unfold rvOf at hv;split at hv
     .split at hv
      .split at hv<;>simp at hv
      .simp at hv
     .simp at hv
     .split at hv
      .split at hv
       .split at hv
        .split at hv
         .split at hv<;>simp at hv
         .simp at hv
         .split at hv<;>simp at hv
         .simp at hv
        .split at hv<;>simp at hv
       .simp at hv
      .simp at hv
    .simp at h
   .simp at h
  .simp at h
theorem ZU{P:Â}{E:Env}(hT:ca P E.T){fn:Func}{args:H Arg}{vals:H Y}{σ':St}{a':À}{w':Z}{S':aM}{γ':G->Y}(hR:Rel N E.np S w (nE args vals) σ' a' w' S' γ')
  (ha:All2 (nr S w) args vals)(hS:∀g o,S g o->g<w.heap.size)(gQ:¬E.rw=X)(BL:E.hd=X){ret:Ret}(bM:ri E fn args σ'=B ret){R:Type}{k:Ret->O R}{r:R}(hk:k ret=B r) :
  ∃v,(results fn a'.tmps).run P w' = .ok v w'/\∃ret,k ret=B r/\∃v' S' vs,Î v = .returned v'/\D3 w S args vals ret v' w' S' vs:=by
 have eE:∀(j:G)(x:Arg)(v:Y),args[j]? = B x->vals[j]? = B v->wo x=X->γ' ((0+j)*64)=v:=by intro j x v hx hv hr;refine(hR.par ((0+j)*64) v ?_).2.2;simp only[nE,BM];rw[if_pos aa,vj _ aa,ke,hx];simp[hr,hv]
 unfold ri at bM;rw[if_neg gQ,if_pos BL]at bM;unfold Od at bM;split at bM
 .rename_i e x as r0 kT;split at bM
  .rename_i l os u' hc nt;split at bM
   .rename_i m hm;simp only[jb]at bM;subst bM;obtain⟨z,hz,gg⟩:=Ez (P:=P) hT hR hc;obtain⟨f2,r2⟩:=Jg hR nt ha.length eE;obtain⟨S2,bS,cS,oP,dm⟩:=lO u' σ' S' hR f2;cases vals with
    |nil=>exact ha.elim
    |cons v0 ZV=>
    have h0:γ' 0=v0:=by have:=eE 0 _ v0 rfl rfl rfl;simpa using this
    have iw:∀k,parK E.np k=X->u'.any (λy=>y.1==k)=false:=by intro k hk;rw[qi];intro y hy he;simp only[zb]at he;have:=(f2 y hy).1;rw[he,hk]at this;simp at this
    have nv:∀k b,u'.any (λy=>y.1==k)=U->σ'.bx k = .live b->Uns b->∀g,blk (γ' k)=B g->∀o,¬S2 g o:=by
     intro k b hk hb kK g hg o;have dM:(σ'.upd u').bx k = .live b:=(iv _ _ hk).trans hb;have cj:=bS.box k b dM;rcases kK with⟨ls,rfl⟩|⟨e,t,xs,rfl⟩
     .obtain⟨g',cur,e,ao,_,_,_,hS,_⟩:=cj;rw[ao]at hg;simp[blk]at hg;subst hg;exact hS rfl o
     .exact(cj.2 g hg).1 rfl o
    have dC:=r2 S2 cS oP (λj x v g hx hv hr Jo hg=>by
     obtain⟨b,hb,hu⟩:=Jo;have hp:parK E.np ((0+j)*64)=true:=by refine(hR.par ((0+j)*64) v ?_).1;simp only[nE,BM];rw[if_pos aa,vj _ aa,ke,hx];simp[hr,hv]
     exact nv ((0+j)*64) b (iw _ hp) hb hu g (by rw[eE j x v hx hv hr];exact hg))
    have cu:One z:=gg.2 (by rintro rfl;simp[hdOf]at hm)
    have oX:∃ad len cap,v0 = .slice ad len cap/\m<=len/\z = .slice ad m cap:=by
     unfold hdOf at hm;split at hm
     .split at hm
      .rename_i e1 t1 D0 hb;split at hm
       .simp at hm
       .rename_i bO;simp only[jb]at hm;subst hm;obtain⟨css,aD,_⟩:=gB (by simpa using bO) (hR.box 0 _ hb);have nV:=gg.1.2.2 _ hb;rcases aD.2 with⟨hg,hn⟩|⟨g,cap,cur,hg,_⟩
        .exact⟨Á,0,0,by rw[<-h0,hg],aa,by rw[nV,hg,hn]⟩
        .exact⟨_,_,cap,by rw[<-h0,hg],jz _,by rw[nV,hg]⟩
      .simp at hm
     .split at hm
      .rename_i i e1 t1 D0 hb;simp only[jb]at hm;subst hm;obtain⟨_,hi,ad,cap,hg,nV⟩:=gg.1.2.2 _ hb;exact⟨ad,_,cap,by rw[<-h0,hg],hi,nV⟩
      .simp at hm
     .simp at hm
    have aE:(results fn a'.tmps).run P w' = .ok (kH [z]) w':=by
     have hm:=Ey (P:=P) (w:=w') (rs:=[r0]) (zs:=[z]) (λr=>((match r with
      |.tmp t=>pure (a'.tmps.getD t undef)
      |.cell x t=>do loadVar t (<-asAddr (a'.tmps.getD x undef)):Sem Y))) ⟨hz,trivial⟩
     unfold results;rw[va,kT];simp only[Û,ö]
     erw [hm]
     simp only[Ð,Ü];exact congrArg (Result.ok · w') (Jl [z])
    refine⟨kH [z],aE,⟨[.hd m],os⟩,hk,kH [z],S2,[z],rfl,⟨rfl,⟨cu,trivial⟩,λg hg=>by simp[gr,lx,jG]at hg,by simp[gr,lx,jG],dC,λg o hs=>⟨bS.ext g o hs,?_⟩,λg o h=>(bS.new g o h).imp id (λh=>h.imp id And.left),bS.here,bS.below,bS.grow,bS.os,bS.tape,bS.output,λns s he=>by simp at he,?_⟩⟩
    .refine Ç (bS.below g (hS g o hs) (λhm=>?_));obtain⟨i,x,v,hx,hv,hb⟩:=Jk hm;obtain⟨v',gp,Jp⟩:=ha.get i x hx;rw[hv]at gp;simp at gp;subst gp;exact QV Jp hb o hs
    .intro m' ic;have:m'=m:=by simpa using ic.symm
     subst this;obtain⟨ad,len,cap,h1,h2,h3⟩:=oX;exact⟨ad,len,cap,by rw[h1];rfl,h2,by rw[h3]⟩
   .simp at bM
  .simp at bM
 .simp at bM
theorem QW{P:Â}{E:Env}(hT:ca P E.T)(hR:Rel N np S0 w0 refs σ a w S γ):∀{rs:H Ì}{cs:H Cel},zW E σ rs=B cs->
  ∃zs,All2 (λ(r:Ì) z=>((match r with
   |.tmp t=>pure (a.tmps.getD t undef)
   |.cell x t=>do loadVar t (<-asAddr (a.tmps.getD x undef)):Sem Y)).run P w = .ok z w) rs zs/\All2 (bE S w γ σ.bx) cs zs
 |[],cs,h=>by
  simp only[zW,jb]at h;subst h;exact⟨[],trivial,trivial⟩
 |r::rs,cs,h=>by
  simp only[zW]at h;split at h
  .rename_i c kJ hc dR;simp only[jb]at h;subst h;obtain⟨z,h1,h2⟩:=Ez (P:=P) hT hR hc;obtain⟨zs,h3,h4⟩:=QW hT hR dR;exact⟨z::zs,⟨h1,h3⟩,h2,h4⟩
  .simp at h
theorem QX{bx bx':G->BS}{ns:H G}(hb:∀k∈ns,bx' k=bx k){l:Leaf}{u:Y}(hl:rh ns l=X)(h:bj S w γ bx l u):bj S w γ bx' l u:=by
 cases l with
 |dead=>trivial
 |nil=>exact h
 |d t v=>exact h
 |ol k=>have hk:=hb k (by simpa[rh]using hl);exact⟨by rw[hk];exact h.1,h.2.1,by rw[hk];exact h.2.2⟩
 |bp k c=>have hk:=hb k (by simpa[rh]using hl);exact⟨by rw[hk];exact h.1,h.2.1,by rw[hk];exact h.2.2⟩
 |_=>simp[rh]at hl
theorem EB{bx bx':G->BS}{ns:H G}(hb:∀k∈ns,bx' k=bx k):∀{ls:H Leaf}{us:H Y},ls.all (rh ns)=X->All2 (bj S w γ bx) ls us->All2 (bj S w γ bx') ls us
 |[],[],_,_=>trivial
 |l::ls,u::us,hl,h=>by
  simp only[qz,jh]at hl;exact⟨QX hb hl.1 h.1,EB hb hl.2 h.2⟩
 |[],_::_,_,h=>h.elim
 |_::_,[],_,h=>h.elim
theorem ZX{bx bx':G->BS}{ns:H G}(hb:∀k∈ns,bx' k=bx k){c:Cel}{u:Y}(hl:He ns c=X)(h:bE S w γ bx c u):bE S w γ bx' c u:=by
 cases c with
 |one l=>exact⟨QX hb hl h.1,h.2⟩
 |st ls=>obtain⟨cs,hu,ha,h1⟩:=h;exact⟨cs,hu,EB hb hl ha,h1⟩
 |av n b xs=>exact h
theorem ZY{P:Â}{E:Env}(hT:ca P E.T){fn:Func}{args:H Arg}{vals:H Y}{σ':St}{a':À}{w':Z}{S':aM}{γ':G->Y}(hR:Rel N E.np S w (nE args vals) σ' a' w' S' γ')
  (ha:All2 (nr S w) args vals)(hS:∀g o,S g o->g<w.heap.size)(gQ:E.rw=X){ret:Ret}(bM:ri E fn args σ'=B ret){R:Type}{k:Ret->O R}{r:R}(hk:k ret=B r) :
  ∃v,(results fn a'.tmps).run P w' = .ok v w'/\∃ret,k ret=B r/\∃v' S' vs,Î v = .returned v'/\D3 w S args vals ret v' w' S' vs:=by
 unfold ri at bM;rw[if_pos gQ]at bM;unfold Oe at bM;split at bM
 case h_2=>simp at bM
 rename_i cs dR;split at bM
 case isFalse=>simp at bM
 rename_i bP;simp only[jh]at bP;obtain⟨dA,QY,dq,cm⟩:=bP;simp only[jb]at bM;subst bM;obtain⟨zs,jS,gg⟩:=QW hT hR dR
 have aE:(results fn a'.tmps).run P w' = .ok (kH zs) w':=by
  have hm:=Ey (P:=P) (w:=w') _ jS;unfold results;rw[va];simp only[Û,ö]
  erw [hm]
  simp only[Ð,Ü];exact congrArg (Result.ok · w') (Jl zs)
 have hlen:(cs.map Item.s++E.rn.map λk=>Item.b (σ'.bx k)).length-E.rn.length=cs.length:=af;have hC:rawC E.rn (cs.map Item.s++E.rn.map λk=>Item.b (σ'.bx k))=cs:=by unfold rawC;rw[hlen,List.take_left' af,ï];exact List.map_id' _
 have hU:rawU E.rn (cs.map Item.s++E.rn.map λk=>Item.b (σ'.bx k))=E.rn.map λk=>(k,σ'.bx k):=by
  unfold rawU;rw[hlen,List.drop_left' af,ï];generalize E.rn=l;induction l with
  |nil=>rfl
  |cons x l ih=>simp only[qq,Ø,ih];rfl
 have eu:∀k∈E.rn,(emp.upd (E.rn.map λk=>(k,σ'.bx k))).bx k=σ'.bx k:=λk hk=>
  tB _ emp (by rw[ï];simpa[Function.comp_def]using vG dA) (qg.2 ⟨k,hk,rfl⟩)
 have me:∀k b,(emp.upd (E.rn.map λk=>(k,σ'.bx k))).bx k = .live b->k∈E.rn/\σ'.bx k = .live b:=by
  intro k b hb;by_cases hk:k∈E.rn
  .exact⟨hk,(eu k hk).symm.trans hb⟩
  .rw[iv]at hb
   .simp[emp]at hb
   .rw[qi];intro x hx he;obtain⟨y,hy,rfl⟩:=qg.1 hx;simp only[zb]at he;exact hk (he▸hy)
 have Jq:∀k b,σ'.bx k = .live b->k∈E.rn->dQ S' w' γ' (emp.upd (E.rn.map λk=>(k,σ'.bx k))).bx k b:=by
  intro k b hb hk;have h1:=hR.box k b hb;have h2:=(Bool.and_eq_true_iff.1 (jr.1 QY k hk)).2;rw[hb]at h2;cases b with
  |cell ls f=>obtain⟨g,cur,e,q1,q2,q3,q4⟩:=h1;exact⟨g,cur,e,q1,q2,EB eu h2 q3,q4⟩
  |lst e t xs f=>exact h1
  |arr n t xs=>exact h1
  |row e t n ls=>obtain⟨q1,⟨kJ,q2,q3,q4⟩,q5⟩:=h1;exact⟨q1,⟨kJ,q2,EB eu h2 q3,q4⟩,q5⟩
 have pD:All2 (bE S' w' γ' (emp.upd (E.rn.map λk=>(k,σ'.bx k))).bx) cs zs:=by
  have go:∀(cs:H Cel)(zs:H Y),cs.all (He E.rn)=X->All2 (bE S' w' γ' σ'.bx) cs zs->All2 (bE S' w' γ' (emp.upd (E.rn.map λk=>(k,σ'.bx k))).bx) cs zs:=by
   intro cs;induction cs with
   |nil=>intro zs _ h;cases zs with|nil=>trivial|cons _ _=>exact h.elim
   |cons c cs ih=>
    intro zs dq h;cases zs with
    |nil=>exact h.elim
    |cons z zs=>simp only[qz,jh]at dq;exact⟨ZX eu dq.1 h.1,ih zs dq.2 h.2⟩
  exact go cs zs dq gg
 have mf:dI args vals=[]:=by
  clear aE pD hR;induction args generalizing vals with
  |nil=>cases vals<;>rfl
  |cons x xs ih=>
   cases vals with
   |nil=>rfl
   |cons v vs=>simp only[qz,jh]at cm;have:=ih ha.2 cm.2;cases x<;>simp_all[dI,jT,Hf]
 have dC:jH S' w' args vals []:=by
  clear aE pD hR mf;induction args generalizing vals with
  |nil=>cases vals with|nil=>trivial|cons _ _=>exact ha.elim
  |cons x xs ih=>
   cases vals with
   |nil=>exact ha.elim
   |cons v vs=>simp only[qz,jh]at cm;have:=ih ha.2 cm.2;cases x<;>first|exact this|(simp[Hf]at cm)
 refine⟨kH zs,aE,_,hk,kH zs,S',[kH zs],rfl,⟨rfl,⟨trivial,trivial⟩,λg hg=>by simp[gr,lx,jG]at hg,by simp[gr,lx,jG],dC,λg o hs=>⟨hR.ext g o hs,?_⟩,λg o h=>(hR.new g o h).imp id (λh=>h.imp id And.left),hR.here,
  hR.below,hR.grow,hR.os,hR.tape,hR.output,λns s he=>?_,λm hm=>by simp at hm⟩⟩
 .refine Ç (hR.below g (hS g o hs) (λhm=>?_));have hm:g∈dI args vals:=hm;rw[mf]at hm;simp at hm
 .simp only[List.cons.injEq,RV.raw.injEq,vq]at he;obtain⟨rfl,rfl⟩:=he;refine⟨γ',zs,rfl,by rw[hC,hU];exact pD,λk b hb=>?_,λk b g hb hg=>?_,λk k' b b' g br hb aG hg ao=>?_⟩
  .rw[hU]at hb ⊢;obtain⟨h1,h2⟩:=me k b hb;exact Jq k b h2 h1
  .rw[hU]at hb;obtain⟨h1,h2⟩:=me k b hb;rcases hR.own k b g h2 hg with h|h
   .rcases h with h|h
    .exact h
    .have hm:g∈dI args vals:=h.2;rw[mf]at hm;simp at hm
   .have:=(Bool.and_eq_true_iff.1 (jr.1 QY k h1)).1;rw[h.2]at this;simp at this
  .rw[hU]at hb aG;exact hR.apart k k' b b' g br (me k b hb).2 (me k' b' aG).2 hg ao
theorem Jr{P:Â}{fn:Func}{n:G}{R:Ending->Z->Prop}:∀(ds:H Deferred){refs:Refs}{σ:St}{a:À}{w:Z}{S:aM}{γ:G->Y},refs.ds=ds->yk w0 refs->Rel N np S0 w0 refs σ a w S γ->
  (∀w2,Rel N np S0 w0 ⟨refs.blks,refs.val,[],λ_=>Á,λ_=>Á,refs.mv⟩ σ { a with defers:=[] } w2 S γ->LeavesIn (FR Á) n P fn a.tmps R [] .returning w2)->LeavesInM (FR Á) n P fn a.tmps R ds .returning w
 |[],refs,σ,a,w,S,γ,hd,hm,hR,h=>h w (hR.swap rfl rfl hR.size rfl hR.slot (λg o h=>by simp at h) (λi v h=>by simp at h))
 |d::ds,refs,σ,a,w,S,γ,hd,hm,hR,h=>by
  obtain⟨dA,ar⟩:=hm;rw[hd]at dA;obtain⟨D,rfl,h1,h2⟩:=ar d (by rw[hd];simp);refine⟨af,.inl ⟨D,_,rfl,run_takeDeferred (hR.kept D _ h2).1,?_⟩⟩;have bm:=hR.putO (o':= .deferred Á) h2 h1 rfl rfl
  have bS:=bm.swap (a':={ a with defers:=ds }) (refs':=⟨refs.blks,refs.val,ds,λg=>if g=D then Á else refs.kw g,refs.fix,refs.mv⟩) rfl rfl hR.size rfl bm.slot (λg o hg=>bm.kept g o (by
   simp only at hg ⊢;split at hg
   .simp at hg
   .rename_i e;rw[if_neg e];exact hg)) bm.fix
  refine Jr (a:={ a with defers:=ds }) (refs:=⟨refs.blks,refs.val,ds,λg=>if g=D then Á else refs.kw g,refs.fix,refs.mv⟩) ds rfl ⟨(qt.1 dA).2,λd' fL=>?_⟩ bS (λw2 hw=>h w2 hw);obtain⟨D',rfl,q1,q2⟩:=ar d' (by rw[hd];simp[fL]);refine⟨D',rfl,q1,?_⟩;show (if D'=D then Á else refs.kw D')=_;rw[if_neg,q2]
  rintro rfl
  exact(qt.1 dA).1 fL
theorem ZZ{P:Â}{E:Env}(hT:ca P E.T)(hC:iQ P E.C)(hF:CFun E.C)(gX:P.follows .mixedOrders=X){f:G}{fn:Func}{c:Ò}(hf:P.funcs[f]? = B fn)(hb:fn.body=B c)(hN:fn.ntmps=E.N.n)(kR:E.N.pin=λ_=>U)(gF:∀f t,E.bw f=B t->BwK P f t)(BP:E.np<=E.N.n)
  (bO : (fn.name == "runtime.NumGoroutine") = U) (hL : ∀ x ∈ dP 0 c, yj E x.1 x.2 ∧ MrOK E x.1 x.2) : FnOK P f (fun args _ k => sU E fn args k) := by
 intro args R k r h;refine⟨⟨fn,hf,by rw[hb];rfl,bO⟩,?_⟩;intro w S vals ha dA hS;by_cases hlen:args.length=E.np
 case neg=>simp[sU,hlen]at h
 case pos=>
 simp only[sU,hb,hlen,if_true]at h;have tt:vals.length=E.np:=by rw[<-ha.length,hlen]
 obtain⟨Z0,gn⟩:=ZN (N:=E.N) ha dA hS hlen BP;refine Y9 (n:=0) (ro:=Á) (callsIn_of_wp_marks hf hb trivial ?_);rw[hN];refine wpIn_mono (ZM gX c (ro:=Á) hT hC hF gF (.inr ⟨rfl,kR⟩) 0 0 ⟨ã,λd hd=>by simp[nE]at hd⟩ hL Z0 gn h) ?_
 rintro e a0 w1 ⟨refs',ex,σ',S',γ',hle,_,rfl,bm,ia,hk⟩
 have kQ:∀(hk:(match ri E fn args σ' with|some r=>k r|none=>Á)=B r)(w':Z),Rel E.N E.np S w ⟨refs'.blks,refs'.val,[],λ_=>Á,λ_=>Á,refs'.mv⟩ σ' { a0 with defers:=[] } w' S' γ'->∃v,(results fn a0.tmps).run P w' = .ok v w'/\
   ∃ret,k ret=B r/\∃v' S' vs,Î v = .returned v'/\D3 w S args vals ret v' w' S' vs:=by
  intro hk w' hR;have hR:Rel E.N E.np S w (nE args vals) σ' { a0 with defers:=[] } w' S' γ':=hR.swap hle.blks.symm hle.val.symm hR.size rfl hR.slot (λg o h=>by simp[nE]at h) (λi v h=>by simp[nE]at h) hle.mv.symm;generalize EC:({ a0 with defers:=[] }:À)=a' at hR;have rP:a0.tmps=a'.tmps:=by rw[<-EC]
  rw[rP];cases bM:ri E fn args σ' with
  |none=>simp[bM]at hk
  |some ret=>
  simp only[bM]at hk;by_cases gQ:E.rw=X
  .exact ZY hT hR ha hS gQ bM hk
  by_cases BL:E.hd=X
  .exact ZU hT hR ha hS gQ BL bM hk
  have wu:∃vs ks u os u',nQ E σ' E.ro fn.results.toList fn.resultTypes.toList=B (vs,ks,u)/\outs E.np σ' 0 args=B (os,u')/\
    mB ks=X/\(u++u').all (λe=> !ks.contains e.1)=X/\∃im,nilV E σ' fn.results.toList vs=B im/\ret=⟨im,os⟩:=by
   unfold ri at bM;rw[if_neg gQ,if_neg BL]at bM;split at bM
   .rename_i vs ks u os u' gD nt;split at bM
    .rename_i bP;split at bM
     .rename_i im wv;simp only[jb]at bM;simp only[jh]at bP;exact⟨vs,ks,u,os,u',gD,nt,bP.1,bP.2,im,wv,bM.symm⟩
     .simp at bM
    .simp at bM
   .simp at bM
  obtain⟨vs,ks,u,os,u',gD,nt,qC,vL,im,wv,rfl⟩:=wu;obtain⟨zs,jS,f1,p1,n1,r1⟩:=QT hT hR gD;have eI:(∀S' w',All2 (nY S' w') vs zs->All2 (nY S' w') im zs)/\gr im zs=gr vs zs/\(∀m,im=[.hd m]->vs=[.hd m])/\∀ns s,im=[.raw ns s]->vs=[.raw ns s]:=ZQ hT hR jS wv;have eE:∀(j:G)(x:Arg)(v:Y),args[j]? = B x->vals[j]? = B v->wo x=X->γ' ((0+j)*64)=v:=by intro j x v hx hv hr;refine(hR.par ((0+j)*64) v ?_).2.2;simp only[nE,BM];rw[if_pos aa,vj _ aa,ke,hx];simp[hr,hv]
  obtain⟨f2,r2⟩:=Jg hR nt ha.length eE;obtain⟨S2,bS,cS,oP,dm⟩:=lO (u++u') σ' S' hR (FrzL.app.2 ⟨f1,f2⟩);obtain⟨Js,Jt⟩:=Froz.app.1 oP
  have nv:∀k b,(u++u').any (λy=>y.1==k)=U->σ'.bx k = .live b->Uns b->∀g,blk (γ' k)=B g->∀o,¬S2 g o:=by
   intro k b hk hb kK g hg o;have dM:(σ'.upd (u++u')).bx k = .live b:=(iv _ _ hk).trans hb;have cj:=bS.box k b dM;rcases kK with⟨ls,rfl⟩|⟨e,t,xs,rfl⟩
   .obtain⟨g',cur,e,ao,_,_,_,hS,_⟩:=cj;rw[ao]at hg;simp[blk]at hg;subst hg;exact hS rfl o
   .exact(cj.2 g hg).1 rfl o
  have rV:∀k∈ks,(u++u').any (λy=>y.1==k)=false:=by intro k hk;rw[qi];intro y hy he;have:=jr.1 vL y hy;simp only[zb]at he;rw[he]at this;simp[hk]at this
  have iw:∀k,parK E.np k=X->(u++u').any (λy=>y.1==k)=false:=by intro k hk;rw[qi];intro y hy he;simp only[zb]at he;have:=(FrzL.app.2 ⟨f1,f2⟩ y hy).1;rw[he,hk]at this;simp at this
  have BQ:=r1 S2 cS Js (λk hk g hg=>by
   obtain⟨⟨b,hb,hu⟩,_⟩:=p1 k hk;exact nv k b (rV k hk) hb hu g hg)
  have dC:=r2 S2 cS Jt (λj x v g hx hv hr Jo hg=>by
   obtain⟨b,hb,hu⟩:=Jo;have hj:j<args.length:=(jt.1 hx).1;exact nv ((0+j)*64) b (iw _ (by simp[parK];omega)) hb hu g (by rw[eE j x v hx hv hr];exact hg))
  have aE:(results fn a'.tmps).run P w' = .ok (kH zs) w':=by
   have hm:=Ey (P:=P) (w:=w') _ jS;unfold results;rw[va];simp only[Û,ö]
   erw [hm]
   simp only[Ð,Ü];exact congrArg (Result.ok · w') (Jl zs)
  have Z1:∀m,im=[.hd m]->∃ad len cap,D2 args vals=B (.slice ad len cap)/\m<=len/\zs=[.slice ad m cap]:=λm hm=>by
   exact absurd (eI.2.2.1 m hm) (ZS gD m)
  have Z2:∀ns s,im=[.raw ns s]->HT w.heap.size S2 w' ns s (kH zs):=λns s hm=>absurd (eI.2.2.2 ns s hm) (ZT gD ns s);refine⟨kH zs,aE,⟨im,os⟩,hk,kH zs,S2,zs,rfl,⟨rfl,eI.1 _ _ BQ,λg hg=>?_,?_,dC,λg o hs=>⟨bS.ext g o hs,?_⟩,λg o h=>(bS.new g o h).imp id (λh=>h.imp id And.left),bS.here,bS.below,bS.grow,bS.os,bS.tape,bS.output,Z2,Z1⟩⟩
  .rw[eI.2.1,n1]at hg;obtain⟨k,bg,Z3⟩:=zt.1 hg;obtain⟨⟨b,hb,_⟩,hp⟩:=p1 k bg;rcases hR.own k b g hb Z3 with h|h
   .exact h.imp id And.left
   .rw[hp]at h;simp at h
  .rw[eI.2.1,n1];exact HV hR (vG qC) (λk bg=>by obtain⟨⟨b,hb,_⟩,_⟩:=p1 k bg;exact⟨b,hb⟩)
  .refine Ç (bS.below g (hS g o hs) (λhm=>?_));obtain⟨i,x,v,hx,hv,hb⟩:=Jk hm;obtain⟨v',gp,Jp⟩:=ha.get i x hx;rw[hv]at gp;simp at gp;subst gp;exact QV Jp hb o hs
 cases ex with
 |exit i=>simp at hk
 |normal=>exact Jr a0.defers bm.defers.symm hle.marks bm (λw2 hw=>kQ hk w2 hw)
 |ret=>exact Jr a0.defers bm.defers.symm hle.marks bm (λw2 hw=>kQ hk w2 hw)
end
section
variable{E:Env}
def LFun(L:G->Snap->(R:Type)->(Ex->Snap->O R)->O R):Prop:=
 ∀b s,∃o:O (Ex×Snap),∀(R:Type)(k:Ex->Snap->O R),L b s R k=o.bind λx=>k x.1 x.2
def MFun(M:G->Snap->(R:Type)->(Snap->O R)->O R):Prop:=∀b s,∃o:O Snap,∀(R:Type)(k:Snap->O R),M b s R k=o.bind k
def Det{α:Type}(f:(R:Type)->(α->O R)->O R):Prop:=∃o:O α,∀(R:Type)(k:α->O R),f R k=o.bind k
theorem Det.val{α:Type}(x:α):Det (λ_ k=>k x):=⟨B x,λ_ _=>rfl⟩
theorem Det.no{α:Type}:Det (λR (_:α->O R)=>Á):=⟨Á,λ_ _=>rfl⟩
theorem Det.cond{α:Type}{f g:(R:Type)->(α->O R)->O R}(b:Æ)(h:Det f)(h':Det g):Det (λR k=>cond b (f R k) (g R k)):=by
 cases b with
 |true=>exact h
 |false=>exact h'
theorem Det.bind{α β:Type}{f:(R:Type)->(α->O R)->O R}{g:α->(R:Type)->(β->O R)->O R}(h:Det f)(h':∀a,Det (g a)):Det (λR k=>f R λa=>g a R k):=by
 obtain⟨o,ho⟩:=h;cases o with
 |none=>exact⟨Á,λR k=>ho R _⟩
 |some a=>obtain⟨o',vZ⟩:=h' a;exact⟨o',λR k=>(ho R _).trans (vZ R k)⟩
theorem Det.congr{α:Type}{f g:(R:Type)->(α->O R)->O R}(h:Det f)(e:∀R k,g R k=f R k):Det g:=by
 obtain⟨o,ho⟩:=h;exact⟨o,λR k=>(e R k).trans (ho R k)⟩
theorem QZ{v:Ï}{f:Ï->(R:Type)->(St->O R)->O R}(h:∀j,Det (f j)):∀m j,Det (λR k=>xr v (λi=>f i R k) m j)
 |0,_=> .no
 |m+1,j=> .cond _ (h _) (QZ h m (j+1))
theorem Q0(σ:St)(o:Ä):Det (λR (k:St->O R)=>pre σ o k):=by
 unfold pre;split
 .rename_i t kk v n _;exact QZ (f:=λj R k=>k (σ.setS t (.one (.one (.d (.int kk) j))))) (λj=> .val _) n 0
 .exact .val _
theorem ED(hF:CFun E.C)(hz:E.nz=U)(p:Æ)(σ:St)(act:H (G×Æ))(o:Ä):Det (λR (k:St->O R)=>run1 E p σ act o k):=by
 unfold run1;refine Det.bind (Q0 σ o) λσ=>?_;simp only[hz,jd];split
 .exact .no
 .exact .cond _ (.val _) .no
 .rename_i f args mk _;refine Det.bind (f:=λR k=>E.C f args R k) (hF f args) λret=>?_;split
  .exact .val _
  .exact .no
theorem Q1:∀(l:H (G×Æ))(σ:St),Det (λR (k:St×Æ->O R)=>sM l σ λa b=>k (a,b))
 |[],σ=> .val _
 |(s,w)::r,σ=>by
  simp only[sM]
  refine(Det.bind (Q1 r σ) (g:=λx R k=>match x.2 with
   |true=>match G5 r x.1 s with
    |some v=>cond v (k (x.1.setS s (.one (.one (.d .bool X))),w)) (k (x.1.setS s (.one (.one (.d .bool U))), !w))
    |none=>Á
   |false=>k (x.1,U)) λx=>?_).congr λR k=>rfl
  obtain⟨σ1,a⟩:=x;cases a with
  |true=>
   dsimp only
   split
   .exact .cond _ (.val _) (.val _)
   .exact .no
  |false=>exact .val _
theorem Z5(hF:CFun E.C)(hz:E.nz=U)(ops:Ã Ä)(σ:St)(o:Ä):Det (λR (k:St->O R)=>zI E ops σ o k):=by
 unfold zI;split
 .split
  .exact ED hF hz _ _ _ _
  .exact .no
 .rename_i g _
  have ou:Det (λR (k:St->O R)=>sM (σ.chain 40 g) σ λσ' a=>match a with
    |true=>run1 E X σ' (σ.chain 40 g) o k
    |false=>k (σ'.put o.dst (.one (.one .dead)))):=by
   refine(Det.bind (Q1 (σ.chain 40 g) σ) (g:=λx R k=>match x.2 with
    |true=>run1 E X x.1 (σ.chain 40 g) o k
    |false=>k (x.1.put o.dst (.one (.one .dead)))) λx=>?_).congr λR k=>rfl
   obtain⟨σ1,a⟩:=x;cases a with
   |true=>exact ED hF hz _ _ _ _
   |false=>exact .val _
  dsimp only
  split
  .split
   .exact .cond _ (.val _) .no
   .exact ou
  .exact ou
theorem Ju(hF:CFun E.C)(hz:E.nz=U):∀(l:H Ä)(σ:St),Det (λR (k:St->O R)=>na E l σ k)
 |[],σ=> .val _
 |o::os,σ=>by
  simp only[na];split
  .exact Det.bind (ED hF hz U σ [] o) λσ'=>Ju hF hz os σ'
  .exact .no
theorem Q2(hF:CFun E.C)(hz:E.nz=U)(ops:Ã Ä):∀(l:H Ä)(σ:St),Det (λR (k:St->O R)=>xt E ops l σ k)
 |[],σ=> .val _
 |o::os,σ=>by
  simp only[xt];split
  .exact Det.bind (Z5 hF hz ops σ o) λσ'=>Q2 hF hz ops os σ'
  .exact .no
theorem Z6(hF:CFun E.C)(hz:E.nz=U)(ops:Ã Ä)(σ:St):Det (λR (k:St->O R)=>nO E ops σ k):=by
 unfold nO;split
 .exact Ju hF hz _ _
 .exact Q2 hF hz _ _ _
theorem Q3(hF:CFun E.C)(hz:E.nz=U)(σ:St)(o:Ä):Det (λR (k:St->O R)=>runK E σ o k):=by
 unfold runK;split
 .rename_i c σ' _;exact .cond c (.val σ') .no
 .exact ED hF hz U σ [] o
theorem Jv(hF:CFun E.C)(hz:E.nz=U):∀(l:H Ä)(σ:St),Det (λR (k:St->O R)=>qZ E l σ k)
 |[],σ=> .val σ
 |[o],σ=>by
  simp only[qZ];split
  .exact Q3 hF hz σ o
  .exact .no
 |o::o2::os,σ=>by
  simp only[qZ];split
  .split
   .split
    .exact .cond _ (Jv hF hz os _) .no
    .exact .no
   .exact Det.bind (Q3 hF hz σ o) λσ'=>Jv hF hz (o2::os) σ'
  .exact .no
theorem Z7(hF:CFun E.C)(hz:E.nz=U)(ops:Ã Ä)(σ:St):Det (λR (k:St->O R)=>zJ E ops σ k):=by
 unfold zJ;split
 .exact Jv hF hz _ _
 .exact .no
theorem Jw(hF:CFun E.C)(hz:E.nz=U)(M Ai:H G)(σ:St)(o:Ä):Det (λR (k:St->O R)=>runD E M Ai σ o k):=by
 unfold runD;refine Det.bind (Q0 σ o) λσ=>?_;split
 .exact .no
 .split
  .exact .cond _ (.val _) .no
  .exact .no
 .rename_i f args mk _;refine Det.bind (f:=λR k=>E.C f args R k) (hF f args) λret=>?_;split
  .split
   .exact .val _
   .exact .no
  .exact .no
theorem Z8(hF:CFun E.C)(hz:E.nz=U)(ops:Ã Ä)(M Ai:H G)(σ:St)(o:Ä):Det (λR (k:St->O R)=>zM E ops M Ai σ o k):=by
 unfold zM;split
 .exact Jw hF hz _ _ _ _
 .split
  .split
   .exact .cond _ (.cond _ (Jw hF hz _ _ _ _) (.val _)) (.cond _ (.val _) (Jw hF hz _ _ _ _))
   .exact .val _
   .exact .no
  .exact .no
theorem Q4(hF:CFun E.C)(hz:E.nz=U)(ops:Ã Ä)(cl:H G)(A:H (H G)):∀(l:H Ä)(i:G)(σ:St),Det (λR (k:St->O R)=>xu E ops cl A l i σ k)
 |[],_,σ=> .val _
 |o::os,i,σ=>by
  simp only[xu];split
  .exact Det.bind (Z8 hF hz ops _ _ σ o) λσ'=>Q4 hF hz ops cl A os (i+1) σ'
  .exact .no
theorem Z9(hF:CFun E.C)(hz:E.nz=U)(ops:Ã Ä)(A:H (H G))(σ:St):Det (λR (k:St->O R)=>zN E ops A σ k):=by
 unfold zN;split
 .exact Q4 hF hz _ _ _ _ _ _
 .exact .no
theorem Jy(np:G):∀(gs:H Gh)(σ:St),Det (λR (k:St->O R)=>uI np gs σ k)
 |[],σ=> .val _
 |g::gs,σ=>by
  simp only[uI];split
  .exact .cond _ (Jy np gs _) .no
  .exact .no
theorem Q5{f:(R:Type)->G->St->(Ex->St->O R)->O R}(hf:∀i σ,Det (λR (k:Ex×St->O R)=>f R i σ λe σ'=>k (e,σ'))):∀(n i:G)(σ:St),
  Det (λR (k:Ex×St->O R)=>sR (f R) n i σ λe σ'=>k (e,σ'))
 |0,_,σ=> .no
 |n+1,i,σ=>by
  refine(Det.bind (hf i σ) (g:=λz R k=>match z.1 with
   |.normal=>sR (f R) n (i+1) z.2 λe σ'=>k (e,σ')
   |e=>k (e,z.2)) λz=>?_).congr λR k=>by
    simp only[sR];congr 1;try (funext e σ';cases e<;>rfl)
  obtain⟨e,σ'⟩:=z;cases e with
  |normal=>exact Q5 hf n (i+1) σ'
  |exit i=>exact .val _
  |ret=>exact .val _
theorem _a(hF:CFun E.C)(hz:E.nz=U)(hM:MFun E.M)(x y:Ò)(σ:St):Det (λR (k:Ex×St->O R)=>zT E x y σ λe σ'=>k (e,σ')):=by
 unfold zT;exact .cond _ .no .no
theorem _b:∀(c:Ò){E:Env}(_:CFun E.C)(_:E.nz=U)(_:LFun E.L/\MFun E.M)(b:G)(σ:St),Det (λR (k:Ex×St->O R)=>eD E b c σ λe σ'=>k (e,σ')):=by
 intro c;induction c with
 |skip=>intro E hF hz hL b σ;exact .val _
 |region id ops draw=>
  intro E hF hz hL b σ;cases draw with
  |true=>exact Det.bind (Jy E.np (E.pre id) σ) λσ1=>Det.bind (Z9 hF hz ops (E.dw id) σ1) λσ'=> .val (Ex.normal,σ')
  |false=>exact Det.bind (Jy E.np (E.pre id) σ) λσ1=> .cond _ (Det.bind (Z7 hF hz ops σ1) λσ'=> .val (Ex.normal,σ')) (Det.bind (Z6 hF hz ops σ1) λσ'=> .val (Ex.normal,σ'))
 |seq x y pt pw=>
  intro E hF hz hL b σ;simp only[eD];refine .cond _ (_a hF hz hL.2 x y σ) ?_
  refine(Det.bind (pt hF hz hL b σ) (g:=λz R k=>match z.1 with
   |.normal=>eD E b y z.2 λe σ'=>k (e,σ')
   |e=>k (e,z.2)) λz=>?_).congr λR k=>by
    congr 1
    try (funext e σ';cases e<;>rfl)
  obtain⟨e,σ'⟩:=z;cases e with
  |normal=>exact pw hF hz hL b σ'
  |exit i=>exact .val _
  |ret=>exact .val _
 |cond c x y pt pw=>
  intro E hF hz hL b σ;simp only[eD];split
  .exact .cond _ (pt hF hz hL b _) (pw hF hz hL b _)
  .exact .no
 |block id c ih=>
  intro E hF hz hL b σ
  refine(Det.bind (ih hF hz hL id σ) (g:=λz R k=>match z.1 with
   |.exit i=>if i=id then k (.normal,z.2) else k (.exit i,z.2)
   |e=>k (e,z.2)) λz=>?_).congr λR k=>by
    simp only[eD];congr 1;try (funext e σ';cases e<;>rfl)
  obtain⟨e,σ'⟩:=z;cases e with
  |normal=>exact .val _
  |exit i=>
   dsimp only
   split
   .exact .val _
   .exact .val _
  |ret=>exact .val _
 |loop c ih=>
  intro E hF hz hL b σ;simp only[eD];refine .cond _ .no (.cond _ ?_ ?_)
  .exact Q5 (f:=λR i σ k=>eD (E.offR (cond (dP b c).isEmpty i 0)) b c σ k) (λi σ=>ih (E:=E.offR (cond (dP b c).isEmpty i 0)) hF hz hL b σ) (E.un b) 0 σ
  split
  .rename_i s _;obtain⟨o,ho⟩:=hL.1 b s;exact Det.bind (f:=λR k=>E.L b s R λe s'=>k (e,s')) ⟨o,λR k=>ho R _⟩ (g:=λz R k=>k (z.1,cR E.np (E.keepX b z.1) z.2)) λz=> .val _
  .exact .no
 |rangeFunc g ps x y _ _=>
  intro E hF hz hL b σ;simp only[eD];split
  .split
   .rename_i kd _;split
    .rename_i s _;obtain⟨o,ho⟩:=hL.1 b (.s (.one (.d (.int .i64) (zO kd (à _))))::s);exact Det.bind (f:=λR k=>E.L b _ R λe s'=>k (e,s')) ⟨o,λR k=>ho R _⟩ (g:=λz R k=>k (z.1,cR E.np (E.keepX b z.1) z.2)) λz=> .val _
    .exact .no
   .exact .no
  .exact .no
 |scope c ih=>intro E hF hz hL b σ;exact ih hF hz hL b σ
 |label l=>intro E hF hz hL b σ;exact .val _
 |exit i=>intro E hF hz hL b σ;exact .val _
 |ret=>intro E hF hz hL b σ;exact .val _
 |_=>intro E hF hz hL b σ;exact .no
theorem BR(hF:CFun E.C)(hz:E.nz=U)(hL:LFun E.L/\MFun E.M)(c:Ò)(b:G)(σ:St):Det (λR (k:Ex×St->O R)=>eD E b c σ λe σ'=>k (e,σ')):=_b c hF hz hL b σ
theorem _c(hF:CFun E.C)(hz:E.nz=U)(hL:LFun E.L/\MFun E.M)(b:G)(g:Ô)(ps:Ã G)(x y:Ò)(s:Snap) :
  Det (λR (k:O (H Item)×Ex×St->O R)=>zU E b g ps x y s λp e σ'=>k (p,e,σ')):=by
 unfold zU;split
 .rename_i n s0;split
  .split
   .rename_i kd _;refine .cond _ (.val _) (.cond _ ?_ .no)
    refine(Det.bind (BR (E:=E.rnd ps x y) hF hz hL x 0 _) (g:=λz R k=>match z.1 with
     |.normal=>eD (E.rnd ps x y) 0 y z.2 λe σ'=>k (B [.s (.one (.d (.int .i64) (zP kd n)))],e,σ')
     |_=>Á) λz=>?_).congr λR k=>by
      congr 1
      try (funext e σ';cases e<;>rfl)
    obtain⟨e,σ'⟩:=z;cases e with
    |normal=>exact Det.bind (BR (E:=E.rnd ps x y) hF hz hL y 0 σ') λz=> .val (_,z)
    |exit i=>exact .no
    |ret=>exact .no
   .exact .no
  .exact .no
 .exact .no
theorem _d(hF:CFun E.C)(hz:E.nz=U)(hL:LFun E.L/\MFun E.M)(b:G)(p:MrP)(m:G)(s:Snap)(v:Ty)(q:Ï)(z:v.den):Det (λR (k:Snap->O R)=>zV E b p m s v q z k):=by
 unfold zV;refine Det.bind (Ju (E:=E.mrE p.it m) hF hz _ _) λσ1=>?_
 refine(Det.bind (BR (E:=E.mrE p.it m) hF hz hL p.rest p.b6 σ1) (g:=λz R k=>cond (mrNx p.b6 z.1) (match il E.np (E.keep b) z.2 with
  |some s'=>k s'
  |none=>Á) Á) λz=> .cond _ ?_ .no).congr λR k=>rfl
 split
 .exact .val _
 .exact .no
theorem _e(hF:CFun E.C)(hz:E.nz=U)(hL:LFun E.L/\MFun E.M)(fn:Func)(args:H Arg):Det (λR (k:Ret->O R)=>sU E fn args k):=by
 unfold sU;split
 .split
  .rename_i c _
   refine(Det.bind (BR hF hz hL c 0 (St.init args)) (g:=λz R k=>match z.1 with
    |.exit _=>Á
    |_=>match ri E fn args z.2 with
     |some r=>k r
     |none=>Á) λz=>?_).congr λR k=>rfl
   obtain⟨e,σ'⟩:=z;cases e<;>dsimp only<;>(try split)<;>first|exact .no|exact .val _
  .exact .no
 .exact .no
end
end Go.Lft
