/- Im: what MT do is what the p7 says. -/
import Derived.Test.YtmccfdihkphfaaaGreatCELB
import Derived.Laws.Cover3
import Derived.RangeFuncNested
import Derived.OrdersIn
import Derived.Maps.Range
open Option renaming some->B,none->Â
open _root_ renaming Nat->G,List->H,Option->O,Array->Ã,Bool->Æ,Int->Ú
open Bool renaming false->U,true->X,not_eq_true->Ü,false_or->ü
open Go renaming Value->Y,World->Z,Act->À,Program->Á,Oper->Ä,ResultVar->Î,Exit->Ó,Code->Ô,Operand->Ö,MapEntry->ì,LetsOut->ñ,CallsIn->ý
open Go.Region renaming wanted->Å,ready->í
open List renaming drop_eq_getElem_cons->Ç,drop_of_length_le->Ê,getD_eq_getElem?_getD->Ë,zip_cons_cons->Û,of_mem_zip->à,range_eq_range'->ä,getElem?_zipIdx->å,map_congr_left->è,range'->ð,idxOf?_cons->ò,flatMap_def->ó,map_map->ÿ
open Go.World renaming cell?_of_block->È,putObj_heap_other->É,putObj_heap_same->ß,alloc_heap_new->æ,cell?_alloc_lt->ç
open Go.Value renaming int->Ì
open Array renaming getD_eq_getD_getElem?->Í,mapM_eq_mapM_toList->Ï,replicate->Ù,getElem_mem->ï,ext'->ù
open Go.Oper renaming upon_enter->Ð,wp->Õ,upon_value->Ø,upon_skip->â
open Go.Ending renaming returned->Ñ
open Go.Result renaming andThen_ok->Ò
open Go.Sem renaming run_bind->Ý,run_pure->Þ,run_map->õ
open Nat renaming eq_of_beq_eq_true->á,add_assoc->ê,lt_succ_self->ô,strongRecOn->ö
open Go.Instr renaming sureAddr->ã,loadAt->î,endRound->ú
set_option linter.unusedVariables false
namespace Go.Lft
section
variable{N:NT}{np:G}{S0:aX}{w0:Z}{refs:Refs}{σ:St}{a:À}{w:Z}{S:aX}{γ:G->Y}
def du(σ:St):Prop:=∀i,(σ.sl i).bare=X
theorem Cx{d:G}(hd:d<a.tmps.size)(v:Y)(j:G):tm (a.put (B d) v) j=if j=d then v else tm a j:=by
 unfold tm Go.Act.put;by_cases h:j=d
 .subst h;simp[hd]
 .have h':d≠j:=λe=>h e.symm
  simp_all
theorem XH{bx:G->BS}{d:G}(hd:d<a.tmps.size){v u:Y}{x:Slot}(h:jD S w γ bx (tm a) x u):jD S w γ bx (tm (a.put (B d) v)) (kill d x) u:=by
 cases x with
 |one c=>exact h
 |tup l=>exact h
 |und=>exact h
 |cnd s b c=>
  simp only[kill];split
  .exact⟨trivial,λh=>absurd rfl h⟩
  grind[jD,Cx]
theorem M1(dst:O G)(v:Y):(a.put dst v).tmps.size=a.tmps.size:=by cases dst<;>simp[Go.Act.put]
theorem M3(dst:O G)(v:Y):(a.put dst v).defers=a.defers:=by cases dst<;>rfl
theorem jps(hR:Rel N np S0 w0 refs σ a w S γ){dst:O G}(hd:∀d,dst=B d->N.ok d){s:Slot}{v:Y}(hs:jD S w γ σ.bx (tm a) s v) :
  Rel N np S0 w0 refs (σ.put dst s) (a.put dst v) w S γ:=by
 cases dst with
 |none=>exact hR
 |some d=>
  have iH:d<a.tmps.size:=by rw[hR.size];exact(hd d rfl).1
  refine⟨(M1 _ _).trans hR.size,(M3 _ _).trans hR.defers,λi=>?_,hR.box,hR.own,hR.apart,hR.ext,hR.new,hR.here,hR.below,hR.grow,hR.os,hR.tape,hR.output,hR.par,hR.kept,λi u h=>?_⟩
  .show jD S w γ σ.bx (tm (a.put (B d) v)) (kill d (if i=d then s else σ.sl i)) (tm (a.put (B d) v) i);rw[Cx iH];split
   .exact XH iH hs
   .exact XH iH (hR.slot i)
  .obtain⟨h1,h2⟩:=hR.fix i u h;refine⟨h1,?_⟩;show tm (a.put (B d) v) i=u;rw[Cx iH,if_neg]
   .exact h2
   .rintro rfl
    have:=(hd i rfl).2
    simp_all
theorem XI{d:G}{x:Slot}(h:x.bare=X):kill d x=x:=by cases x<;>first|rfl|simp[Slot.bare]at h
theorem EY(hR:Rel N np S0 w0 refs σ a w S γ)(hc:du σ){dst:O G}(hd:∀d,dst=B d->N.ok d){s:Slot}{v:Y}(hs:jD S w γ σ.bx (tm a) s v)(hb:s.bare=X) :
  Rel N np S0 w0 refs (σ.setD dst s) (a.put dst v) w S γ/\du (σ.setD dst s):=by
 have he:σ.setD dst s=σ.put dst s:=by
  cases dst with
  |none=>rfl
  |some d=>
   simp only[St.setD,St.setS,St.put];congr 1;funext j;split
   .exact(XI hb).symm
   .exact(XI (hc j)).symm
 refine⟨he▸jps hR hd hs,λi=>?_⟩;cases dst with
 |none=>exact hc i
 |some d=>
  simp only[St.setD,St.setS];split
  .exact hb
  .exact hc i
theorem Ah{o:Ä}(h:nC N o=X):∀d,o.dst=B d->N.ok d:=by
 grind[nC,NT.ok]
theorem XJ{u:Ups}(h:du σ):du (σ.upd u):=by
 intro i;rw[vK];exact h i
theorem jzt{P:Á}{E:Env}(hT:cP P E.T)(hR:Rel E.N E.np S0 w0 refs σ a w S γ){o:Ä}{e:Æ}(h:nilT E σ o=B e) :
  ∃v b,(execOp a.eval o).run P w = .ok (.value v) w/\v = .bool b/\(b=X->e=X):=by
 unfold nilT at h;split at h
 .rename_i t x y ty cg;split at h
  .rename_i el xs ti hx hy B8;split at h
   .rename_i hl;simp only[j5]at h;subst h;have ex:=nD hR x;have ey:=nD hR y;rw[hx]at ex;rw[hy]at ey;obtain⟨ad,cap,dm,hlen,_,XK,_⟩:=ex.1;have Io:a.eval x = .slice ad (List.length xs) cap:=by simpa using dm
    have XL:a.eval y = .slice Â 0 0:=ey.1;obtain⟨a',bJ⟩:=Mc hl;obtain⟨hd,_⟩:=oD hT B8 bJ;refine⟨.bool ad.isNone,ad.isNone,?_,rfl,λhb=>?_⟩;all_goals simp_all[execOp,eqGuard,binOp,run_equal_slice_nil]
   .simp at h
  .simp at h
 .simp at h
theorem EZ{P:Á}{E:Env}(hT:cP P E.T)(hC:lk P E.C)(hR:Rel E.N E.np S0 w0 refs σ a w S γ){act:H (G×Æ)}(bk:sJ (tm a) act){p:Æ}
  (hc:p=U->du σ){o:Ä}(hd:nC E.N o=X){R:Type}{k:St->O R}{r:R}(h:run1 E p σ act o k=B r){next:À->Z->Prop}{Q:Ó->À->Z->Prop}
  (hn:∀σ' a' w' S' γ',Rel E.N E.np S0 w0 refs σ' a' w' S' γ'->(p=U->du σ')->k σ'=B r->next a' w'):o.wp P a w next Q:=by
 have hd:=Ah hd
 have fV:∀(u:Ups)(s:Slot)(v:Y)(w':Z)(S':aX)(γ':G->Y),Rel E.N E.np S0 w0 refs (σ.upd u) a w' S' γ'->jD S' w' γ' (σ.upd u).bx (tm a) s v->s.bare=X->
   k (cond p ((σ.upd u).put o.dst s) ((σ.upd u).setD o.dst s))=B r->next (a.put o.dst v) w':=by
  intro u s v w' S' γ' dK hs hb hk;cases p with
  |true=>exact hn _ _ _ _ _ (jps dK hd hs) ae hk
  |false=>obtain⟨h1,h2⟩:=EY dK (XJ (hc rfl)) hd hs hb;grind
 unfold run1 at h
 replace h:=V0 h
 split at h
 .rename_i e he;have he:nilT E σ o=B e:=by grind
  obtain⟨v,b,aU,rfl,hb⟩:=jzt (P:=P) hT hR he;obtain⟨h1,h2⟩:=jwd h;unfold Õ;rw[aU,Ø];cases b with
  |true=>exact fV [] (.one (.one (.d .bool X))) (.bool X) w S γ hR ⟨rfl,λ_=>rfl⟩ rfl (h2 (hb rfl))
  |false=>exact fV [] (.one (.one (.d .bool U))) (.bool U) w S γ hR ⟨rfl,λ_=>rfl⟩ rfl h1
 split at h
 .simp at h
 .rename_i chk s u ho;cases chk with
  |false=>simp at h
  |true=>obtain⟨⟨v,w',S',γ',aU,dK,hs⟩,hb⟩:=MX hT hR bk (λ_=> .inl rfl) ho;unfold Õ;rcases aU with aU|⟨aU,rfl⟩;all_goals grind[Ø,â]
 .rename_i f args mk ho;obtain⟨hf,eb⟩:=hC f args R _ r h;obtain⟨vals,aU,oV,hb⟩:=XG hR bk (λ_=> .inl rfl) ho hf eb;unfold Õ;rw[aU,Ð];refine oV.mono ?_;grind
theorem XM{P:Á}{E:Env}(hT:cP P E.T)(hC:lk P E.C){ops:Ã Ä}(dL:bare ops=X){R:Type}{k:St->O R}{r:R}{Q:Ó->À->Z->Prop}
  (hn:∀σ' a' w' S' γ',Rel E.N E.np S0 w0 refs σ' a' w' S' γ'->du σ'->k σ'=B r->Q .normal a' w') :
  ∀(n i:G)(σ:St)(a:À)(w:Z)(S:aX)(γ:G->Y),i+n=ops.size->Rel E.N E.np S0 w0 refs σ a w S γ->du σ->qE E (ops.toList.drop i) σ k=B r->
   wpOps P ops Q (ð i n) a w
 |0,i,σ,a,w,S,γ,hi,hR,hc,h=>by
  rw[Ê aj]at h;exact hn _ _ _ _ _ hR hc h
 |n+1,i,σ,a,w,S,γ,hi,hR,hc,h=>by
  have ao:i<ops.size:=aa;rw[Ç (by simpa using ao)]at h;simp only[qE]at h;split at h
  .rename_i hd;have ho:ops[i]? = B ops[i]:=ju ao;simp only[ve,wpOps,ho];have hg:ops[i].guard=none:=by have:=jw.1 dL ops[i] ae;simpa using this
   have hw:Å ops[i] (yielded ops a.tmps)=true:=by simp[Å,hg]
   simp only[hw,if_true];refine .inl (EZ hT hC hR (act:=[]) (λg hg=>by simp at hg) (p:=U) (λ_=>hc) (by simpa using hd) (by simpa using h) (λσ' a' w' S' γ' dK dO hk=>?_));exact XM hT hC dL hn n (i+1) σ' a' w' S' γ' aa dK (dO rfl) hk
  .simp at h
theorem Ip{ops:Ã Ä}{o:Ä}{g:G×Æ}(h:p9 ops o=B g):Å o (yielded ops a.tmps)=X↔tm a g.1 = .bool g.2:=by
 unfold p9 at h;split at h
 .simp at h
 .rename_i j wn M4;split at h
  .rename_i oj qR;split at h
   .rename_i s hs;simp only[j5]at h;subst h;simp only[Å,M4,yielded,qR,j4,hs,tm];cases hq:a.tmps[s]? with
    |none=>grind[undef]
    |some v=>
     have:a.tmps.getD s undef=v:=by simp[hq]
     grind
   .simp at h
  .simp at h
theorem M5(hR:Rel N np S0 w0 refs σ a w S γ):∀(n:G)(g:G×Æ),tm a g.1 = .bool g.2->sJ (tm a) (σ.chain n g)
 |0,g,h=>by intro x hx;simp only[St.chain,k9]at hx;subst hx;exact h
 |n+1,g,h=>by
  simp only[St.chain];have hs:=hR.slot g.1;split
  .rename_i s b c hc;rw[hc]at hs
   have h2:tm a s = .bool b:=by
    rcases hs with hs|hs
    .exact hs.1
    .have:tm a g.1=undef:=hs.2;rw[h]at this;simp[undef]at this
   intro x hx;rcases jb.1 hx with rfl|hx
   .exact h
   .exact M5 hR n (s,b) h2 x hx
  .intro x hx;simp only[k9]at hx;subst hx;exact h
theorem jB7:∀(n:G)(g:G×Æ),g∈σ.chain n g
 |0,g=>by simp[St.chain]
 |n+1,g=>by grind[St.chain]
theorem XN(hR:Rel N np S0 w0 refs σ a w S γ):∀{l:H (G×Æ)}{b:Æ},actB σ l=B b->sJ (tm a) l->b=X
 |[],b,h,_=>by simp[actB]at h;exact h
 |(s,wn)::r,b,h,ha=>by
  have ht:tm a s = .bool wn:=ha (s,wn) ae;simp only[actB]at h;split at h
  .rename_i v hv
   have hvv:v=wn:=by
    have hs:=hR.slot s;unfold gval at hv;split at hv
    .rename_i v' fp;simp only[j5]at hv;subst hv;rw[fp]at hs;have:tm a s = .bool v':=uz hs;rw[ht]at this;simpa using this.symm
    .rename_i s' b' v' fp;simp only[j5]at hv;subst hv;rw[fp]at hs;rcases hs with hs|hs
     .have:tm a s = .bool v':=uz hs.2;rw[ht]at this;simpa using this.symm
     .have:tm a s=undef:=hs.2;rw[ht]at this;simp[undef]at this
    .simp at hv
   subst hvv;split at h
   .simp only[j5]at h;rw[<-h];cases v<;>rfl
   .split at h
    .rename_i b2 gm;simp only[j5]at h;have:=XN hR gm (λg hg=>ha g (by simp[hg]));rw[<-h,this];cases v<;>rfl
    .simp at h
  .simp at h
theorem M6(hR:Rel N np S0 w0 refs σ a w S γ){s:G}{x:Slot}(h:jD S w γ σ.bx (tm a) x (tm a s)):Rel N np S0 w0 refs (σ.setS s x) a w S γ:=by
 refine⟨hR.size,hR.defers,λi=>?_,hR.box,hR.own,hR.apart,hR.ext,hR.new,hR.here,hR.below,hR.grow,hR.os,hR.tape,hR.output,hR.par,hR.kept,hR.fix⟩;simp only[St.setS];split
 .rename_i hi;subst hi;exact h
 .exact hR.slot i
theorem XO{R:Type}:∀(l:H (G×Æ)){σ:St}{k:St->Æ->O R}{r:R},Rel N np S0 w0 refs σ a w S γ->xg l σ k=B r->
  ∃σ' b,Rel N np S0 w0 refs σ' a w S γ/\k σ' b=B r/\(b=X↔sJ (tm a) l)
 |[],σ,k,r,hR,h=>⟨σ,X,hR,h,by simp[sJ]⟩
 |(s,wn)::l,σ,k,r,hR,h=>by
  simp only[xg]at h;obtain⟨σ1,b1,bI,dr,dS⟩:=XO l hR h;cases b1 with
  |false=>
   refine⟨σ1,U,bI,dr,?_⟩;simp only[kr,false_iff]at dS ⊢
   exactλha=>dS (λg hg=>ha g (by simp[hg]))
  |true=>
   have wg:=dS.1 rfl;simp only at dr;split at dr
   .rename_i v hv
    have ht:tm a s = .bool v:=by
     have hs:=bI.slot s;unfold LN at hv;split at hv
     .rename_i v' fp;simp only[j5]at hv;subst hv;rw[fp]at hs;exact uz hs
     .rename_i s' b' v' fp;split at hv
      .rename_i hm;simp only[j5]at hv;subst hv;rw[fp]at hs;have lv:(s',b')∈l:=by simpa using hm
       have:=wg _ lv;rcases hs with hs|hs
       .exact uz hs.2
       .exact absurd this hs.1
      .simp at hv
     .simp at hv
    have E0:∀b,b=v->Rel N np S0 w0 refs (σ1.setS s (.one (.one (.d .bool b)))) a w S γ:=by
     rintro b rfl
     refine M6 bI ⟨?_,λ_=>?_⟩
     .show Rep S w .bool b [tm a s];rw[ht];rfl
     .rw[ht];rfl
    cases v with
    |true=>
     simp only[j6]at dr;refine⟨_,wn,E0 X rfl,dr,?_⟩;constructor
     .rintro rfl g hg
      rcases jb.1 hg with rfl|hg
      .exact ht
      .exact wg g hg
     .intro ha;have:=ha (s,wn) ae;rw[ht]at this;simpa using this.symm
    |false=>
     simp only[j7]at dr;refine⟨_, !wn,E0 U rfl,dr,?_⟩;constructor
     .intro hw g hg;have M7:wn=false:=by simpa using hw
      subst M7;rcases jb.1 hg with rfl|hg
      .exact ht
      .exact wg g hg
     .intro ha;have:=ha (s,wn) ae;rw[ht]at this;have:U=wn:=by simpa using this
      rw[<-this];rfl
   .simp at dr
theorem jGF{P:Á}{E:Env}(hT:cP P E.T)(hC:lk P E.C)(hR:Rel E.N E.np S0 w0 refs σ a w S γ){ops:Ã Ä}{o:Ä}(hd:nC E.N o=X)
  {R:Type}{k:St->O R}{r:R}(h:DU E ops σ o k=B r){next:À->Z->Prop}{Q:Ó->À->Z->Prop}
  (hn:∀σ' a' w' S' γ',Rel E.N E.np S0 w0 refs σ' a' w' S' γ'->k σ'=B r->next a' w') :
  if Å o (yielded ops a.tmps) then o.wp P a w next Q\/(o.asks P a w/\ñ Q) else next (a.put o.dst undef) w:=by
 have rQ:=Ah hd;unfold DU at h;split at h
 .split at h
  .rename_i hg;have hw:Å o (yielded ops a.tmps)=true:=by simp[Å,hg]
   simp only[hw,if_true];exact .inl (EZ hT hC hR (act:=[]) (λg hg=>by simp at hg) (p:=X) ae hd h (λσ' a' w' S' γ' dK _ hk=>hn σ' a' w' S' γ' dK hk))
  .simp at h
 .rename_i g hg;dsimp only at h;have Iq:=Ip (a:=a) hg
  have xU:xg (σ.chain 40 g) σ (λσ' a=>match a with
    |true=>run1 E X σ' (σ.chain 40 g) o k
    |false=>k (σ'.put o.dst (.one (.one .dead))))=B r->
    if Å o (yielded ops a.tmps) then o.wp P a w next Q\/(o.asks P a w/\ñ Q) else next (a.put o.dst undef) w:=by
   intro hs;obtain⟨σ',b,dK,hk,hb⟩:=XO _ hR hs;cases b with
   |true=>have bk:=hb.1 rfl;have hw:=Iq.2 (bk g (jB7 40 g));grind[EZ]
   |false=>
    have hw:¬Å o (yielded ops a.tmps)=true:=λhw=>by
     grind[M5]
    simp only[hw];exact hn _ _ _ _ _ (jps dK rQ (s:= .one (.one .dead)) (v:=undef) ⟨trivial,λh=>absurd rfl h⟩) hk
  split at h
  .rename_i chk c ho;split at h
   .rename_i ab bH;by_cases hw:Å o (yielded ops a.tmps)=X
    .have bk:=M5 hR 40 g (Iq.1 hw);have:=XN hR bH bk;subst this;simp only[hw,if_true];cases chk with
     |false=>simp at h
     |true=>
      simp only[jg,Bool.or_false,j6]at h;obtain⟨⟨v,w',S',γ',aU,dK,hs⟩,hb⟩:=MX hT hR bk (λ_=> .inl rfl) ho;have nN:=jps dK rQ (s:= .cnd g.1 g.2 c) (v:=v) (.inl ⟨Iq.1 hw,hs⟩);refine .inl ?_;unfold Õ;rcases aU with aU|⟨aU,rfl⟩
      .rw[aU,Ø];exact hn _ _ _ _ _ nN h
      .rw[aU,â];exact hn _ _ _ _ _ nN h
    .simp only[hw];have hk:k (σ.put o.dst (.cnd g.1 g.2 c))=B r:=by grind
     exact hn _ _ _ _ _ (jps hR rQ (s:= .cnd g.1 g.2 c) (v:=undef) (.inr ⟨λhh=>hw (Iq.2 hh),rfl⟩)) hk
   .exact xU h
  .exact xU h
theorem jB9(hR:Rel N np S0 w0 refs σ a w S γ):Rel N np S0 w0 refs σ.clear a w S γ/\du σ.clear:=by
 refine⟨⟨hR.size,hR.defers,λi=>?_,hR.box,hR.own,hR.apart,hR.ext,hR.new,hR.here,hR.below,hR.grow,hR.os,hR.tape,hR.output,hR.par,hR.kept,hR.fix⟩,λi=>?_⟩
 .have:=hR.slot i;simp only[St.clear];cases hs:σ.sl i with
  |one c=>rw[hs]at this;exact this
  |tup l=>rw[hs]at this;exact this
  |und=>rw[hs]at this;exact this
  |cnd s b c=>exact⟨trivial,λh=>absurd rfl h⟩
 .simp only[St.clear];cases σ.sl i<;>rfl
theorem XP{P:Á}{E:Env}(hT:cP P E.T)(hC:lk P E.C){ops:Ã Ä}{R:Type}{k:St->O R}{r:R}{Q:Ó->À->Z->Prop}
  (hn:∀σ' a' w' S' γ',Rel E.N E.np S0 w0 refs σ' a' w' S' γ'->du σ'->k σ'=B r->Q .normal a' w') :
  ∀(n i:G)(σ:St)(a:À)(w:Z)(S:aX)(γ:G->Y),i+n=ops.size->Rel E.N E.np S0 w0 refs σ a w S γ->BR E ops (ops.toList.drop i) σ k=B r->
   wpOps P ops Q (ð i n) a w
 |0,i,σ,a,w,S,γ,hi,hR,h=>by
  rw[Ê aj]at h;obtain⟨h1,h2⟩:=jB9 hR;exact hn _ _ _ _ _ h1 h2 h
 |n+1,i,σ,a,w,S,γ,hi,hR,h=>by
  have ao:i<ops.size:=aa;rw[Ç (by simpa using ao)]at h;simp only[BR]at h;split at h
  .rename_i hd;have ho:ops[i]? = B ops[i]:=ju ao;simp only[ve,wpOps,ho];exact jGF hT hC hR (by simpa using hd) (by simpa using h) (λσ' a' w' S' γ' dK hk=>XP hT hC hn n (i+1) σ' a' w' S' γ' aa dK hk)
  .simp at h
theorem XQ{P:Á}{E:Env}(hT:cP P E.T)(hC:lk P E.C)(hR:Rel E.N E.np S0 w0 refs σ a w S γ)(hc:du σ){ops:Ã Ä}{R:Type}{k:St->O R}{r:R}
  {Q:Ó->À->Z->Prop}(hn:∀σ' a' w' S' γ',Rel E.N E.np S0 w0 refs σ' a' w' S' γ'->du σ'->k σ'=B r->Q .normal a' w')(h:rJ E ops σ k=B r) :
  wpOps P ops Q (List.range ops.size) a w:=by
 rw[ä];unfold rJ at h;split at h
 .rename_i hb;exact XM hT hC hb hn ops.size 0 σ a w S γ aa hR hc (by simpa using h)
 .exact XP hT hC hn ops.size 0 σ a w S γ aa hR (by simpa using h)
end
section
variable{N:NT}{np:G}{S0:aX}{w0:Z}{refs:Refs}{σ:St}{a:À}{w:Z}{S:aX}{γ:G->Y}
theorem M8(hR:Rel N np S0 w0 refs σ a w S γ){k:G}{b b':Bx}(hk:σ.bx k = .live b)(rM:lY b b')(dn:∀bx',BxLe γ σ.bx γ bx'->eZ S w γ bx' k b') :
  Rel N np S0 w0 refs (σ.setB k (.live b')) a w S γ:=by
 have hle:BxLe γ σ.bx γ (σ.setB k (.live b')).bx:=by
  intro k' bC;by_cases h:k'=k
  .subst h;rw[fJ];exact⟨ae,rfl,λx hx=>by simp at hx;subst hx;exact⟨b,hk,rM⟩⟩
  .rw[cu σ _ h];exact⟨bC,rfl,λx hx=>⟨x,hx,.refl x⟩⟩
 have bX:∀k' x,(σ.setB k (.live b')).bx k' = .live x->∃x',σ.bx k' = .live x':=by
  intro k' x hx;by_cases h:k'=k
  .subst h;exact⟨b,hk⟩
  .rw[cu σ _ h]at hx;exact⟨x,hx⟩
 refine Rel.step (bx':=(σ.setB k (.live b')).bx) hR (.refl S w) hle ?_ ?_ ?_ hR.new hR.here hR.below hR.grow hR.os hR.tape hR.output (λg _ _ h=>⟨rfl,λk' b' aZ=>by obtain⟨b2,gm⟩:=bX k' b' aZ;exact h k' b2 gm⟩)
 .intro k' x hx;by_cases h:k'=k
  .subst h;rw[fJ]at hx;simp at hx;subst hx;exact dn _ hle
  .rw[cu σ _ h]at hx;exact eZ.keep (.refl S w) hle rfl (λg hg=>⟨rfl,λ_=>Iff.rfl⟩) (hR.box k' x hx)
 .intro k' x g hx hg;obtain⟨x',iV⟩:=bX k' x hx;exact hR.own k' x' g iV hg
 .intro k1 k2 x1 x2 g bD h1 h2 hg;obtain⟨y1,Aj⟩:=bX k1 x1 h1;obtain⟨y2,wh⟩:=bX k2 x2 h2;exact hR.apart k1 k2 y1 y2 g bD Aj wh hg
theorem All2.set_left{α β:Type}{R:α->β->Prop}:∀{as:H α}{bs:H β},All2 R as bs->∀(i:G)(x:α)(b:β),bs[i]? = B b->R x b->All2 R (as.set i x) bs
 |[],[],_,i,x,b,hb,_=>by simp at hb
 |_::_,_::_,h,0,x,b,hb,hr=>by simp at hb;subst hb;exact⟨hr,h.2⟩
 |_::_,_::_,h,i+1,x,b,hb,hr=>⟨h.1,All2.set_left h.2 i x b (by simpa using hb) hr⟩
 |[],_::_,h,_,_,_,_,_=>h.elim
 |_::_,[],h,_,_,_,_,_=>h.elim
theorem M9:∀(l:H (Loc×Ty))(σ σ':St)(S:aX),Rel N np S0 w0 refs σ a w S γ->du σ->BW np l σ=B σ'->∃S',Rel N np S0 w0 refs σ' a w S' γ/\du σ'
 |[],σ,σ',S,hR,hc,h=>by simp[BW]at h;subst h;exact⟨S,hR,hc⟩
 |(l,t)::r,σ,σ',S,hR,hc,h=>by
  simp only[BW]at h;split at h
  .rename_i v u hv;have bu:=Af (np:=np) (σ:=σ) (rd:=mskM σ.bx) (RdR.msk λ_=> .inl rfl)
   suffices hs:∃S',Rel N np S0 w0 refs (yY (σ.upd u) l (.d t v)) a w S' γ/\du (yY (σ.upd u) l (.d t v)) by
    obtain⟨S1,bI,eP⟩:=hs;exact M9 r _ σ' S1 bI eP h
   cases l with
   |slot i=>
    cases fp:σ.sl i with
    |tup x=>simp only[jL,fp]at hv;simp[kW,pJ,lenL,lV]at hv
    |cnd x y z=>simp only[jL,fp]at hv;simp[kW,pJ,lenL,lV]at hv
    |und=>simp only[jL,fp]at hv;simp[kW,pJ,lenL,lV]at hv
    |one c=>
     cases c with
     |st ls=>simp only[jL,fp]at hv;simp[kW,pJ,lenL,lV]at hv
     |av n b xs=>simp only[jL,fp]at hv;simp[kW,pJ,lenL,lV]at hv
     |one x=>
      simp only[jL,fp]at hv;have xV:=hR.slot i;rw[fp]at xV;obtain⟨fE,hp⟩:=xw bu hR.box hv xV.1;obtain⟨S1,bI,cT,gR,_⟩:=oE u σ S hR fE;have bR:=hp S1 w cT gR;refine⟨S1,?_,?_⟩
      .simp only[yY,vK,fp];exact M6 bI ⟨bR,λ_=>Rep.one _ _ _ bR _ (k9.2 rfl)⟩
      .intro j;simp only[yY,vK,fp,St.setS];split
       .rfl
       .exact hc j
   |cell k c=>
    have nO:jL σ (.cell k c) ≠ .dead:=λhd=>by rw[hd]at hv;simp[kW,pJ,lenL,lV]at hv
    cases fU:σ.bx k with
    |free=>simp[jL,fU]at nO
    |gone=>simp[jL,fU]at nO
    |live b=>
     cases b with
     |lst e b xs f=>simp[jL,fU]at nO
     |arr n b xs=>simp[jL,fU]at nO
     |row e b n ls=>simp[jL,fU]at nO
     |cell ls f=>
      cases f with
      |true=>simp[jL,fU]at nO
      |false=>
       have hl:jL σ (.cell k c)=ls.getD c .dead:=by simp[jL,fU]
       rw[hl]at hv nO;obtain⟨g,cur,e,h1,h2,h3,h4,h5,h6⟩:=hR.box k _ fU;cases hg:ls[c]? with
       |none=>simp[hg]at nO
       |some x=>
        have Mw:ls.getD c .dead=x:=by simp[hg]
        rw[Mw]at hv;obtain⟨z,hz,nh⟩:=h3.get c x hg;obtain⟨fE,hp⟩:=xw bu hR.box hv nh;obtain⟨S1,bI,cT,gR,dq⟩:=oE u σ S hR fE;have bR:=hp S1 w cT gR;have wi:=dq.cell fU;refine⟨S1,?_,?_⟩
        .simp only[yY,wi];refine M8 bI wi trivial (λbx' hle=>?_);obtain⟨g',jR,e',og,mz,xO,h4',h5',h6'⟩:=bI.box k _ wi;rw[h1]at og;simp at og;subst og;rw[h2]at mz;simp at mz;obtain⟨rfl,rfl⟩:=mz;exact⟨g,cur,e,h1,h2,by rw[zh];exact All2.set_left (xO.mono (λx u hx=>bF.keep (.refl S1 w) hle hx)) c (.d t v) z hz bR,by rw[zh];exact h4',h5',ae⟩
        .intro j;simp only[yY,wi];show ((σ.upd u).sl j).bare=X;rw[vK];exact hc j
  .simp at h
theorem E3:∀(l:H p8)(σ σ':St)(S:aX),Rel N np S0 w0 refs σ a w S γ->du σ->xi np l σ=B σ'->∃S',Rel N np S0 w0 refs σ' a w S' γ/\du σ'
 |[],σ,σ',S,hR,hc,h=>by simp[xi]at h;subst h;exact⟨S,hR,hc⟩
 |x::r,σ,σ',S,hR,hc,h=>by
  simp only[xi]at h;split at h
  .split at h
   .split at h
    .split at h
     .rename_i e b xs f fU;split at h
      .simp at h
      .rename_i hp;simp only[qe,not_or,Ü]at hp;obtain⟨S1,bI,_⟩:=Me hR hp.2 fU hp.1;exact E3 r _ σ' S1 bI (λi=>hc i) h
     .simp at h
    .exact E3 r σ σ' S hR hc h
   .exact E3 r σ σ' S hR hc h
  .exact E3 r σ σ' S hR hc h
theorem rV:∀{l:H G}{i j:G},l.idxOf? i=B j->l[j]? = B i
 |[],i,j,h=>by simp at h
 |x::l,i,j,h=>by
  rw[ò]at h;split at h
  .rename_i he;simp at h he;subst h;subst he;rfl
  .cases hq:l.idxOf? i with
   |none=>simp[hq]at h
   |some j'=>simp[hq]at h;subst h;simpa using rV hq
theorem Na:∀{l:H G}{i:G},l.idxOf? i=Â->i∉l
 |[],i,_=>ae
 |x::l,i,h=>by
  rw[ò]at h;split at h
  .simp at h
  .rename_i he;have hq:l.idxOf? i=none:=by simpa using h
   have:=Na hq;simp only[jb,not_or];exact⟨λe=>he (by simp[e]),this⟩
theorem Nb{e:G}{t:Ty}{l:Loc}{k:O G}{xs:H t.den}{f:Æ}(h:BU σ e t l=B (k,xs,f)) :
  (k=Â/\isM e=U/\xs=[]/\jL σ l = .nil)\/∃k0,k=B k0/\jL σ l = .ol k0/\σ.bx k0 = .live (.lst e t xs f):=by
 unfold BU at h;split at h
 .rename_i hl;split at h
  .simp at h
  .rename_i hm;simp only[j5,j9]at h;exact .inl ⟨h.1.symm,by simpa using hm,h.2.1.symm,hl⟩
 .rename_i k0 hl;split at h
  .rename_i e' t' dE f' hb;split at h
   .rename_i v kN;split at h
    .rename_i he;simp only[j5,j9]at h;obtain⟨rfl,rfl,rfl⟩:=h;have:=oe kN;cases this;subst he;exact .inr ⟨k0,rfl,hl,hb⟩
    .simp at h
   .simp at h
  .simp at h
 .simp at h
theorem Ir{e:G}{t:Ty}:∀{ls:H Loc}{k:O G}{xs:H t.den}{f:Æ},yX σ e t ls=B (k,xs,f)->
  (∃l∈ls,BU σ e t l=B (k,xs,f))/\∀l∈ls,∃dE f',BU σ e t l=B (k,dE,f')
 |[],_,_,_,h=>by simp[yX]at h
 |[l],k,xs,f,h=>by
  simp only[yX]at h;exact⟨⟨l,ae,h⟩,λl' lu=>by simp at lu;subst lu;exact⟨_,_,h⟩⟩
 |l::l2::ls,k,xs,f,h=>by
  simp only[yX]at h;split at h
  .rename_i k1 H9 f1 k2 Wt f2 h1 h2;split at h
   .rename_i hk;simp only[j5,j9]at h;obtain⟨rfl,rfl,rfl⟩:=h;subst hk;obtain⟨_,aD⟩:=Ir h2;refine⟨⟨l,ae,h1⟩,λl' lu=>?_⟩;rcases jb.1 lu with rfl|lu
    .exact⟨_,_,h1⟩
    .exact aD l' lu
   .simp at h
  .simp at h
def XR(np:G)(σ:St)(bs:H G)(x:p8)(it:Item)(src:O G):Prop:=
 ∃xs f f',yX σ x.e x.a x.locs=B (src,xs,f)/\it = .b (.live (.lst x.e x.a xs f'))/\∀k0,src=B k0->f'=f/\k0∉bs/\parK np k0=U
theorem XS{bs:H G}:∀{L:H p8}{is:H Item}{ks:H G},BV np σ bs L=B (is,ks)->
  ∃gr:H (O G),ks=gr.filterMap id/\ks.Nodup/\∀(j:G)(x:p8),L[j]? = B x->∃it src,is[j]? = B it/\gr[j]? = B src/\XR np σ bs x it src
 |[],is,ks,h=>by
  simp[BV]at h;obtain⟨rfl,rfl⟩:=h;exact⟨[],rfl,vc,λj x hx=>by simp at hx⟩
 |x::L,is,ks,h=>by
  simp only[BV]at h;split at h
  .rename_i k xs f is' LX h1 h2;obtain⟨gr,e1,e2,e3⟩:=XS h2;split at h
   .simp only[j5,j9]at h;obtain⟨rfl,rfl⟩:=h;refine⟨Â::gr,by simp[e1],e2,λj y hy=>?_⟩;cases j with
    |zero=>simp at hy;subst hy;exact⟨_,Â,rfl,rfl,xs,f,x.frz,h1,rfl,ae⟩
    |succ j=>exact e3 j y (by simpa using hy)
   .rename_i k0;split at h
    .simp at h
    .rename_i hn;simp only[qe,not_or,Ü,qn,jl]at hn;simp only[j5,j9]at h;obtain⟨rfl,rfl⟩:=h;refine⟨B k0::gr,by simp[e1],qk.2 ⟨hn.1.1,e2⟩,λj y hy=>?_⟩;cases j with
     |zero=>simp at hy;subst hy;exact⟨_,B k0,rfl,rfl,xs,f,f,h1,rfl,λk1 dr=>by simp at dr;subst dr;exact⟨rfl,hn.1.2,hn.2⟩⟩
     |succ j=>exact e3 j y (by simpa using hy)
  .simp at h
theorem XU:∀{gr:H (O G)},(gr.filterMap id).Nodup->∀{j j' k:G},gr[j]? = B (B k)->gr[j']? = B (B k)->j=j'
 |[],_,j,_,_,h,_=>by simp at h
 |s::gr,hn,j,j',k,h,h'=>by
  have iC:∀{i:G},gr[i]? = B (B k)->k∈gr.filterMap id:=λhi=>List.mem_filterMap.2 ⟨B k,jz hi,rfl⟩
  have Nc:(gr.filterMap id).Nodup:=by
   cases s with
   |none=>simpa using hn
   |some y=>simp at hn;exact hn.2
  cases j with
  |zero=>
   cases j' with
   |zero=>rfl
   |succ j'=>simp at h h';subst h;simp at hn;exact absurd (by simpa using iC h') hn.1
  |succ j=>
   cases j' with
   |zero=>simp at h h';subst h';simp at hn;exact absurd (by simpa using iC h) hn.1
   |succ j'=>have:=XU Nc (j:=j) (j':=j') (k:=k) (by simpa using h) (by simpa using h');omega
theorem XV:∀{l:H G},l.Nodup->∀{i j n:G},l[i]? = B n->l[j]? = B n->i=j
 |[],_,i,_,_,hi,_=>by simp at hi
 |x::l,h,i,j,n,hi,hj=>by
  obtain⟨h1,h2⟩:=qk.1 h;cases i with
  |zero=>
   cases j with
   |zero=>rfl
   |succ j=>simp at hi hj;subst hi;exact absurd (jz hj) h1
  |succ i=>
   cases j with
   |zero=>simp at hi hj;subst hj;exact absurd (jz hi) h1
   |succ j=>rw[XV h2 (i:=i) (j:=j) (n:=n) (by simpa using hi) (by simpa using hj)]
end
section
variable{N:NT}{np:G}{S0:aX}{w0:Z}{refs:Refs}{σ:St}{a:À}{w:Z}{S:aX}{γ:G->Y}
theorem jwq{K:Keep}{l:Loc}{n:G}(h:D0 K l=B n):∃(j:G)(x:p8),K.lists[j]? = B x/\x.name=n/\l∈x.locs:=by
 unfold D0 at h;obtain⟨x,hq,hn⟩:=Option.map_eq_some_iff.1 h;have h1:=List.find?_some hq;obtain⟨j,hj⟩:=zd.1 (List.mem_of_find?_eq_some hq);exact⟨j,x,hj,hn,by simpa using h1⟩
theorem Cy{K:Keep}{k:G}{x:BS}{b:Bx}(h:xh K k x = .live b):∃b0,x = .live b0/\lY b0 b:=by
 unfold xh at h;split at h
 .simp only[BS.live.injEq]at h;subst h;exact⟨_,rfl,trivial⟩
 .simp only[BS.live.injEq]at h;subst h;exact⟨_,rfl,.refl _⟩
 .simp only[BS.live.injEq]at h;subst h;exact⟨_,rfl,.refl _⟩
 .simp at h
theorem Cz{K:Keep}{k:G}{x:BS}:xh K k x ≠ .free:=by
 unfold xh;split<;>simp
theorem XW{R:Leaf->Y->Prop}{f:Leaf×G->Leaf}:∀{ls:H Leaf}{cs:H Y}(n:G),(∀(j:G)(x:Leaf)(u:Y),ls[j]? = B x->cs[j]? = B u->R (f (x,n+j)) u)->ls.length=cs.length->
  All2 R ((ls.zipIdx n).map f) cs
 |[],[],_,_,_=>trivial
 |x::ls,c::cs,n,h,hl=>by
  refine⟨h 0 x c rfl rfl,XW (n+1) (λj y u hy hu=>?_) (by simpa using hl)⟩;have:=h (j+1) y u (by simpa using hy) (by simpa using hu);rwa[show n+1+j=n+(j+1) by omega]
 |[],_::_,_,_,hl=>by simp at hl
 |_::_,[],_,_,hl=>by simp at hl
theorem jE6{K:Keep}{s:Snap}(hR:Rel N np S0 w0 refs σ a w S γ)(hs:LV np K σ=B s):∃γ',Rel N np S0 w0 refs (dz np K s) a w S γ'/\du (dz np K s):=by
 unfold LV at hs;cases hL:BV np σ K.boxes K.lists with
 |none=>simp[hL]at hs
 |some p=>
 obtain⟨is,ks⟩:=p;simp only[hL]at hs;cases ca:K.ok np with
 |false=>simp[ca]at hs
 |true=>
 simp only[ca,if_true,j5]at hs;obtain⟨gr,hks,ew,E4⟩:=XS hL;rw[hks]at ew;simp only[Keep.ok,jc]at ca;have Ak:=zX ca.1;have EW:∀(j:G)(x:p8),K.lists[j]? = B x->x.name∉K.boxes:=by intro j x hx;have:=jw.1 ca.2 x (jz hx);simp only[jc]at this;simpa using this.1
 have xW:∀(j:G)(x:p8),K.lists[j]? = B x->parK np x.name=false:=by intro j x hx;have:=jw.1 ca.2 x (jz hx);simp only[jc]at this;simpa using this.2
 let γ':G->Value:=λn=>match K.boxes.idxOf? n with
  |some _=>γ n
  |none=>match (K.lists.map (·.name)).idxOf? n with
   |some j=>match gr[j]? with
    |some (B k)=>γ k
    |_=> .slice Â 0 0
   |none=>γ n
 have fU:(dz np K s).bx=λn=>match K.boxes.idxOf? n with
  |some j=>xj s[K.slots.length+j]?
  |none=>match (K.lists.map (·.name)).idxOf? n with
   |some j=>xj s[K.slots.length+K.boxes.length+j]?
   |none=>if parK np n then .gone else .free:=rfl
 have hB:∀n,n∈K.boxes->(dz np K s).bx n=xh K n (σ.bx n)/\γ' n=γ n:=by
  intro n hn;rw[fU];cases hq:K.boxes.idxOf? n with
  |none=>exact absurd hn (Na hq)
  |some j=>have hj:=rV hq;refine⟨?_,by simp only[γ',hq]⟩;simp only[hq,<-hs];rw[kj ae];simp only[ki,Nat.add_sub_cancel_left];rw[ko (by simp;exact(List.getElem?_eq_some_iff.1 hj).1)];simp[hj,xj]
 have Nd:∀(j:G)(x:p8),K.lists[j]? = B x->∃it src,gr[j]? = B src/\XR np σ K.boxes x it src/\(dz np K s).bx x.name=xj (B it)/\
   γ' x.name=(match src with|some k=>γ k|none=> .slice Â 0 0):=by
  intro j x hx;obtain⟨it,src,h1,h2,h3⟩:=E4 j x hx
  have xX:K.boxes.idxOf? x.name=none:=by
   cases hq:K.boxes.idxOf? x.name with
   |none=>rfl
   |some i=>exact absurd (jz (rV hq)) (EW j x hx)
  have xG:(K.lists.map (·.name))[j]? = B x.name:=by simp[hx]
  cases hq:(K.lists.map (·.name)).idxOf? x.name with
  |none=>exact absurd (jz xG) (Na hq)
  |some i=>
   have hi:=XV Ak (rV hq) xG;subst hi;refine⟨it,src,h2,h3,?_,?_⟩
   .rw[fU];simp only[xX,hq,<-hs];rw[kj aj,kj aj];have:K.slots.length+K.boxes.length+i-(K.slots.map λi=>Item.s (HP K i (σ.sl i))).length-(K.boxes.map λk=>Item.b (xh K k (σ.bx k))).length=i:=aj;rw[this,h1]
   .simp only[γ',xX,hq,h2];cases src<;>rfl
 have hF:∀n b,(dz np K s).bx n = .live b->n∈K.boxes\/∃(j:G)(x:p8),K.lists[j]? = B x/\x.name=n:=by
  intro n b hb;by_cases hn:n∈K.boxes
  .exact .inl hn
  .right;rw[fU]at hb
   have xX:K.boxes.idxOf? n=none:=by
    cases hq:K.boxes.idxOf? n with
    |none=>rfl
    |some i=>exact absurd (jz (rV hq)) hn
   simp only[xX]at hb;split at hb
   .rename_i j hq;have hj:=rV hq;simp only[q8]at hj;cases hx:K.lists[j]? with
    |none=>simp[hx]at hj
    |some x=>simp[hx]at hj;exact⟨j,x,hx,hj⟩
   .split at hb<;>simp at hb
 have ma:∀(loc:O Loc)(x:Leaf)(u:Y),bF S w γ σ.bx x u->(x ≠ .dead->One u)->(∀l,loc=B l->jL σ l=x)->
   bF S w γ' (dz np K s).bx (qG K loc x) u/\(qG K loc x ≠ .dead->One u):=by
  intro loc x u hl h1 Al;have jV:bF S w γ' (dz np K s).bx .dead u/\(Leaf.dead ≠ .dead->One u):=⟨trivial,λh=>absurd rfl h⟩
  have mc:∀n,loc.bind (D0 K)=B n->∀(hu:(x = .nil)\/∃k,x = .ol k),bF S w γ' (dz np K s).bx (.ol n) u/\(Leaf.ol n ≠ .dead->One u):=by
   intro n hn hu;cases loc with
   |none=>simp at hn
   |some l=>
    simp only[j4]at hn;have tq:=Al l rfl;obtain⟨j,y,hy,hyn,H4⟩:=jwq hn;obtain⟨it,src,_,⟨xs,f,f',jW,CA,Am⟩,An,uK⟩:=Nd j y hy;obtain⟨_,aD⟩:=Ir jW;obtain⟨dE,f1,xT⟩:=aD l H4;have df:One u:=h1 (by rcases hu with rfl|⟨k,rfl⟩<;>simp);rw[hyn]at An uK;refine⟨⟨by rw[An,CA];simp[xj],df,λb _=>?_⟩,λ_=>df⟩;rw[uK];rcases Nb xT with⟨rfl,_,_,gp⟩|⟨k0,rfl,Ao,fH⟩
    .rw[tq]at gp;subst gp;exact hl
    .rw[tq]at Ao;subst Ao;exact hl.2.2 _ fH
  cases x with
  |dead=>exact jV
  |nil=>
   simp only[qG];split
   .rename_i n hn;exact mc n hn (.inl rfl)
   .exact⟨hl,h1⟩
  |d t v=>exact⟨hl,h1⟩
  |ip ls=>exact⟨hl,h1⟩
  |clo f caps=>exact⟨hl,h1⟩
  |clr f ks=>
   simp only[qG];split
   .rename_i hks;obtain⟨cv,hu,ha⟩:=hl;refine⟨⟨cv,hu,?_⟩,λ_=>h1 ae⟩
    have go:∀(ks:H G)(zs:H Y),ks.all (λk=>K.boxes.contains k)=X->All2 (Ea γ σ.bx) ks zs->All2 (Ea γ' (dz np K s).bx) ks zs:=by
     intro ks;induction ks with
     |nil=>intro zs _ h;cases zs with|nil=>trivial|cons _ _=>exact h.elim
     |cons k ks ih=>
      intro zs hc h;cases zs with
      |nil=>exact h.elim
      |cons z zs=>simp only[z7,jc]at hc;obtain⟨dS,gm⟩:=hB k (by simpa using hc.1);refine⟨⟨by rw[dS];exact Cz,h.1.2.1,λb hb=>?_⟩,ih zs hc.2 h.2⟩;rw[dS]at hb;obtain⟨b0,ig,_⟩:=Cy hb;rw[gm];exact h.1.2.2 b0 ig
    exact go ks cv.toList hks ha
   .exact jV
  |ep k i c=>exact jV
  |tl k i=>
   simp only[qG];split
   .rename_i hk;obtain⟨dS,gm⟩:=hB k (by simpa using hk);refine⟨⟨by rw[dS];exact Cz,hl.2.1,λb hb=>?_⟩,λ_=>hl.2.1⟩;rw[dS]at hb;obtain⟨b0,ig,jG⟩:=Cy hb;have h3:=hl.2.2 b0 ig;rw[gm]
    cases b0<;>cases b<;>simp only[lY]at jG<;>first
     |exact jG.elim
     |exact h3.elim
     |(obtain⟨rfl,rfl,lu⟩:=jG;simp only at h3 ⊢;obtain⟨hm,h3⟩:=h3;rw[<-lu hm];exact⟨hm,h3⟩)
   .exact jV
  |hd k i=>
   simp only[qG];split
   .rename_i hk;obtain⟨dS,gm⟩:=hB k (by simpa using hk);refine⟨⟨by rw[dS];exact Cz,hl.2.1,λb hb=>?_⟩,λ_=>hl.2.1⟩;rw[dS]at hb;obtain⟨b0,ig,jG⟩:=Cy hb;have h3:=hl.2.2 b0 ig;rw[gm]
    cases b0<;>cases b<;>simp only[lY]at jG<;>first
     |exact jG.elim
     |exact h3.elim
     |(obtain⟨rfl,rfl,lu⟩:=jG;simp only at h3 ⊢;obtain⟨hm,h3⟩:=h3;rw[<-lu hm];exact⟨hm,h3⟩)
   .exact jV
  |ol k=>
   simp only[qG];split
   .rename_i hk;obtain⟨dS,gm⟩:=hB k (by simpa using hk);refine⟨⟨by rw[dS];exact Cz,hl.2.1,λb hb=>?_⟩,λ_=>hl.2.1⟩;rw[dS]at hb;obtain⟨b0,ig,_⟩:=Cy hb;rw[gm];exact hl.2.2 b0 ig
   .split
    .rename_i n hn;exact mc n hn (.inr ⟨k,rfl⟩)
    .exact jV
  |bp k c=>
   simp only[qG];split
   .rename_i hk;obtain⟨dS,gm⟩:=hB k (by simpa using hk);refine⟨⟨by rw[dS];exact Cz,hl.2.1,λb hb=>?_⟩,λ_=>hl.2.1⟩;rw[dS]at hb;obtain⟨b0,ig,_⟩:=Cy hb;rw[gm];exact hl.2.2 b0 ig
   .exact jV
 have im:∀n b,(dz np K s).bx n = .live b->(n∈K.boxes/\γ' n=γ n/\∃b0,σ.bx n = .live b0)\/(blk (γ' n)=Â)\/
   ∃(j:G)(x:p8)(k:G)(b0:Bx),K.lists[j]? = B x/\x.name=n/\gr[j]? = B (B k)/\γ' n=γ k/\σ.bx k = .live b0/\k∉K.boxes/\parK np k=false:=by
  intro n b hb;rcases hF n b hb with hn|⟨j,x,hx,rfl⟩
  .obtain⟨h1,h2⟩:=hB n hn;rw[h1]at hb;obtain⟨b0,ig,_⟩:=Cy hb;exact .inl ⟨hn,h2,b0,ig⟩
  .obtain⟨it,src,Am,⟨xs,f,f',jW,CA,ni⟩,An,uK⟩:=Nd j x hx;obtain⟨⟨l,_,xT⟩,_⟩:=Ir jW;rcases Nb xT with⟨rfl,_,_,_⟩|⟨k,rfl,_,fH⟩
   .exact .inr (.inl (by rw[uK];rfl))
   .obtain⟨_,h2,h3⟩:=ni k rfl;exact .inr (.inr ⟨j,x,k,_,hx,rfl,Am,uK,fH,h2,h3⟩)
 refine⟨γ',⟨hR.size,hR.defers,?_,?_,?_,?_,hR.ext,hR.new,hR.here,hR.below,hR.grow,hR.os,hR.tape,hR.output,?_,λg o h=>⟨(hR.kept g o h).1,λn b hb fH=>by
  have db:=(hR.kept g o h).2;rcases im n b hb with⟨_,e,b0,ig⟩|e|⟨j,x,k,b0,_,_,_,e,ig,_⟩
  .rw[e]at fH;exact db n b0 ig fH
  .rw[e]at fH;simp at fH
  .rw[e]at fH;exact db k b0 ig fH⟩,hR.fix⟩,?_⟩
 ·-- slots
  intro i
  have fp:(dz np K s).sl i=match K.slots.idxOf? i with
   |some j=>yZ s[j]?
   |none=> .one (.one .dead):=rfl
  rw[fp];cases hq:K.slots.idxOf? i with
  |none=>exact⟨trivial,λh=>absurd rfl h⟩
  |some j=>
   have hj:=rV hq;have E5:s[j]? = B (.s (HP K i (σ.sl i))):=by rw[<-hs,ko (by simp;exact(List.getElem?_eq_some_iff.1 hj).1)];simp[hj]
   simp only[E5,yZ];have xV:=hR.slot i;show bS S w γ' (dz np K s).bx (HP K i (σ.sl i)) _;cases kM:σ.sl i with
   |tup l=>exact⟨trivial,λh=>absurd rfl h⟩
   |cnd x y z=>exact⟨trivial,λh=>absurd rfl h⟩
   |und=>exact⟨trivial,λh=>absurd rfl h⟩
   |one c=>
    rw[kM]at xV;cases c with
    |one x=>exact ma (B (.slot i)) x _ xV.1 xV.2 (λl hl=>by simp at hl;subst hl;simp[jL,kM])
    |st ls=>
     obtain⟨cs,hu,aD,h1⟩:=xV;refine⟨cs,hu,?_,h1⟩;refine All2.map_left.2 ?_
     have:∀{ls:H Leaf}{cs:H Y},All2 (bF S w γ σ.bx) ls cs->(∀u∈cs,One u)->All2 (λx u=>bF S w γ' (dz np K s).bx (qG K Â x) u) ls cs:=by
      intro ls;induction ls with
      |nil=>intro cs h _;cases cs with|nil=>trivial|cons _ _=>exact h.elim
      |cons x ls ih=>
       intro cs h h1;cases cs with
       |nil=>exact h.elim
       |cons u cs=>exact⟨(ma Â x u h.1 (λ_=>h1 u ae) ae).1,ih h.2 (λv hv=>h1 v (by simp[hv]))⟩
     exact this aD h1
    |av n b xs=>obtain⟨cs,hu,bR⟩:=xV;exact⟨cs,hu,bR⟩
 ·-- boxes
  intro n b hb;rcases hF n b hb with hn|⟨j,x,hx,rfl⟩
  .obtain⟨h1,h2⟩:=hB n hn;rw[h1]at hb;unfold xh at hb;split at hb
   .rename_i ls frz oW;simp only[BS.live.injEq]at hb;subst hb;obtain⟨g,cur,e,q1,q2,q3,q4,q5,q6⟩:=hR.box n _ oW;have qK:(ls.zipIdx.map λx=>qG K (if frz=X then Â else B (Loc.cell n x.2)) x.1).length=ls.length:=ae;refine⟨g,cur,e,h2.trans q1,q2,?_,by rw[qK];exact q4,q5,q6⟩;rw[qK];refine XW 0 (λj x u hx hu=>?_) q3.length;obtain⟨u',fF,kR⟩:=q3.get j x hx;rw[hu]at fF;simp at fF;subst fF;refine(ma _ x u kR (λ_=>q4 u (jz hu)) (λl hl=>?_)).1;cases frz with
    |true=>simp at hl
    |false=>simp at hl;subst hl;simp[jL,oW,hx]
   .rename_i m t xs oW;simp only[BS.live.injEq]at hb;subst hb;obtain⟨g,cur,e,q1,q2,q3,q4⟩:=hR.box n _ oW;exact⟨g,cur,e,h2.trans q1,q2,q3,q4⟩
   .rename_i e t xs frz oW;simp only[BS.live.injEq]at hb;subst hb;obtain⟨q1,q3⟩:=hR.box n _ oW;exact⟨by rw[h2];exact q1,by rw[h2];exact q3⟩
   .simp at hb
  .obtain⟨it,src,Am,⟨xs,f,f',jW,CA,ni⟩,An,uK⟩:=Nd j x hx;obtain⟨⟨l,_,xT⟩,_⟩:=Ir jW;rw[An,CA]at hb;simp only[xj,BS.live.injEq]at hb;subst hb;rcases Nb xT with⟨rfl,cF,rfl,_⟩|⟨k,rfl,_,fH⟩
   .refine B4 cF ⟨[],?_,trivial,λg hg=>?_⟩
    .rw[uK];exact⟨ae,.inl ⟨rfl,rfl⟩⟩
    .rw[uK]at hg;simp[blk]at hg
   .obtain⟨rfl,_,_⟩:=ni k rfl;obtain⟨q1,q3⟩:=hR.box k _ fH;exact⟨by rw[uK];exact q1,by rw[uK];exact q3⟩
 ·-- own
  intro n b g hb hg;rcases im n b hb with⟨_,h2,b0,h3⟩|h|⟨j,x,k,b0,_,_,_,h2,h3,_,h5⟩
  .rw[h2]at hg;exact hR.own n b0 g h3 hg
  .rw[h]at hg;simp at hg
  .rw[h2]at hg;rcases hR.own k b0 g h3 hg with h|h
   .exact .inl h
   .rw[h5]at h;simp at h
 ·-- apart
  intro n n' b b' g bD hb aZ hg aP;rcases im n b hb with⟨m1,h2,b0,h3⟩|h|⟨j,x,k,b0,hx,hxn,hj,h2,h3,h4,_⟩
  .rw[h2]at hg;rcases im n' b' aZ with⟨_,i2,b1,i3⟩|i|⟨j',x',k',b1,_,_,_,i2,i3,i4,_⟩
   .rw[i2]at aP;exact hR.apart n n' b0 b1 g bD h3 i3 hg aP
   .rw[i]at aP;simp at aP
   .rw[i2]at aP;exact hR.apart n k' b0 b1 g (by rintro rfl;exact i4 m1) h3 i3 hg aP
  .rw[h]at hg;simp at hg
  .rw[h2]at hg;rcases im n' b' aZ with⟨m1,i2,b1,i3⟩|i|⟨j',x',k',b1,iV,Nf,jQ,i2,i3,i4,_⟩
   .rw[i2]at aP;exact hR.apart k n' b0 b1 g (by rintro rfl;exact h4 m1) h3 i3 hg aP
   .rw[i]at aP;simp at aP
   .rw[i2]at aP;by_cases cG:k=k'
    .subst cG;have:=XU ew hj jQ;subst this;rw[hx]at iV;simp at iV;subst iV;exact bD (hxn.symm.trans Nf)
    .exact hR.apart k k' b0 b1 g cG h3 i3 hg aP
 ·-- parameters
  intro k v hv;obtain⟨p1,p2,p3⟩:=hR.par k v hv;refine⟨p1,?_,?_⟩
  .by_cases hk:k∈K.boxes
   .rw[(hB k hk).1];exact Cz
   .rw[fU]
    have xX:K.boxes.idxOf? k=none:=by
     cases hq:K.boxes.idxOf? k with
     |none=>rfl
     |some i=>exact absurd (jz (rV hq)) hk
    simp only[xX];split
    .rename_i j hq;have hj:=rV hq;simp only[q8]at hj;cases hx:K.lists[j]? with
     |none=>simp[hx]at hj
     |some x=>simp[hx]at hj;have:=xW j x hx;rw[hj,p1]at this;simp at this
    .simp[p1]
  .by_cases hk:k∈K.boxes
   .rw[(hB k hk).2];exact p3
   .have xX:K.boxes.idxOf? k=none:=by
     cases hq:K.boxes.idxOf? k with
     |none=>rfl
     |some i=>exact absurd (jz (rV hq)) hk
    simp only[γ',xX];split
    .rename_i j hq;have hj:=rV hq;simp only[q8]at hj;cases hx:K.lists[j]? with
     |none=>simp[hx]at hj
     |some x=>simp[hx]at hj;have:=xW j x hx;rw[hj,p1]at this;simp at this
    .exact p3
 .intro i;show ((match K.slots.idxOf? i with|some j=>yZ s[j]?|none=>Slot.one (.one .dead)):Slot).bare=X;split
  .unfold yZ;split<;>rfl
  .rfl
theorem xY{K:Keep}{s:Snap}(hR:Rel N np S0 w0 refs σ a w S γ)(hc:du σ)(hs:kX np K σ=B s):∃S' γ',Rel N np S0 w0 refs (dz np K s) a w S' γ'/\du (dz np K s):=by
 unfold kX at hs;split at hs
 .rename_i σ1 h1;split at hs
  .rename_i σ2 h2;obtain⟨S1,bI,eP⟩:=M9 _ _ _ _ hR hc h1;obtain⟨S2,cC,fQ⟩:=E3 _ _ _ _ bI eP h2;obtain⟨γ',gz,wj⟩:=jE6 cC hs;exact⟨S2,γ',gz,wj⟩
  .simp at hs
 .simp at hs
end
def RdLe(rd bP:G->BS):Prop:=∀k,rd k=bP k\/rd k = .gone
theorem RdLe.live{rd bP:G->BS}(h:RdLe rd bP){k:G}{b:Bx}(hk:rd k = .live b):bP k = .live b:=by
 rcases h k with h|h;all_goals simp_all
theorem RdLe.free{rd bP:G->BS}(h:RdLe rd bP){k:G}(hk:iR (rd k)=X):iR (bP k)=true:=by
 rcases h k with h|h;all_goals grind[iR]
theorem RdLe.isLive{rd bP:G->BS}(h:RdLe rd bP){k:G}(hk:isLive (rd k)=X):isLive (bP k)=true:=by
 rcases h k with h|h;all_goals grind[Lft.isLive]
theorem RdLe.rdf{rd bP:G->BS}(h:RdLe rd bP)(np:G):RdLe (λk=>if parK np k then .gone else rd k) (λk=>if parK np k then .gone else bP k):=by
 intro k;dsimp only;split
 .exact .inl rfl
 .exact h k
theorem RdLe.msk{rd bP:G->BS}(h:RdLe rd bP):RdLe (mskM rd) (mskM bP):=by
 intro k;rcases h k with h|h;all_goals grind[mskM]
theorem Ng(M:H G)(rd:G->BS):RdLe (kK M rd) rd:=by
 intro k;grind[kK]
section
variable{rd bP:G->BS}(hle:RdLe rd bP)
include hle
theorem jwr{t:Ty}{l:Leaf}{x}(h:lV rd t l=B x):lV bP t l=B x:=by
 unfold lV at h ⊢;split at h
 .exact h
 .exact h
 .split at h
  .rename_i hk;rw[hle.live hk];exact h
  .simp at h
 .simp at h
theorem jBa{l:Leaf}{n:G}(h:lenL rd l=B n):lenL bP l=B n:=by
 unfold lenL at h ⊢;split at h
 .simp at h
 .exact h
 .split at h
  .rename_i hk;rw[hle.live hk];exact h
  .rename_i hk;rw[hle.live hk];exact h
  .simp at h
 .simp at h
theorem jGG{t:Ty}{l:Leaf}{x}(h:lV rd t l=B x):lenL bP l=lenL rd l:=by
 cases l with
 |ol k=>
  simp only[lV]at h;split at h
  .rename_i hk;simp only[lenL,hk,hle.live hk]
  .simp at h
 |d t' v=>cases t'<;>first|rfl|(rename_i b;cases b<;>rfl)
 |_=>rfl
theorem XX{t:Ty}{l:Leaf}{x}(h:kW rd t l=B x):kW bP t l=B x:=by
 grind[kW,pJ,jBa,jGG,jwr]
theorem Nh:∀(t:Ty){ls:H Leaf}{x},gath rd t ls=B x->gath bP t ls=B x:=by
 intro t;induction t with
 |unit=>grind[gath]
 |wrap a ih=>grind[gath]
 |pair a b uB uC=>grind[gath]
 |arr n a ih=>grind[gath]
 |_=>intro ls x h;cases ls<;>grind[gath,XX]
theorem Ni{t:Ty}{c:Cel}{x}(h:rG rd t c=B x):rG bP t c=B x:=by
 unfold rG at h ⊢;grind[Nh]
theorem jzu{ti:TyI}{l:Leaf}{x}(h:qB rd ti l=B x):qB bP ti l=B x:=by
 unfold qB at h ⊢;split at h
 .split at h
  .rename_i hk;rw[hle.live hk];exact h
  .rename_i hk;rw[hle.live hk];exact h
  .simp at h
 .split at h
  .rename_i hk;rw[hle.live hk];exact h
  .rename_i hk;rw[hle.live hk];exact h
  .rename_i hk;rw[hle.live hk];exact h
  .simp at h
 .exact h
 .simp at h
theorem jws{ti:TyI}{i:G}{l:Leaf}{x}(h:rH rd ti i l=B x):rH bP ti i l=B x:=by
 unfold rH at h ⊢;split at h
 .split at h
  .split at h
   .rename_i hl;simp only[hle.isLive hl,if_true];exact h
   .simp at h
  .simp at h
 .split at h
  .split at h
   .rename_i hl;simp only[hle.isLive hl,if_true];exact h
   .simp at h
  .simp at h
 .exact h
 .simp at h
theorem jwt{ti:TyI}{l i:Leaf}{x}(h:u7 rd ti l i=B x):u7 bP ti l i=B x:=by
 unfold u7 at h ⊢;split at h
 .split at h
  .rename_i hk;rw[hle.live hk];exact h
  .rename_i hk;rw[hle.live hk];exact h
  .simp at h
 .exact h
 .split at h
  .rename_i hk;rw[hle.live hk];exact h
  .rename_i hk;rw[hle.live hk];exact h
  .simp at h
 .split at h
  .rename_i hk;rw[hle.live hk];exact h
  .simp at h
 .simp at h
theorem XY(a:Ty):∀{ls:H Leaf}{x},u5 rd a ls=B x->u5 bP a ls=B x
 |[],_,h=>h
 |l::ls,x,h=>by
  simp only[u5]at h ⊢;split at h
  .rename_i h1 h2;rw[XX hle h1,XY a h2];exact h
  .simp at h
theorem jwu{t:O Ty}{l:Leaf}{x}(h:u6 rd t l=B x):u6 bP t l=B x:=by
 unfold u6 at h ⊢;split at h
 .split at h
  .split at h
   .rename_i hi;rw[if_pos hi];split at h
    .rename_i hk;rw[hle.live hk];exact h
    .simp at h
   .simp at h
  .simp at h
 .simp at h
theorem jwv{ti:TyI}{l:Leaf}{c:Cel}(h:u6 rd ti.ty l=Â)(hc:qB rd ti l=B c):u6 bP ti.ty l=none:=by
 unfold u6 at h ⊢;split at h
 .rename_i k;split at h
  .rename_i m el bJ;split at h
   .rename_i hi;rw[if_pos hi];simp only[qB]at hc;split at hc
    .rename_i ls frz hk;rw[hle.live hk]
     simp_all
    .rename_i hk;rw[hle.live hk]
    .simp at hc
   simp_all
  .rfl
 .rfl
theorem Nj(a:Ty):∀(ps:H (G×Cel)){xs:H a.den}{u:Ups}{x},na rd a xs u ps=B x->na bP a xs u ps=B x
 |[],_,_,_,h=>h
 |(i,c)::r,xs,u,x,h=>by
  simp only[na]at h ⊢;split at h
  .rename_i hd;rw[Ni hle hd];dsimp only;split at h
   .rename_i hi;simp only[hi,if_true];exact Nj a r h
   .simp at h
  .simp at h
theorem jBb{t:O Ty}{l:Leaf}{x}(h:lenC rd t l=B x):lenC bP t l=B x:=by
 unfold lenC at h ⊢;split at h
 .exact h
 .split at h
  .rename_i hk;rw[hle.live hk];exact h
  .rename_i hk;rw[hle.live hk];exact h
  .simp at h
 .exact h
 .exact h
 .split at h
  .rename_i hk;rw[hle.live hk];exact h
  .simp at h
 .split at h
  .rename_i hk;rw[hle.live hk];exact h
  .simp at h
 .simp at h
theorem jBc{e:G}{a:Ty}{s l:Leaf}{x}(h:appH rd e a s l=B x):appH bP e a s l=B x:=by
 unfold appH at h ⊢;split at h
 .split at h
  .rename_i cG;rw[if_pos cG];split at h
   .rename_i hk;rw[hle.live hk];exact h
   .simp at h
  .simp at h
 .simp at h
omit hle in
theorem jBd{e e':G}{a a':Ty}{s l:Leaf}{x}(h:appS rd e a s=B x):appH bP e' a' s l=none:=by
 unfold appS at h;split at h
 .rfl
 .rfl
 .simp at h
omit hle in
theorem jBe{fr XZ:Æ}(hf:fr=X->XZ=X){e:G}{a:Ty}{n len:G}{ps:H (G×Cel)}{x}(h:one1 fr e a n len ps=B x):one1 XZ e a n len ps=B x:=by
 unfold one1 at h ⊢;grind
omit hle in
theorem jBf{rdf dU:G->BS}(hP:RdLe rdf dU){e:G}{a:Ty}{l:Leaf}{x}(h:rowS rdf e a l=B x):rowS dU e a l=B x:=by
 unfold rowS at h ⊢;split at h
 .exact h
 .split at h
  .rename_i hk;rw[hP.live hk];exact h
  .simp at h
 .simp at h
theorem jBg{rdf dU:G->BS}(hP:RdLe rdf dU){e:G}{a:Ty}{n:G}{s l:Leaf}{x}(h:appN rd rdf e a n s l=B x):appN bP dU e a n s l=B x:=by
 unfold appN at h ⊢;split at h
 .split at h
  .rename_i hk;rw[hP.live hk];dsimp only;split at h
   .rename_i hr;rw[jBf hP hr];dsimp only;split at h
    .rename_i hc;rw[if_pos ⟨hc.1,hc.2.1,hc.2.2.1,hle.free hc.2.2.2⟩];exact h
    .simp at h
   .simp at h
  .simp at h
 .simp at h
omit hle in
theorem jzv{rdf:G->BS}{e e':G}{a a':Ty}{n:G}{s l:Leaf}{x}(h:appN rd rdf e a n s l=B x):appH bP e' a' s l=none:=by
 unfold appN at h;grind[appH]
omit hle in
theorem jBh{dU X0:G->BS}(fw:∀k,dU k = .gone\/dU k=X0 k){e:G}{a a':Ty}{n:G}{s l:Leaf}{x}(h:appX X0 a l=B x):appN rd dU e a' n s l=none:=by
 unfold appN;grind[appX]
theorem jww{ti:TyI}{l m:Leaf}{lo hi:O Leaf}{x}(h:BO rd ti l lo hi m=B x):BO bP ti l lo hi m=B x:=by
 unfold BO at h ⊢;split at h
 .split at h
  .rename_i hk;rw[hle.live hk];exact h
  .simp at h
 .simp at h
theorem jBi{e:G}{a:Ty}{l:Leaf}{x}(h:appS rd e a l=B x):appS bP e a l=B x:=by
 unfold appS at h ⊢;split at h
 .split at h
  .rename_i hk;rw[hle.live hk];exact h
  .simp at h
 .exact h
 .simp at h
theorem Nk{a:Ty}{l:Leaf}{x}(h:appX rd a l=B x):appX bP a l=B x:=by
 unfold appX at h ⊢;split at h
 .split at h
  .rename_i hk;rw[hle.live hk];exact h
  .simp at h
 .exact h
 .exact h
 .split at h
  .rename_i hk;rw[hle.live hk];exact h
  .simp at h
 .simp at h
theorem jzw{t:O Ty}{l m:Leaf}{x}(h:BP rd t l m=B x):BP bP t l m=B x:=by
 unfold BP at h ⊢;split at h
 .split at h
  .rename_i hk;rw[hle.live hk];grind[Nk]
  .simp at h
 .simp at h
theorem jwx{t:O Ty}{l:Leaf}{x}(h:BQ rd t l=B x):BQ bP t l=B x:=by
 unfold BQ at h ⊢;split at h
 .split at h
  .rename_i hk;rw[hle.live hk];exact h
  .simp at h
 .simp at h
theorem Is:∀(ls:H Leaf){x},tvs rd ls=B x->tvs bP ls=B x
 |[],_,h=>h
 |l::ls,x,h=>by
  simp only[tvs]at h ⊢;split at h
  .rename_i hr;rw[Is ls hr];dsimp only;split at h
   .exact h
   .split at h
    .rename_i hk;rw[hle.live hk];exact h
    .simp at h
   .simp at h
  .simp at h
theorem X1:∀(cs:H Cel){x},xd rd cs=B x->xd bP cs=B x
 |[],_,h=>h
 |c::cs,x,h=>by
  simp only[xd]at h ⊢;split at h
  .rename_i hr;rw[X1 cs hr];dsimp only;split at h
   .exact h
   .split at h
    .rename_i hk;rw[hle.live hk];dsimp only;split at h
     .rename_i ht;rw[Is hle _ ht];exact h
     .simp at h
    .simp at h
   .simp at h
  .simp at h
end
theorem jwy{rd bP rdf dU:G->BS}(hle:RdLe rd bP)(hP:RdLe rdf dU){n:G}{c:Cel}{l:Leaf}{x}(h:xc rd rdf n c l=B x):xc bP dU n c l=B x:=by
 unfold xc at h ⊢;split at h
 .split at h
  .rename_i hk;rw[hle.live hk];exact h
  .rename_i hk;rw[hle.live hk];exact h
  .simp at h
 .split at h
  .rename_i hk;rw[hle.live hk];dsimp only;split at h;all_goals grind[Nh]
  .rename_i hk;rw[hle.live hk];dsimp only;split at h;all_goals grind[Nh]
  .rename_i hk;rw[hle.live hk];exact h
  .simp at h
 .simp at h
theorem jwz{par:G->Æ}{rd bP:G->BS}(hle:RdLe rd bP){ti:TyI}{n:G}{l:Leaf}{lo hi:O Leaf}{x}(h:BN par rd ti n l lo hi=B x):BN par bP ti n l lo hi=B x:=by
 unfold BN at h ⊢;split at h
 .exact h
 .split at h
  .split at h
   .rename_i hk;rw[hle.live hk];exact h
   .simp at h
  .split at h
   .rename_i hk;rw[hle.live hk];dsimp only;split at h
    .rename_i bJ;rw[if_pos bJ];split at h
     .split at h
      .simp_all
      .rename_i hp;rw[if_neg hp];split at h
       .rename_i hl;rw[if_pos hl];split at h
        .rename_i hf;rw[if_pos (hle.free hf)];exact h
        .simp at h
       simp_all
     .simp at h
    .simp at h
   .simp at h
 .split at h
  .rename_i hk;rw[hle.live hk];exact h
  .simp at h
 .simp at h
theorem jzx{rd bP rdf dU:G->BS}(hle:RdLe rd bP)(hP:RdLe rdf dU){t:O TyI}{mv rl:Æ}{c:Cel}{x}(h:xe rd rdf t mv rl c=B x):xe bP dU t mv rl c=B x:=by
 unfold xe at h ⊢;split at h
 .split at h
  .rename_i hk;rw[hle.live hk];grind[Is]
  .rename_i hk;rw[hle.live hk];grind[Is]
  .simp at h
 .exact h
 .exact h
 .split at h
  .cases mv with
   |true=>
    simp only[j6]at h ⊢;split at h
    .rename_i hk;rw[hP.live hk];exact h
    .simp at h
   |false=>
    simp only[j7]at h ⊢;split at h
    .rename_i hk;rw[hle.live hk];exact h
    .simp at h
  .split at h
   .rename_i hk;rw[hP.live hk];exact h
   .simp at h
 grind[Ni]
theorem Nl{rd bP rdf dU:G->BS}(hle:RdLe rd bP)(hP:RdLe rdf dU){T:G->O TyI}{mv:Æ}:∀(cs:H Cel){ts:H G}{ms:H Æ}{x},qD rd rdf T mv ts ms cs=B x->qD bP dU T mv ts ms cs=B x
 |[],_,_,_,h=>h
 |c::cs,ts,ms,x,h=>by
  simp only[qD]at h ⊢;split at h
  .rename_i ha;rw[jzx hle hP ha];dsimp only;split at h
   .rename_i hr;rw[Nl hle hP cs hr];exact h
   .simp at h
  .simp at h
theorem jBj{rd bP rdf dU:G->BS}(hle:RdLe rd bP)(hP:RdLe rdf dU){n m:G}{us:Ups}{fs:H Bk}{os:H Out}{x}(h:mkHd rd rdf n us fs m os=B x):mkHd bP dU n us fs m os=B x:=by
 unfold mkHd at h ⊢;split at h
 .split at h
  .split at h
   .rename_i hf;simp only[jc]at hf;rw[if_pos (by simp only[jc];exact⟨hle.free hf.1,hP.isLive hf.2⟩)];exact h
   .simp at h
  .simp at h
 .simp at h
theorem X2{rd bP rdf dU:G->BS}(hle:RdLe rd bP)(hP:RdLe rdf dU){n:G}{us:Ups}{fs:H Bk}{r:Ret}{x}(h:u9 rd rdf n us fs r=B x):u9 bP dU n us fs r=B x:=by
 unfold u9 at h ⊢;split at h
 .exact jBj hle hP h
 .unfold DT at h ⊢;split at h
  .split at h
   .rename_i hf;simp only[jc]at hf;rw[if_pos (by simp only[jc];exact⟨hf.1,jw.2 λe he=>hle.free (jw.1 hf.2 e he)⟩)];exact h
   .simp at h
  .simp at h
 .split at h
  .split at h
   .split at h
    .rename_i hf;rw[if_pos (jw.2 λe he=>hle.free (jw.1 hf e he))];exact h
    .simp at h
   .simp at h
  .simp at h
inductive ActLe:Act->Act->Prop
 |val (chk:Æ) (s:Slot) (u:Ups):ActLe (.val chk s u) (.val chk s u)
 |call (f:G) (args:H Arg) (mk mk':Ret->O (Slot×Ups)):(∀r x,mk r=B x->mk' r=B x)->ActLe (.call f args mk) (.call f args mk')
theorem ActLe.refl(x:Act):ActLe x x:=by cases x with
 |val chk s u=>exact .val chk s u
 |call f args mk=>exact .call f args mk mk λ_ _ h=>h
theorem X3{x y:O Leaf}(h:∀z,x=B z->y=B z){r:Act}(hr:oA x=B r):oA y=B r:=by
 cases x<;>grind[oA]
theorem jBk{x y:O (Æ×Leaf)}(h:∀z,x=B z->y=B z){r:Act}(hr:oChk x=B r):oChk y=B r:=by
 cases x<;>grind[oChk]
theorem X4{rd bP:G->BS}(hle:RdLe rd bP){t:G}{k v:Ty}{x y:Leaf}{z}(h:mapC rd t k v x y=B z):mapC bP t k v x y=B z:=by
 unfold mapC at h ⊢;split at h
 .split at h
  .rename_i hb;simp only[hle.live hb];exact h
  .simp at h
 .simp at h
theorem X5{E:Env}{ev:Ö->Slot}{rd bP:G->BS}(jO:RdLe rd bP){act:H (G×Æ)}{o:Ä}{A:Act}(h:eM E ev rd act o=B A):∃A',eM E ev bP act o=B A'/\ActLe A A':=by
 have hle:=jO.msk;have hP:=hle.rdf E.np;have fw:∀k,(if parK E.np k then BS.gone else mskM bP k) = .gone\/(if parK E.np k then BS.gone else mskM bP k)=mskM bP k:=λk=>by grind
 have same:eM E ev bP act o=B A->∃A',eM E ev bP act o=B A'/\ActLe A A':=λh=>⟨A,h,.refl A⟩;obtain⟨dst,op,type,pos,after,guard⟩:=o;cases op
 case alloc t=>
  refine same ?_;simp only[eM]at h ⊢;split at h
  .split at h
   .rename_i hf;simp only[hle.free hf,if_true];exact h
   .simp at h
  .simp at h
 case box t x=>
  refine same ?_;simp only[eM]at h ⊢;split at h
  .rename_i hf;simp only[hle.free hf,if_true];exact h
  .simp at h
 case build t ps=>grind[eM,Nj]
 case buildSlice t n ps=>
  refine same ?_;simp only[eM]at h ⊢;split at h
  .split at h
   .split at h
    .rename_i dS;rw[if_pos dS];exact jBe hle.free h
    rename_i dS;rw[if_neg dS];split at h
    .simp at h
    .rename_i hn;simp only[hn,zv];split at h
     .rename_i hb;rw[Nj hP _ _ hb];dsimp only;split at h
      .rename_i hf;simp only[hle.free hf,if_true];exact h
      .simp at h
     .simp at h
   .simp at h
  .simp at h
 case load t x=>
  refine same ?_;simp only[eM]at h ⊢;split at h
  .split at h
   .grind[jwu,XY]
   .rename_i xT;cases Cc:qB (mskM rd) _ (lf ((ev x).cel act)) with
    |none=>rw[Cc]at h;simp[oCel]at h
    |some c=>grind[jwv,jzu]
  .simp at h
 case store t x y=>grind[eM,jwy]
 case nilCheck x=>
  refine same ?_;simp only[eM]at h ⊢;split at h
  .split at h
   .rename_i hl;simp only[hle.isLive hl,if_true];exact h
   .simp at h
  .split at h
   .rename_i hl;simp only[hle.isLive hl,if_true];exact h
   .simp at h
  .exact h
  .simp at h
 case makeFunc fn first captured=>refine same ?_;cases fn<;>grind[eM,X1]
 case fieldAddr t x i=>grind[eM,X3,jws]
 case indexAddr t x i=>grind[eM,jBk,jwt]
 case call c=>
  simp only[eM]at h ⊢;cases hc:c.callee with
  |invoke r m=>simp[hc]at h
  |value f=>
   simp only[hc]at h ⊢;split at h
   .split at h
    .rename_i ha;rw[Nl jO hP _ ha];dsimp only;split at h
     .rename_i hb;simp only[hb,if_true];simp only[j5]at h;subst h;exact⟨_,rfl,.call _ _ _ _ λr x hx=>X2 hle hP hx⟩
     .simp at h
    .simp at h
   .split at h
    .rename_i ha;rw[Nl jO hP _ ha];dsimp only;split at h
     .rename_i hb;simp only[hb,if_true];simp only[j5]at h;subst h;exact⟨_,rfl,.call _ _ _ _ λr x hx=>X2 hle hP hx⟩
     .simp at h
    .simp at h
   .simp at h
  |builtin b=>
   simp only[hc]at h ⊢;cases b
   case len=>refine⟨A,?_,.refl A⟩;grind[X3,jBb]
   case append=>
    refine⟨A,?_,.refl A⟩;dsimp only at h ⊢;split at h
    .split at h
     .rename_i ht;rw[if_pos ht];split at h
      .split at h
       .rename_i bJ;split at h
        .grind[jBc]
        split at h
        .grind[jzv,jBg]
        split at h
        .rename_i h1 h2;rw[jBd h1];dsimp only;rw[jBh fw (Nk hle h2),jBi hP h1,Nk hle h2];dsimp only;split at h
         .rename_i hf;simp only[hle.free hf,if_true];exact h
         .simp at h
        .simp at h
       .simp at h
      .simp at h
     .simp at h
    .simp at h
   case copy=>refine⟨A,?_,.refl A⟩;grind[jzw]
   case clear=>refine⟨A,?_,.refl A⟩;dsimp only at h ⊢;split at h;all_goals grind[jwx]
   all_goals exact⟨A,h,.refl A⟩
 case slice t x lo hi mx=>refine same ?_;cases mx<;>grind[eM,jww,jwz]
 case makeMap t x=>
  refine same ?_;cases x with
  |some m=>simp[eM]at h
  |none=>
   simp only[eM]at h ⊢;split at h
   .split at h
    .rename_i hf;simp only[hle.free hf,if_true];exact h
    .simp at h
   .simp at h
 case lookup t x i ok=>grind[eM,X4]
 case mapUpdate t x i y=>grind[eM,X4,Ni]
 all_goals exact⟨A,h,.refl A⟩
section
variable{N:NT}{np:G}{S0:aX}{w0:Z}{refs:Refs}{σ:St}{a:À}{w:Z}{S:aX}{γ:G->Y}
def CFun(C:G->H Arg->(R:Type)->(Ret->O R)->O R):Prop:=
 ∀f args,∃o:O Ret,∀(R:Type)(k:Ret->O R),C f args R k=o.bind k
theorem X6{E:Env}{ev rW:Ö->Slot}{rd:G->BS}{act:H (G×Æ)}{o:Ä}(h:∀x∈o.op.operands,ev x=rW x):eM E ev rd act o=eM E rW rd act o:=by
 have tt:∀ps:Ã (G×Ö),(∀x∈ps.toList.map (·.2),ev x=rW x)->
   (ps.toList.map λp=>(p.1,(ev p.2).cel act))=(ps.toList.map λp=>(p.1,(rW p.2).cel act)):=λps hp=>
  è λp hm=>by simp only[hp p.2 (k7.2 ⟨p,hm,rfl⟩)]
 have args:∀ps:Ã Ö,(∀x∈ps,ev x=rW x)->(ps.toList.map λp=>(ev p).cel act)=(ps.toList.map λp=>(rW p).cel act):=λps hp=>
  è λp hm=>by rw[hp p (by simpa using hm)]
 obtain⟨dst,op,type,pos,after,guard⟩:=o;cases op<;>simp only[Op.operands]at h<;>simp only[eM]
 case build t ps=>rw[tt ps λx hx=>h x (by simpa using hx)]
 case buildSlice t n ps=>rw[tt ps λx hx=>h x (by simpa using hx)]
 case makeFunc fn first captured=>
  have e:=args captured λx hx=>h x (by simp[hx]);cases fn with
  |func f=>simp only[e]
  |_=>rfl
 case call c=>
  have ha:=args c.args (λx hx=>h x (by simp[Call.operands,hx]));have qS:∀x∈c.args.toList,ev x=rW x:=λx hx=>h x (by simp[Call.operands];right;simpa using hx);simp only[ha];cases hc:c.callee with
  |value f=>have hf:ev f=rW f:=h f (by simp[Call.operands,hc]);simp only[hf]
  |invoke r m=>rfl
  |builtin b=>
   cases b<;>simp only
   case len=>
    split
    .rename_i x t iB we;have:=qS x (by rw[iB];simp);simp only[this]
    .rfl
   case append=>
    split
    .rename_i t t' s x we iB;have e1:=qS s (by rw[iB];simp);have e2:=qS x (by rw[iB];simp);simp only[e1,e2]
    .rfl
   case copy=>
    split
    .rename_i t t' s x we iB;have e1:=qS s (by rw[iB];simp);have e2:=qS x (by rw[iB];simp);simp only[e1,e2]
    .rfl
   case clear=>
    split
    .rename_i t x we iB;have e1:=qS x (by rw[iB];simp);simp only[e1]
    .rfl
 case slice t x lo hi mx=>
  have e1:=h x ae
  have eo:∀y:O Ö,(∀z,y=B z->ev z=rW z)->(y.map λx=>lf ((ev x).cel act))=(y.map λx=>lf ((rW x).cel act)):=by
   intro y hy;cases y with
   |none=>rfl
   |some z=>simp only[kb,hy z rfl]
  have e2:=eo lo (λz hz=>h z (by simp[hz]));have e3:=eo hi (λz hz=>h z (by simp[hz]));cases mx with
  |some m=>have e4:=h m ae;simp only[e1,e2,e3,e4]
  |none=>simp only[e1,e2,e3]
 case makeMap t x=>cases x<;>rfl
 all_goals (first|rfl|(simp_all;done))
def ShEq:BS->BS->Prop
 |.live (.cell _ _),.live (.cell _ _)=>True
 |.live (.lst e a xs _),.live (.lst e' a' dE _)=>e=e'/\a=a'/\xs.length=dE.length
 |.live (.arr n a _),.live (.arr n' a' _)=>n=n'/\a=a'
 |.live (.row e a n _),.live (.row e' a' n' _)=>e=e'/\a=a'/\n=n'
 |.free,.free=>True
 |.gone,.gone=>True
 |_,_=>False
theorem ShEq.refl:∀b:BS,ShEq b b
 |.live (.cell _ _)=>trivial
 |.live (.lst _ _ _ _)=>⟨rfl,rfl,rfl⟩
 |.live (.arr _ _ _)=>⟨rfl,rfl⟩
 |.live (.row _ _ _ _)=>⟨rfl,rfl,rfl⟩
 |.free=>trivial
 |.gone=>trivial
theorem ShEq.symm{b c:BS}(h:ShEq b c):ShEq c b:=by
 cases b with
 |free=>cases c<;>simp_all[ShEq]
 |gone=>cases c<;>simp_all[ShEq]
 |live b=>
  cases c with
  |free=>cases b<;>simp[ShEq]at h
  |gone=>cases b<;>simp[ShEq]at h
  |live c=>
   cases b<;>cases c<;>simp only[ShEq]at h ⊢
   .exact⟨h.1.symm,h.2.1.symm,h.2.2.symm⟩
   .exact⟨h.1.symm,h.2.symm⟩
   .exact⟨h.1.symm,h.2.1.symm,h.2.2.symm⟩
theorem ShEq.trans{b c d:BS}(h:ShEq b c)(h':ShEq c d):ShEq b d:=by
 cases b with
 |free=>cases c with
  |free=>exact h'
  |gone=>simp[ShEq]at h
  |live c=>cases c<;>simp[ShEq]at h
 |gone=>cases c with
  |gone=>exact h'
  |free=>simp[ShEq]at h
  |live c=>cases c<;>simp[ShEq]at h
 |live b=>cases c with
  |free=>cases b<;>simp[ShEq]at h
  |gone=>cases b<;>simp[ShEq]at h
  |live c=>cases d with
   |free=>cases c<;>simp[ShEq]at h'
   |gone=>cases c<;>simp[ShEq]at h'
   |live d=>
    cases b<;>cases c<;>simp only[ShEq]at h<;>cases d<;>simp only[ShEq]at h' ⊢
    .exact⟨h.1.trans h'.1,h.2.1.trans h'.2.1,h.2.2.trans h'.2.2⟩
    .exact⟨h.1.trans h'.1,h.2.trans h'.2⟩
    .exact⟨h.1.trans h'.1,h.2.1.trans h'.2.1,h.2.2.trans h'.2.2⟩
theorem ShEq.mask{rd bP:G->BS}{M:H G}(h:∀k,M.contains k=U->ShEq (rd k) (bP k))(k:G):ShEq (kK M rd k) (kK M bP k):=by
 unfold kK;split
 .trivial
 .rename_i hc;exact h k (by simpa using hc)
theorem It{b c:BS}(h:ShEq b c):isLive b=isLive c:=by
 cases b with
 |free=>cases c<;>simp_all[ShEq,isLive]
 |gone=>cases c<;>simp_all[ShEq,isLive]
 |live b=>cases c with
  |free=>cases b<;>simp[ShEq]at h
  |gone=>cases b<;>simp[ShEq]at h
  |live c=>rfl
theorem jBl{rd bP:G->BS}(h:∀k,ShEq (rd k) (bP k))(ti:TyI)(l i:Leaf):u7 rd ti l i=u7 bP ti l i:=by
 unfold u7;split
 .rename_i k _ _;have hk:=h k;generalize rd k=b at hk;generalize bP k=c at hk;cases b with
  |free=>cases c<;>simp_all[ShEq]
  |gone=>cases c<;>simp_all[ShEq]
  |live b=>cases c with
   |free=>cases b<;>simp[ShEq]at hk
   |gone=>cases b<;>simp[ShEq]at hk
   |live c=>
    cases b with
    |lst e a xs f=>cases c with
     |lst e' a' dE f'=>simp only[ShEq]at hk;obtain⟨rfl,rfl,hl⟩:=hk;dsimp only;rw[hl]
     |cell _ _=>simp[ShEq]at hk
     |arr _ _ _=>simp[ShEq]at hk
     |row _ _ _ _=>simp[ShEq]at hk
    |cell _ _=>cases c<;>first|rfl|(simp[ShEq]at hk)
    |arr _ _ _=>cases c<;>first|rfl|(simp[ShEq]at hk)
    |row e a n _=>cases c with
     |row e' a' n' _=>simp only[ShEq]at hk;obtain⟨rfl,rfl,rfl⟩:=hk;rfl
     |_=>simp[ShEq]at hk
 .rfl
 .rename_i k _ _;have hk:=h k;generalize rd k=b at hk;generalize bP k=c at hk;cases b with
  |free=>cases c<;>simp_all[ShEq]
  |gone=>cases c<;>simp_all[ShEq]
  |live b=>cases c with
   |free=>cases b<;>simp[ShEq]at hk
   |gone=>cases b<;>simp[ShEq]at hk
   |live c=>
    cases b with
    |arr n a xs=>cases c with
     |arr n' a' dE=>simp only[ShEq]at hk;obtain⟨rfl,rfl⟩:=hk;rfl
     |cell _ _=>simp[ShEq]at hk
     |lst _ _ _ _=>simp[ShEq]at hk
     |row _ _ _ _=>simp[ShEq]at hk
    |cell _ _=>cases c<;>first|rfl|(simp[ShEq]at hk)
    |lst _ _ _ _=>cases c<;>first|rfl|(simp[ShEq]at hk)
    |row _ _ _ _=>cases c<;>first|rfl|(simp[ShEq]at hk)
 .rename_i k _ _ _;have hk:=h k;generalize rd k=b at hk;generalize bP k=c at hk;cases b with
  |free=>cases c<;>simp_all[ShEq]
  |gone=>cases c<;>simp_all[ShEq]
  |live b=>cases c with
   |free=>cases b<;>simp[ShEq]at hk
   |gone=>cases b<;>simp[ShEq]at hk
   |live c=>
    cases b with
    |lst e a xs f=>cases c with
     |lst e' a' dE f'=>simp only[ShEq]at hk;obtain⟨rfl,rfl,hl⟩:=hk;dsimp only;rw[hl]
     |cell _ _=>simp[ShEq]at hk
     |arr _ _ _=>simp[ShEq]at hk
     |row _ _ _ _=>simp[ShEq]at hk
    |cell _ _=>cases c<;>first|rfl|(simp[ShEq]at hk)
    |arr _ _ _=>cases c<;>first|rfl|(simp[ShEq]at hk)
    |row _ _ _ _=>cases c<;>first|rfl|(simp[ShEq]at hk)
 .rfl
theorem jBm{rd bP:G->BS}(h:∀k,ShEq (rd k) (bP k))(ti:TyI)(i:G)(l:Leaf):rH rd ti i l=rH bP ti i l:=by
 unfold rH;split
 .rw[It (h _)]
 .rw[It (h _)]
 .rfl
 .rfl
theorem ShEq.msk{rd bP:G->BS}{k:G}(h:ShEq (rd k) (bP k)):ShEq (mskM rd k) (mskM bP k):=by
 unfold mskM;generalize rd k=a at h;generalize bP k=b at h;cases a with
 |free=>cases b<;>simp_all[ShEq]
 |gone=>cases b<;>simp_all[ShEq]
 |live a=>
  cases b with
  |free=>cases a<;>simp[ShEq]at h
  |gone=>cases a<;>simp[ShEq]at h
  |live b=>
   cases a<;>cases b<;>simp only[ShEq]at h<;>dsimp only
   .trivial
   .obtain⟨rfl,rfl,h3⟩:=h;rename_i e _ _ _ _ _;cases isM e
    .exact⟨rfl,rfl,h3⟩
    .trivial
   .exact h
   .exact h
theorem jE7{E:Env}{ev:Ö->Slot}{rd bP:G->BS}{act:H (G×Æ)}{o:Ä}(ha:sF o=X)(h:∀k,ShEq (rd k) (bP k)):eM E ev rd act o=eM E ev bP act o:=by
 have h:∀k,ShEq (mskM rd k) (mskM bP k):=λk=>(h k).msk;obtain⟨dst,op,type,pos,after,guard⟩:=o;cases op<;>simp only[sF,kr]at ha
 .simp only[eM];split
  .rw[It (h _)]
  .rw[It (h _)]
  .rfl
  .rfl
 .simp only[eM];split
  .rw[jBm h]
  .rfl
 .simp only[eM];split
  .rw[jBl h]
  .rfl
theorem X7:∀(u:Ups)(σ:St),(∀e∈u,ShEq (σ.bx e.1) e.2)->∀k,ShEq (σ.bx k) ((σ.upd u).bx k)
 |[],σ,_,k=>ShEq.refl _
 |e::u,σ,h,k=>by
  have h0:∀k,ShEq (σ.bx k) ((σ.setB e.1 e.2).bx k):=by
   intro k;simp only[St.setB];split
   .rename_i hk;rw[hk];exact h e ae
   .exact ShEq.refl _
  have h1:=X7 u (σ.setB e.1 e.2) (λx hx=>(h0 x.1).symm.trans (h x (by simp[hx]))) k;exact(h0 k).trans h1
def UpSh(rd:G->BS)(u:Ups):Prop:=∀e∈u,ShEq (rd e.1) e.2/\isLive e.2=X
theorem jBn{rd:G->BS}{t:Ty}{l:Leaf}{v:t.den}{u:Ups}(h:lV rd t l=B (v,u)):UpSh rd u:=by
 unfold lV at h;split at h
 .split at h
  .simp only[j5,j9]at h;rw[<-h.2];intro e he;simp at he
  .simp at h
 .split at h
  .simp only[j5,j9]at h;rw[<-h.2];intro e he;simp at he
  .simp at h
 .split at h
  .rename_i hk;split at h
   .simp only[j5,j9]at h;rw[<-h.2];intro e he;simp only[k9]at he;subst he;dsimp only;rw[hk];exact⟨⟨rfl,rfl,rfl⟩,rfl⟩
   .simp at h
  .simp at h
 .simp at h
theorem jE8{rd:G->BS}{t:Ty}{l:Leaf}{v:t.den}{u:Ups}(h:kW rd t l=B (v,u)):UpSh rd u:=by
 unfold kW at h;split at h
 .simp only[j5,j9]at h;rw[<-h.2];intro e he;simp at he
 .exact jBn h
theorem UpSh.app{rd:G->BS}{u v:Ups}(h:UpSh rd u)(h':UpSh rd v):UpSh rd (u++v):=by
 intro e he;rcases ji.1 he with he|he
 .exact h e he
 .exact h' e he
theorem X8{rd:G->BS}:∀(t:Ty){ls:H Leaf}{v:t.den}{r:H Leaf}{u:Ups},gath rd t ls=B (v,r,u)->UpSh rd u:=by
 intro t;induction t with
 |unit=>intro ls v r u h;simp only[gath,j5,j9]at h;rw[<-h.2.2];intro e he;simp at he
 |wrap a ih=>
  intro ls v r u h;simp only[gath]at h;split at h
  .rename_i hg;simp only[j5,j9]at h;rw[<-h.2.2];exact ih hg
  .simp at h
 |pair a b uB uC=>
  intro ls v r u h;simp only[gath]at h;split at h
  .rename_i hg;split at h
   .rename_i kP;simp only[j5,j9]at h;rw[<-h.2.2];exact(uB hg).app (uC kP)
   .simp at h
  .simp at h
 |arr n a ih=>intro ls v r u h;simp[gath]at h
 |_=>
  intro ls v r u h;cases ls with
  |nil=>simp[gath]at h
  |cons l ls=>
   simp only[gath]at h;split at h
   .rename_i hl;simp only[j5,j9]at h;rw[<-h.2.2];exact jE8 hl
   .simp at h
theorem jBp{rd rdf:G->BS}(bu:RdLe rdf rd){n:G}{c:Cel}{l:Leaf}{u:Ups}(h:xc rd rdf n c l=B u):UpSh rd u:=by
 have one:∀(k:G)(b b':Bx),rd k = .live b->ShEq (.live b) (.live b')->UpSh rd [(k,.live b')]:=by intro k b b' hk hs e he;simp only[k9]at he;subst he;exact⟨by rw[hk];exact hs,rfl⟩
 have lift:∀u,UpSh rdf u->UpSh rd u:=by
  intro u hu e he;obtain⟨h1,h2⟩:=hu e he;rcases bu e.1 with hq|hq
  .rw[hq]at h1;exact⟨h1,h2⟩
  .rw[hq]at h1;cases h3:e.2 with
   |free=>rw[h3]at h2;simp[isLive]at h2
   |gone=>rw[h3]at h2;simp[isLive]at h2
   |live b=>rw[h3]at h1;cases b<;>simp[ShEq]at h1
 unfold xc at h;split at h
 .split at h
  .rename_i hk;split at h
   .split at h
    .simp only[j5]at h;subst h;exact one _ _ _ hk trivial
    .simp at h
   .simp at h
  .rename_i hk;split at h
   .split at h
    .split at h
     .split at h
      .simp only[j5]at h;subst h;exact one _ _ _ hk ⟨rfl,rfl⟩
      .simp at h
     .simp at h
    .simp at h
   .simp at h
  .simp at h
 .split at h
  .rename_i hk;split at h
   .split at h
    .split at h
     .rename_i hg;split at h
      .simp at h
      .simp only[j5]at h;subst h;exact(lift _ (X8 _ hg)).app (one _ _ _ hk ⟨rfl,rfl,ae⟩)
     .simp at h
    .simp at h
   .simp at h
  .rename_i hk;split at h
   .split at h
    .split at h
     .rename_i hg;split at h
      .simp at h
      .simp only[j5]at h;subst h;exact(lift _ (X8 _ hg)).app (one _ _ _ hk ⟨rfl,rfl⟩)
     .simp at h
    .simp at h
   .simp at h
  .rename_i hk;split at h
   .split at h
    .simp only[j5]at h;subst h;exact one _ _ _ hk ⟨rfl,rfl,rfl⟩
    .simp at h
   .simp at h
  .simp at h
 .simp at h
theorem jIf(np:G)(rd:G->BS):RdLe (λk=>if parK np k then .gone else rd k) rd:=by
 intro k;dsimp only;split
 .exact .inr rfl
 .exact .inl rfl
theorem UpSh.le{rd bP:G->BS}(hle:RdLe rd bP){u:Ups}(h:UpSh rd u):UpSh bP u:=by
 intro e he;obtain⟨h1,h2⟩:=h e he;rcases hle e.1 with hq|hq
 .rw[hq]at h1;exact⟨h1,h2⟩
 .rw[hq]at h1;cases h3:e.2 with
  |free=>rw[h3]at h2;simp[isLive]at h2
  |gone=>rw[h3]at h2;simp[isLive]at h2
  |live b=>rw[h3]at h1;cases b<;>simp[ShEq]at h1
theorem jGH(rd:G->BS):RdLe (mskM rd) rd:=λk=>Wp k
theorem jwA{E:Env}{ev:Ö->Slot}{rd:G->BS}{act:H (G×Æ)}{o:Ä}(ho:vB o=X){chk:Æ}{s:Slot}{u:Ups}(h:eM E ev rd act o=B (.val chk s u)):UpSh rd u:=by
 obtain⟨dst,op,type,pos,after,guard⟩:=o;cases op<;>simp only[vB,kr]at ho;simp only[eM]at h;split at h
 .split at h
  .rename_i hs;simp only[j5,Act.val.injEq]at h;rw[<-h.2.2];exact(jBp (jIf E.np (mskM rd)) hs).le (jGH rd)
  .simp at h
 .simp at h
theorem jpz{E:Env}{ev:Ö->Slot}{rd:G->BS}{act:H (G×Æ)}{o:Ä}(ho:vB o=X){f:G}{args:H Arg}{mk:Ret->O (Slot×Ups)}:eM E ev rd act o≠B (.call f args mk):=by
 obtain⟨dst,op,type,pos,after,guard⟩:=o;cases op<;>simp only[vB,kr]at ho;intro h;simp only[eM]at h;split at h
 .split at h
  .simp at h
  .simp at h
 .simp at h
theorem UpSh.unmask{rd:G->BS}{M:H G}{u:Ups}(h:UpSh (kK M rd) u):UpSh rd u:=by
 intro e he;obtain⟨h1,h2⟩:=h e he;rcases Ng M rd e.1 with hq|hq
 .rw[hq]at h1;exact⟨h1,h2⟩
 .rw[hq]at h1;cases h3:e.2 with
  |free=>rw[h3]at h2;simp[isLive]at h2
  |gone=>rw[h3]at h2;simp[isLive]at h2
  |live b=>rw[h3]at h1;cases b<;>simp[ShEq]at h1
end
section
variable{N:NT}{np:G}{S0:aX}{w0:Z}{refs:Refs}{σ:St}{a:À}{w:Z}{S:aX}{γ:G->Y}
inductive Bef(ops:Ã Ä):G->G->Prop
 |dep {i j:G} {o:Ä}:ops[i]? = B o->j∈qF o->Bef ops i j
 |trans {i j k:G}:Bef ops i j->Bef ops j k->Bef ops i k
structure DOkR(ops:Ã Ä)(A:H (H G)):Prop where
 lt:∀i o,ops[i]? = B o->∀j∈qF o,j<i
 addr:∀i o,ops[i]? = B o->sF o=X->∀k,k∉A.getD i []
 dst:∀i j oi oj t,ops[i]? = B oi->ops[j]? = B oj->i≠j->oj.dst=B t->oi.dst≠B t/\(t∈oi.looksAt ops->Bef ops i j\/Bef ops j i)
 box:∀i j oi oj k,ops[i]? = B oi->ops[j]? = B oj->i≠j->k∈A.getD i []->k∈A.getD j []->Bef ops i j\/Bef ops j i
theorem DOkR.bef{ops:Ã Ä}{A:H (H G)}(h:DOkR ops A){i j:G}(hb:Bef ops i j):j<i:=by
 induction hb with
 |dep ho hj=>exact h.lt _ _ ho _ hj
 |trans _ _ h1 h2=>omega
def ClOk(ops:Ã Ä)(cl:H G):Prop:=∀i j,(cl.getD i 0).testBit j=X->Bef ops i j
theorem X9{ops:Ã Ä}{cls:H G}(hc:ClOk ops cls){i:G}{o:Ä}(ho:ops[i]? = B o):∀(l:H G)(m:G),(∀j∈l,j∈qF o)->(∀j,m.testBit j=X->Bef ops i j)->
  ∀j,(l.foldl (λm j=>m|||(2^j|||cls.getD j 0)) m).testBit j=X->Bef ops i j
 |[],m,_,hm,j,h=>hm j h
 |x::l,m,hl,hm,j,h=>by
  refine X9 hc ho l _ (λj hj=>hl j (by simp[hj])) (λj hj=>?_) j h;simp only[Nat.testBit_or,qe,Nat.testBit_two_pow,jl]at hj;rcases hj with hj|hj|hj
  .exact hm j hj
  .subst hj;exact .dep ho (hl x ae)
  .exact .trans (.dep ho (hl x ae)) (hc x j hj)
theorem Ya{ops:Ã Ä}:∀(l:H Ä)(cls:H G),ClOk ops cls->(∀k o,l[k]? = B o->ops[cls.length+k]? = B o)->ClOk ops (DW l cls)
 |[],cls,hc,_=>hc
 |o::os,cls,hc,hl=>by
  have ho:ops[cls.length]? = B o:=by have:=hl 0 o rfl;simpa using this
  refine Ya os _ ?_ (λk x hk=>by
   have:=hl (k+1) x (by simpa using hk);rw[List.length_append,kn];rwa[show cls.length+1+k=cls.length+(k+1) by omega])
  intro i j dT;rcases v7 i cls.length with hi|hi|hi
  .rw[Ë,ko hi,<-Ë]at dT;exact hc i j dT
  .subst hi;rw[Ë,kj (jh _),Nat.sub_self]at dT;simp only[List.getElem?_cons_zero,kp]at dT;exact X9 hc ho (qF o) 0 (λ_ h=>h) (λj h=>by simp at h) j dT
  .rw[Ë,qj aj]at dT;simp at dT
theorem Nn{ops:Ã Ä}{cl:H G}(hc:ClOk ops cl){i j:G}(h:DX cl i j=X):i=j\/Bef ops i j\/Bef ops j i:=by
 simp only[DX,qe,vu]at h;rcases h with (h|h)|h
 .exact .inl h
 .exact .inr (.inl (hc i j h))
 .exact .inr (.inr (hc j i h))
theorem jwB{ops:Ã Ä}{cl:H G}{A:H (H G)}(hc:ClOk ops cl)(ca:V3 ops cl A=X):DOkR ops A:=by
 have hz:∀{i:G}{o:Ä},ops[i]? = B o->(o,i)∈ops.toList.zipIdx:=by intro i o ho;rw[zd];exact⟨i,by rw[å];simp[ho]⟩
 have wk:∀i k,k∈A.getD i []->A.isEmpty=false:=by
  intro i k hk;cases A with
  |nil=>simp at hk
  |cons _ _=>rfl
 have aD:∀{i:G}{o:Ä},ops[i]? = B o->(∀j∈qF o,j<i)/\(A.isEmpty || !sF o||(A.getD i []).isEmpty)=X/\∀j oj,ops[j]? = B oj->HO ops cl A i o j oj=true:=by intro i o ho;have:=jw.1 ca (o,i) (hz ho);simp only[jc]at this;exact⟨λj hj=>by simpa using jw.1 this.1.1 j hj,this.1.2,λj oj qR=>jw.1 this.2 (oj,j) (hz qR)⟩
 refine⟨λi o ho=>(aD ho).1,λi o ho tu k hk=>?_,λi j oi oj t hi hj dT ht=>?_,λi j oi oj k hi hj dT hk bC=>?_⟩
 .have:=(aD ho).2.1;rw[wk i k hk,tu]at this;simp only[jg,ü,List.isEmpty_iff]at this;rw[this]at hk;simp at hk
 .have:=(aD hi).2.2 j oj hj;simp only[HO,ht,jc]at this;have h1:=this.1;simp only[qe,vu,dT,false_or,jc,bne_iff_ne,ne_eq,q9,qn,ka]at h1;refine⟨h1.1,λhm=>?_⟩;rcases h1.2 with h|h
  .exact absurd hm h
  .exact(Nn hc h).resolve_left dT
 .have:=(aD hi).2.2 j oj hj;simp only[HO,jc]at this;have h2:=this.2;rw[wk i k hk]at h2;simp only[ü,qe]at h2;rcases h2 with h|h
  .exact(Nn hc h).resolve_left dT
  .have:=jw.1 h k hk;simp only[qn,q9,ka]at this;exact absurd bC this
theorem Yb{ops:Ã Ä}{cl:H G}{A:H (H G)}(hc:ClOk ops cl){i:G}{oi:Ä}{k:G}(hm:(vC ops cl A i oi).contains k=U){j:G}{oj:Ä}(hj:ops[j]? = B oj)(hk:k∈A.getD j []) :
  i=j\/Bef ops i j\/Bef ops j i\/(sF oi=X/\vB oj=X):=by
 have hz:(oj,j)∈ops.toList.zipIdx:=by rw[zd];exact⟨j,by rw[å];simp[hj]⟩
 have bD:A.isEmpty=false:=by
  cases A with
  |nil=>simp at hk
  |cons _ _=>rfl
 unfold vC at hm;rw[bD]at hm;simp only[kr,zv,qn,ka,kz,not_exists,not_and]at hm;have:=hm (oj,j) hz;dsimp only at this;split at this
 .rename_i h;simp only[qe,jc]at h;rcases h with h|h
  .rcases Nn hc h with h|h|h
   .exact .inl h
   .exact .inr (.inl h)
   .exact .inr (.inr (.inl h))
  .exact .inr (.inr (.inr h))
 .exact absurd hk this
inductive DStep(P:Á)(E:Env)(ops:Ã Ä)(M Ai:H G)(o:Ä)(σ:St):St->Prop
 |skip (s:G) (wn v:Æ):p9 ops o=B (s,wn)->σ.sl s = .one (.one (.d .bool v))->v≠wn->DStep P E ops M Ai o σ (σ.setD o.dst .und)
 |skipU (s:G) (wn:Æ):p9 ops o=B (s,wn)->σ.sl s = .und->DStep P E ops M Ai o σ (σ.setD o.dst .und)
 |val (s:Slot) (u:Ups):(o.guard=Â\/∃s wn,p9 ops o=B (s,wn)/\σ.sl s = .one (.one (.d .bool wn)))->eM E σ.ev (kK M σ.bx) [] o=B (.val X s u)->(∀e∈u,e.1∈Ai)->
  DStep P E ops M Ai o σ ((σ.upd u).setD o.dst s)
 |call (f:G) (args:H Arg) (mk:Ret->O (Slot×Ups)) (ret:Ret) (s:Slot) (u:Ups):(o.guard=Â\/∃s wn,p9 ops o=B (s,wn)/\σ.sl s = .one (.one (.d .bool wn)))->
  eM E σ.ev (kK M σ.bx) [] o=B (.call f args mk)->Fun P f->Ie P f args (λr=>r=ret)->mk ret=B (s,u)->(∀e∈u,e.1∈Ai)->DStep P E ops M Ai o σ ((σ.upd u).setD o.dst s)
theorem Yc{s:G}{x:Slot}(h:σ.sl s=x):σ.setS s x=σ:=by
 unfold St.setS
 have:(λj=>if j=s then x else σ.sl j)=σ.sl:=by
  funext j
  split
  .rename_i hj;subst hj;exact h.symm
  .rfl
 rw[this]
theorem Yd{u:Ups}{Ai:H G}(h:(u.all λe=>Ai.contains e.1)=X):∀e∈u,e.1∈Ai:=λe he=>by simpa using jw.1 h e he
theorem Np{P:Á}{E:Env}(hC:lk P E.C)(hF:CFun E.C){ops:Ã Ä}{M Ai:H G}{o:Ä}{R:Type}{k:St->O R}{r:R}
  (hg:o.guard=Â\/∃s wn,p9 ops o=B (s,wn)/\σ.sl s = .one (.one (.d .bool wn)))(h:runD E M Ai σ o k=B r):∃σ',DStep P E ops M Ai o σ σ'/\k σ'=B r:=by
 unfold runD at h
 replace h:=V0 h
 split at h
 .simp at h
 .rename_i chk s u ho;split at h
  .rename_i hb;cases chk with
   |false=>simp at h
   |true=>exact⟨_,.val s u hg ho (Yd hb),h⟩
  .simp at h
 .rename_i f args mk ho;obtain⟨x,hx⟩:=hF f args;rw[hx]at h;cases x with
  |none=>simp at h
  |some ret=>
   simp only[j4]at h;obtain⟨hf,eb⟩:=hC f args Ret B ret (by rw[hx];rfl);split at h
   .rename_i s u bT;split at h
    .rename_i hb
     exact⟨_,.call f args mk ret s u hg ho hf (by
      intro w S vals ha hn hS;refine(eb w S vals ha hn hS).mono ?_
      rintro e w' ⟨r',Cg,rest⟩
      exact⟨r',by simpa using Cg,rest⟩) bT (Yd hb),h⟩
    .simp at h
   .simp at h
theorem jGI{P:Á}{E:Env}(hC:lk P E.C)(hF:CFun E.C){ops:Ã Ä}{M Ai:H G}{o:Ä}{R:Type}{k:St->O R}{r:R}
  (h:DY E ops M Ai σ o k=B r):∃σ',DStep P E ops M Ai o σ σ'/\k σ'=B r:=by
 unfold DY at h;split at h
 .rename_i hg;exact Np hC hF (.inl hg) h
 .split at h
  .rename_i s wn hg;split at h
   .rename_i v hv;cases v with
    |true=>
     rw[j6,Yc hv]at h;cases wn with
     |true=>exact Np hC hF (.inr ⟨s,X,hg,hv⟩) h
     |false=>exact⟨_,.skip s U X hg hv ae,h⟩
    |false=>
     rw[j7,Yc hv]at h;cases wn with
     |false=>exact Np hC hF (.inr ⟨s,U,hg,hv⟩) h
     |true=>exact⟨_,.skip s X U hg hv ae,h⟩
   .rename_i hv;exact⟨_,.skipU s wn hg hv,h⟩
   .simp at h
  .simp at h
theorem Ye{P:Á}{E:Env}(hC:lk P E.C)(hF:CFun E.C){ops:Ã Ä}{cl:H G}{A:H (H G)}{R:Type}{k:St->O R}{r:R}:∀(n i:G)(σ:St),i+n=ops.size->BT E ops cl A (ops.toList.drop i) i σ k=B r->
  ∃τ:G->St,τ i=σ/\k (τ ops.size)=B r/\∀j o,i<=j->ops[j]? = B o->nC E.N o=X/\DStep P E ops (vC ops cl A j o) (A.getD j []) o (τ j) (τ (j+1))
 |0,i,σ,hi,h=>by
  rw[Ê aj]at h;refine⟨λ_=>σ,rfl,h,λj o hj ho=>?_⟩;have:=(jq.1 ho).1;omega
 |n+1,i,σ,hi,h=>by
  have ao:i<ops.size:=aa;rw[Ç (by simpa using ao)]at h;simp only[BT]at h;split at h
  .rename_i hd;obtain⟨σ1,hs,hk⟩:=jGI (P:=P) hC hF h;obtain⟨τ1,h1,h2,h3⟩:=Ye hC hF n (i+1) σ1 aa hk;refine⟨λj=>if j=i then σ else τ1 j,ae,?_,λj o hj ho=>?_⟩
   .simp only[show ops.size≠i by omega,zv];exact h2
   .by_cases wm:j=i
    .subst wm;have Iu:ops[j]? = B ops[j]:=ju ao;rw[Iu]at ho;simp only[j5]at ho;subst ho;refine⟨by simpa using hd,?_⟩;simp only[if_true,show j+1≠j by omega,zv,h1];simpa using hs
    .simp only[wm,zv,show j+1≠i by omega];exact h3 j o aa ho
  .simp at h
theorem Rel.drawn(hR:Rel N np S0 w0 refs σ a w S γ)(n:G):Rel N np S0 w0 refs σ a { w with drawn:=n } S γ:=
 Rel.step (bx':=σ.bx) (γ':=γ) hR (λ_ _ h=>⟨h,rfl⟩) (.refl _ _) (λk b hb=>eZ.keep (w:=w) (w':={ w with drawn:=n }) (λ_ _ h=>⟨h,rfl⟩) (.refl _ _) rfl (λ_ _=>⟨rfl,λ_=>Iff.rfl⟩) (hR.box k b hb))
  hR.own hR.apart hR.new hR.here hR.below hR.grow hR.os hR.tape hR.output (λ_ _ _ h=>⟨rfl,h⟩)
theorem D_wp{P:Á}{E:Env}(hT:cP P E.T)(hR:Rel E.N E.np S0 w0 refs σ a w S γ)(hc:du σ){ops:Ã Ä}{M Ai:H G}{i:G}{o:Ä}(ho:ops[i]? = B o)(hd:nC E.N o=X)
  {τ τ':St}(hs:DStep P E ops M Ai o τ τ')(fU:(∀k,kK M σ.bx k=kK M τ.bx k)\/(sF o=X/\∀k,ShEq (kK M σ.bx k) (kK M τ.bx k)))(tw:∀t,t∈o.looksAt ops->σ.sl t=τ.sl t){K:À->Z->Prop}{Q:Ó->À->Z->Prop}
  (hK:∀(s:Slot)(u:Ups)(a':À)(w':Z)(S':aX)(γ':G->Y),τ'=(τ.upd u).setD o.dst s->(∀e∈u,e.1∈Ai)->Rel E.N E.np S0 w0 refs ((σ.upd u).setD o.dst s) a' w' S' γ'->du ((σ.upd u).setD o.dst s)->K a' w') :
  wpOp P ops Q i K a w:=by
 have rQ:=Ah hd
 have oq:∀x∈o.op.operands,σ.ev x=τ.ev x:=by
  intro x hx;cases x with
  |tmp t=>exact tw t (jo _ (List.mem_filterMap.2 ⟨.tmp t,by simpa using hx,rfl⟩))
  |_=>rfl
 have zQ:∀s wn,p9 ops o=B (s,wn)->s∈o.looksAt ops:=by
  intro s wn hg;refine jm _ ?_;unfold p9 at hg;split at hg
  .simp at hg
  .rename_i j w' M4;split at hg
   .rename_i oj qR;split at hg
    .rename_i s' fL;simp only[j5,j9]at hg;simp[M4,qR,fL,hg.1]
    .simp at hg
   .simp at hg
 have CB:∀s v,p9 ops o≠Â->s∈o.looksAt ops->τ.sl s = .one (.one (.d .bool v))->tm a s = .bool v:=by intro s v _ hm hv;have:=hR.slot s;rw[tw s hm,hv]at this;exact uz this
 have bk:eM E σ.ev (kK M σ.bx) [] o=eM E τ.ev (kK M τ.bx) [] o:=by
  rcases fU with fU|⟨tu,fU⟩
  .rw[show kK M σ.bx=kK M τ.bx from funext fU];exact X6 oq
  .rw[jE7 tu fU];exact X6 oq
 have fV:∀(s:Slot)(u:Ups)(v:Y)(w':Z)(S':aX)(γ':G->Y),τ'=(τ.upd u).setD o.dst s->(∀e∈u,e.1∈Ai)->Rel E.N E.np S0 w0 refs (σ.upd u) a w' S' γ'->
   jD S' w' γ' (σ.upd u).bx (tm a) s v->s.bare=X->K (a.put o.dst v) w':=by
  intro s u v w' S' γ' he hb dK fL dL;obtain⟨h1,h2⟩:=EY dK (XJ hc) rQ fL dL;exact hK s u _ w' S' γ' he hb h1 h2
 have xZ:(o.guard=Â\/∃s wn,p9 ops o=B (s,wn)/\τ.sl s = .one (.one (.d .bool wn)))->Å o (yielded ops a.tmps)=true:=by
  rintro (hg|⟨s,wn,hg,hv⟩)
  .simp[Å,hg]
  .exact(Ip hg).2 (CB s wn (by rw[hg];simp) (zQ s wn hg) hv)
 unfold wpOp;simp only[ho];cases hs with
 |skip s wn v hg hv bD=>
  have hw:¬Å o (yielded ops a.tmps)=true:=λhw=>by
   have h1:=(Ip hg).1 hw;rw[CB s v (by rw[hg];simp) (zQ s wn hg) hv]at h1;exact bD (by simpa using h1)
  simp only[hw,zv,kr];exact fV .und [] undef w S γ rfl ae hR rfl rfl
 |skipU s wn hg hv=>
  have hu:tm a s=undef:=by have:=hR.slot s;rw[tw s (zQ s wn hg),hv]at this;exact this
  have hw:¬Å o (yielded ops a.tmps)=true:=λhw=>by
   have h1:=(Ip hg).1 hw;rw[hu]at h1;simp[undef]at h1
  simp only[hw,zv,kr];exact fV .und [] undef w S γ rfl ae hR rfl rfl
 |val s u hg cg hb=>
  simp only[xZ hg,if_true];rw[<-bk]at cg;obtain⟨A',Ap,hle⟩:=X5 (Ng M σ.bx) cg;cases hle;obtain⟨⟨v,w',S',γ',aU,dK,fL⟩,dL⟩:=MX hT hR (act:=[]) (λg hg=>by simp at hg) (λ_=> .inl rfl) Ap;refine .inl ?_;unfold Õ;rcases aU with aU|⟨aU,rfl⟩
  .rw[aU,Ø];exact fV s u v w' S' γ' rfl hb dK fL dL
  .rw[aU,â];exact fV s u undef w' S' γ' rfl hb dK fL dL
 |call f args mk ret s u hg cg hf eb bT hb=>
  simp only[xZ hg,if_true];rw[<-bk]at cg;obtain⟨A',Ap,hle⟩:=X5 (Ng M σ.bx) cg;cases hle with
  |call _ _ _ mk' mf=>
   have E6:=mf _ _ bT;obtain⟨vals,aU,oV,dL⟩:=XG hR (act:=[]) (λg hg=>by simp at hg) (λ_=> .inl rfl) Ap hf eb;refine .inl ?_;unfold Õ;rw[aU,Ð];refine oV.mono ?_
   rintro e w' ⟨ret',rfl,aD⟩
   obtain⟨v,S',γ',rfl,dK,fL⟩:=aD s u E6;exact fV s u v w' S' γ' rfl hb dK fL (dL _ s u E6)
end
section
variable{S0:aX}{w0:Z}{refs:Refs}{σ:St}{a:À}{w:Z}{S:aX}{γ:G->Y}
theorem Nq{o:Ä}{j:G}:j∈qF o↔∃e∈o.after,Region.binds .any e=X/\e.on=j:=by
 grind[qF]
theorem jzy{ops:Ã Ä}{aL:Ã Æ}{i:G}(h:i∈í .any ops aL) :
  aL.getD i X=U/\∃o,ops[i]? = B o/\∀j∈qF o,aL.getD j U=true:=by
 grind[mem_ready,Nq]
def wo(P:Á)(E:Env)(ops:Ã Ä)(cl:H G)(A:H (H G))(τ:G->St):Prop:=
 ∀j o,ops[j]? = B o->nC E.N o=X/\DStep P E ops (vC ops cl A j o) (A.getD j []) o (τ j) (τ (j+1))
theorem Iv:∀(u:Ups)(σ:St)(t:G),(σ.upd u).sl t=σ.sl t
 |[],_,_=>rfl
 |e::u,σ,t=>Iv u (σ.setB e.1 e.2) t
theorem Aq(σ:St)(d:O G)(s:Slot):(σ.setD d s).bx=σ.bx:=by cases d<;>rfl
theorem Nr{σ:St}{d:O G}{s:Slot}{t:G}(h:d≠B t):(σ.setD d s).sl t=σ.sl t:=by
 cases d<;>grind[St.setD,St.setS]
theorem jzz{σ:St}{s:Slot}{t:G}:(σ.setD (B t) s).sl t=s:=by simp[St.setD,St.setS]
theorem Iw:∀(u:Ups)(σ:St)(k:G),(∀e∈u,e.1≠k)->(σ.upd u).bx k=σ.bx k
 |[],_,_,_=>rfl
 |e::u,σ,k,h=>by
  have h1:=Iw u (σ.setB e.1 e.2) k (λx hx=>h x (by simp[hx]));show ((σ.setB e.1 e.2).upd u).bx k=_;rw[h1];have:=h e ae;have bD:¬k=e.1:=λhk=>this hk.symm;simp[St.setB,bD]
theorem Yf:∀(u:Ups)(σ τ:St)(k:G),σ.bx k=τ.bx k->(σ.upd u).bx k=(τ.upd u).bx k
 |[],_,_,_,h=>h
 |e::u,σ,τ,k,h=>by
  refine Yf u (σ.setB e.1 e.2) (τ.setB e.1 e.2) k ?_;simp only[St.setB];split
  .rfl
  .exact h
section
variable{P:Á}{E:Env}{ops:Ã Ä}{cl:H G}{A:H (H G)}{τ:G->St}
theorem Ns(h:wo P E ops cl A τ){j:G}{o:Ä}(ho:ops[j]? = B o):∃s u,τ (j+1)=((τ j).upd u).setD o.dst s/\(∀e∈u,e.1∈A.getD j [])/\(vB o=X->∀k,ShEq ((τ j).bx k) ((τ (j+1)).bx k)):=by
 obtain⟨_,hs⟩:=h j o ho;generalize hq:τ (j+1)=σ' at hs;cases hs with
 |skip s wn v hg hv bD=>exact⟨.und,[],rfl,ae,λ_ k=>by grind[Aq,ShEq.refl]⟩
 |skipU s wn hg hv=>exact⟨.und,[],rfl,ae,λ_ k=>by grind[Aq,ShEq.refl]⟩
 |val s u hg cg hb=>exact⟨s,u,rfl,hb,λaW k=>by
  rw[Aq];exact X7 u (τ j) (λe he=>((jwA aW cg).unmask e he).1) k⟩
 |call f args mk ret s u hg cg hf eb bT hb=>grind[jpz]
theorem jGJ(h:wo P E ops cl A τ){j:G}{o:Ä}(ho:ops[j]? = B o){t:G}(ht:o.dst≠B t):(τ (j+1)).sl t=(τ j).sl t:=by
 grind[Ns,Nr,Iv]
theorem Yg(h:wo P E ops cl A τ){j:G}{o:Ä}(ho:ops[j]? = B o){k:G}(hk:k∉A.getD j []):(τ (j+1)).bx k=(τ j).bx k:=by
 obtain⟨s,u,he,hu,_⟩:=Ns h ho;rw[he,Aq];grind[Iw]
theorem E7(h:wo P E ops cl A τ){t j:G}:∀n,j+n<=ops.size->(∀k o,j<=k->k<j+n->ops[k]? = B o->o.dst≠B t)->(τ (j+n)).sl t=(τ j).sl t
 |0,_,_=>rfl
 |n+1,hn,hk=>by
  have ao:j+n<ops.size:=aa;have ho:ops[j+n]? = B ops[j+n]:=ju ao;rw[<-ê,jGJ h ho (hk _ _ aa aa ho)];exact E7 h n aa (λk o h1 h2=>hk k o h1 aa)
theorem E8(h:wo P E ops cl A τ){k j:G}:∀n,j+n<=ops.size->(∀i o,j<=i->i<j+n->ops[i]? = B o->k∉A.getD i [])->(τ (j+n)).bx k=(τ j).bx k
 |0,_,_=>rfl
 |n+1,hn,hk=>by
  have ao:j+n<ops.size:=aa;have ho:ops[j+n]? = B ops[j+n]:=ju ao;rw[<-ê,Yg h ho (hk _ _ aa aa ho)];exact E8 h n aa (λi o h1 h2=>hk i o h1 aa)
theorem Ix(h:wo P E ops cl A τ){k j:G}:∀n,j+n<=ops.size->(∀i o,j<=i->i<j+n->ops[i]? = B o->k∈A.getD i []->vB o=X)->ShEq ((τ j).bx k) ((τ (j+n)).bx k)
 |0,_,_=>ShEq.refl _
 |n+1,hn,hk=>by
  have ao:j+n<ops.size:=aa;have ho:ops[j+n]? = B ops[j+n]:=ju ao;have ih:=Ix h n aa (λi o h1 h2=>hk i o h1 aa);refine ih.trans ?_;rw[<-ê];by_cases hm:k∈A.getD (j+n) [];all_goals grind[Ns,Yg,ShEq.refl]
structure Ph(ops:Ã Ä)(A:H (H G))(τ:G->St)(aL:Ã Æ)(σ:St):Prop where
 closed:∀j o,ops[j]? = B o->aL.getD j U=X->∀d∈qF o,aL.getD d U=X
 done:∀j o t,ops[j]? = B o->o.dst=B t->aL.getD j U=X->σ.sl t=(τ (j+1)).sl t
 rest:∀t,(∀j o,ops[j]? = B o->o.dst=B t->aL.getD j U=U)->σ.sl t=(τ 0).sl t
 bdone:∀j k,j<ops.size->k∈A.getD j []->aL.getD j U=X->(∀i,i<ops.size->k∈A.getD i []->aL.getD i U=X->i<=j)->σ.bx k=(τ (j+1)).bx k
 brest:∀k,(∀j,j<ops.size->k∈A.getD j []->aL.getD j U=U)->σ.bx k=(τ 0).bx k
theorem Ph.bef{aL:Ã Æ}(hp:Ph ops A τ aL σ){i j:G}(hb:Bef ops i j)(hi:aL.getD i U=X):aL.getD j U=true:=by
 induction hb with
 |dep ho hj=>exact hp.closed _ _ ho hi _ hj
 |trans _ _ h1 h2=>exact h2 (h1 hi)
theorem Ph.befd{aL:Ã Æ}(hp:Ph ops A τ aL σ){i j:G}{o:Ä}(ho:ops[i]? = B o)(hd:∀j∈qF o,aL.getD j U=X)(hb:Bef ops i j):aL.getD j U=true:=by
 induction hb with
 |dep Iu hj=>simp_all
 |trans dS gm h1 h2=>exact hp.bef gm (h1 ho)
theorem Iy(p:G->Prop):∀n,(∃j,j<n/\p j)->∃m,m<n/\p m/\∀j,j<n->p j->j<=m
 |0,h=>by obtain⟨j,hj,_⟩:=h;omega
 |n+1,h=>by
  by_cases hn:p n
  .exact⟨n,aa,hn,λj hj _=>aa⟩
  .obtain⟨j,hj,hp⟩:=h
   have xG:j<n:=by
    rcases qr j n with h|h
    .exact h
    .have:j=n:=aa;subst this;exact absurd hp hn
   obtain⟨m,hm,Yh,aD⟩:=Iy p n ⟨j,xG,hp⟩;refine⟨m,aa,Yh,λi hi CC=>?_⟩;rcases qr i n with h|h
   .exact aD i h CC
   .have:i=n:=aa;subst this;exact absurd CC hn
theorem juI{l:Ã Æ}{i:G}(h:l.getD i X=U):l.getD i U=false:=by
 grind
theorem tx{l:Ã Æ}{i j:G}(hi:i<l.size):(l.setIfInBounds i X).getD j U=X↔j=i\/l.getD j U=true:=by
 by_cases h:i=j
 .subst h;simp[hi]
 .rw[getD_set_ne U h];grind
theorem E9{l:Ã Æ}{i:G}(h:¬l.getD i U=X):l.getD i U=false:=by
 simp_all
section
variable(ca:DOkR ops A)(h:wo P E ops cl A τ){aL:Ã Æ}(hp:Ph ops A τ aL σ){i:G}{o:Ä}(hi:ops[i]? = B o)(rU:aL.getD i U=U)(gu:∀j∈qF o,aL.getD j U=X)
include ca h hp hi rU gu
theorem jGK:∀t,t∈o.looksAt ops->σ.sl t=(τ i).sl t:=by
 intro t Ev;have qM:i<ops.size:=(jq.1 hi).1;have Iz:∀j oj,ops[j]? = B oj->oj.dst=B t->j≠i->Bef ops i j\/Bef ops j i:=λj oj hj ht bD=>(ca.dst i j o oj t hi hj (λe=>bD e.symm) ht).2 Ev;by_cases hex:∃(j:G)(oj:Ä),ops[j]? = B oj/\oj.dst=B t/\aL.getD j U=X
 .obtain⟨j,oj,hj,ht,wq⟩:=hex;have wm:j≠i:=λe=>by simp_all
  have Ar:Bef ops i j:=by
   rcases Iz j oj hj ht wm with hd|hd
   .exact hd
   .have:=hp.bef hd wq
    simp_all
  have ao:=ca.bef Ar;rw[hp.done j oj t hj ht wq];have:=E7 h (t:=t) (j:=j+1) (i-(j+1)) aa (λk ok h1 h2 hk=>(ca.dst k j ok oj t hk hj aa ht).1);grind
 .rw[hp.rest t (λj oj hj ht=>E9 λhq=>hex ⟨j,oj,hj,ht,hq⟩)]
  have:=E7 h (t:=t) (j:=0) i aa (λk ok _ hk qT zS=>by
   have oX:k≠i:=aa;rcases Iz k ok qT zS oX with hd|hd
   .exact hex ⟨k,ok,qT,zS,hp.befd hi gu hd⟩
   .have:=ca.bef hd;omega)
  simp_all
theorem Yi{k:G}(hk:∀j oj,ops[j]? = B oj->k∈A.getD j []->i=j\/Bef ops i j\/Bef ops j i):σ.bx k=(τ i).bx k:=by
 have qM:i<ops.size:=(jq.1 hi).1;by_cases hex:∃j,j<ops.size/\(k∈A.getD j []/\aL.getD j U=X)
 .obtain⟨m,hm,⟨qU,wu⟩,fg⟩:=Iy _ _ hex;have Nt:ops[m]? = B ops[m]:=ju hm;have Nu:i≠m:=λe=>by simp_all
  have Ar:Bef ops i m:=by
   rcases hk m _ Nt qU with hd|hd|hd
   .exact absurd hd Nu
   .exact hd
   .have:=hp.bef hd wu
    simp_all
  have ao:=ca.bef Ar;rw[hp.bdone m k hm qU wu (λj hj fN wq=>fg j hj ⟨fN,wq⟩)]
  have:=E8 h (k:=k) (j:=m+1) (i-(m+1)) aa (λj oj h1 h2 hj fN=>by
   rcases hk j oj hj fN with hd|hd|hd
   .omega
   .have:=fg j aa ⟨fN,hp.befd hi gu hd⟩;omega
   .have:=ca.bef hd;omega)
  grind
 .rw[hp.brest k (λj hj fN=>E9 λhq=>hex ⟨j,hj,fN,hq⟩)]
  have:=E8 h (k:=k) (j:=0) i aa (λj oj h1 h2 hj fN=>by
   rcases hk j oj hj fN with hd|hd|hd
   .omega
   .exact hex ⟨j,aa,fN,hp.befd hi gu hd⟩
   .have:=ca.bef hd;omega)
  simp_all
theorem jJK(tu:sF o=X){k:G}(hk:∀j oj,ops[j]? = B oj->k∈A.getD j []->i=j\/Bef ops i j\/Bef ops j i\/vB oj=X):ShEq (σ.bx k) ((τ i).bx k):=by
 have qM:i<ops.size:=(jq.1 hi).1;by_cases hex:∃j,j<ops.size/\(k∈A.getD j []/\aL.getD j U=X)
 .obtain⟨m,hm,⟨qU,wu⟩,fg⟩:=Iy _ _ hex;have Nt:ops[m]? = B ops[m]:=ju hm;rw[hp.bdone m k hm qU wu (λj hj fN wq=>fg j hj ⟨fN,wq⟩)];rcases qr m i with Nu|Nu
  .have:=Ix h (k:=k) (j:=m+1) (i-(m+1)) aa (λj oj h1 h2 hj fN=>by
    rcases hk j oj hj fN with hd|hd|hd|hd
    .omega
    .have:=fg j aa ⟨fN,hp.befd hi gu hd⟩;omega
    .have:=ca.bef hd;omega
    .exact hd)
   grind
  .have hmi':i≠m:=λe=>by simp_all
   have:=Ix h (k:=k) (j:=i) (m+1-i) aa (λj oj h1 h2 hj fN=>by
    have wq:aL.getD j U=true:=by
     by_cases x8:j=m
     .rw[x8];exact wu
     .rcases ca.box j m oj ops[m] k hj Nt x8 fN qU with hd|hd
      .have:=ca.bef hd;omega
      .exact hp.bef hd wu
    rcases hk j oj hj fN with hd|hd|hd|hd
    .simp_all
    .have:=ca.bef hd;omega
    .have:=hp.bef hd wq
     simp_all
    .exact hd)
   grind[ShEq.symm]
 .rw[hp.brest k (λj hj fN=>E9 λhq=>hex ⟨j,hj,fN,hq⟩)]
  have:=Ix h (k:=k) (j:=0) i aa (λj oj h1 h2 hj fN=>by
   rcases hk j oj hj fN with hd|hd|hd|hd
   .omega
   .exact absurd ⟨j,aa,fN,hp.befd hi gu hd⟩ hex
   .have:=ca.bef hd;omega
   .exact hd)
  simp_all
theorem jGL(hc:ClOk ops cl):(∀k,kK (vC ops cl A i o) σ.bx k=kK (vC ops cl A i o) (τ i).bx k)\/(sF o=X/\∀k,ShEq (kK (vC ops cl A i o) σ.bx k) (kK (vC ops cl A i o) (τ i).bx k)):=by
 by_cases tu:sF o=X
 .grind[ShEq.mask,jJK,Yb]
 .refine .inl λk=>?_;unfold kK;split
  .rfl
  .rename_i hk
   exact Yi ca h hp hi rU gu λj oj hj fN=>by
    rcases Yb hc (by simpa using hk) hj fN with hd|hd|hd|hd;all_goals simp_all
theorem jGM(cO:ops.size<=aL.size){s:Slot}{u:Ups}(he:τ (i+1)=((τ i).upd u).setD o.dst s)(hu:∀e∈u,e.1∈A.getD i []):Ph ops A τ (aL.setIfInBounds i X) ((σ.upd u).setD o.dst s):=by
 have qM:i<ops.size:=(jq.1 hi).1;have lg:i<aL.size:=aa
 have oW:∀k,k∈A.getD i []->σ.bx k=(τ i).bx k:=λk hk=>Yi ca h hp hi rU gu λj oj hj fN=>by
  by_cases dT:i=j
  .exact .inl dT
  .exact .inr (ca.box i j o oj k hi hj dT hk fN)
 refine⟨?_,?_,?_,?_,?_⟩
 .intro j oj qR hj d pN;rcases (tx lg).1 hj with rfl|hj
  .grind[tx]
  .exact(tx lg).2 (.inr (hp.closed j oj qR hj d pN))
 .intro j oj t qR ht hj;by_cases wm:j=i
  .grind[jzz]
  .rcases (tx lg).1 hj with hj|hj
   .exact absurd hj wm
   .rw[Nr (ca.dst i j o oj t hi qR (λe=>wm e.symm) ht).1,Iv];exact hp.done j oj t qR ht hj
 .intro t aD
  have hot:o.dst≠B t:=λe=>by
   grind[tx]
  rw[Nr hot,Iv]
  exact hp.rest t λj oj qR ht=>E9 λhq=>by
   grind[tx]
 .intro j k hj fN wq fg;rw[Aq];by_cases wm:j=i
  .grind[Aq,Yf]
  .have Fa:aL.getD j U=true:=by grind[tx]
   have oX:k∉A.getD i []:=λoX=>by
    have hle:=fg i qM oX ((tx lg).2 (.inl rfl));have qR:ops[j]? = B ops[j]:=ju hj;rcases ca.box i j o _ k hi qR (λe=>wm e.symm) oX fN with hd|hd
    .have:=ca.bef hd;omega
    .have:=hp.bef hd Fa
     simp_all
   rw[Iw u σ k (λe hm xP=>oX (xP▸hu e hm))];exact hp.bdone j k hj fN Fa (λi' bG bC lu=>fg i' bG bC ((tx lg).2 (.inr lu)))
 .intro k aD
  have oX:k∉A.getD i []:=λoX=>by
   grind[tx]
  rw[Aq,Iw u σ k (λe hm xP=>oX (xP▸hu e hm))]
  exact hp.brest k λj hj fN=>E9 λhq=>by
   grind[tx]
end
theorem jIh(ca:DOkR ops A)(h:wo P E ops cl A τ){aL:Ã Æ}(hp:Ph ops A τ aL σ)(aD:∀j,j<ops.size->aL.getD j U=X):σ=τ ops.size:=by
 have fp:σ.sl=(τ ops.size).sl:=by
  funext t
  by_cases hex:∃(j:G)(oj:Ä),ops[j]? = B oj/\oj.dst=B t
  .obtain⟨j,oj,hj,ht⟩:=hex;have ao:j<ops.size:=(jq.1 hj).1;rw[hp.done j oj t hj ht (aD j ao)];have:=E7 h (t:=t) (j:=j+1) (ops.size-(j+1)) aa (λk ok h1 h2 hk=>(ca.dst k j ok oj t hk hj aa ht).1);grind
  .rw[hp.rest t (λj oj hj ht=>absurd ⟨j,oj,hj,ht⟩ hex)];have:=E7 h (t:=t) (j:=0) ops.size aa (λk ok _ hk qT zS=>hex ⟨k,ok,qT,zS⟩)
   simp_all
 have fU:σ.bx=(τ ops.size).bx:=by
  funext k
  by_cases hex:∃j,j<ops.size/\k∈A.getD j []
  .obtain⟨m,hm,qU,fg⟩:=Iy _ _ hex;rw[hp.bdone m k hm qU (aD m hm) (λj hj fN _=>fg j hj fN)];have:=E8 h (k:=k) (j:=m+1) (ops.size-(m+1)) aa (λj oj h1 h2 hj fN=>by grind);grind
  .rw[hp.brest k (λj hj fN=>absurd ⟨j,hj,fN⟩ hex)];have:=E8 h (k:=k) (j:=0) ops.size aa (λj oj h1 h2 hj fN=>hex ⟨j,aa,fN⟩)
   simp_all
 cases σ;simp_all
end
theorem juJ{l:Ã Æ}{i:G}(hi:l.getD i X=U):(l.setIfInBounds i X).toList.count U+1=l.toList.count false:=by
 have ao:i<l.size:=by grind
 have hv:l.toList[i]'(by simpa using ao)=false:=by
  simp_all
 grind
theorem jzA{l:Ã Æ}(h:l.toList.count U=0){j:G}(hj:j<l.size):l.getD j U=true:=by
 have h0:U∉l.toList:=List.count_eq_zero.1 h;simp only[Í,ju hj,kp];grind
theorem jBu{ops:Ã Ä}{A:H (H G)}(ca:DOkR ops A){aL:Ã Æ}(hs:aL.size=ops.size)(h:í .any ops aL=[]):∀j,j<ops.size->aL.getD j U=true:=by
 intro j;induction j using ö with
 |_ j ih=>
  intro hj;cases hq:aL.getD j U with
  |true=>rfl
  |false=>
   have ho:ops[j]? = B ops[j]:=ju hj
   have hm:j∈í .any ops aL:=mem_ready.2 ⟨by
    simp_all,ops[j],ho,λe he hb=>ih _ (ca.lt j _ ho _ (Nq.2 ⟨e,he,hb,rfl⟩)) (Nat.lt_trans (ca.lt j _ ho _ (Nq.2 ⟨e,he,hb,rfl⟩)) hj)⟩
   simp_all
theorem jzB{P:Á}{E:Env}(hT:cP P E.T){ops:Ã Ä}{cl:H G}{A:H (H G)}(eu:ClOk ops cl)(ca:DOkR ops A){τ:G->St}(h:wo P E ops cl A τ)
  {Q:Ó->À->Z->Prop}(hn:∀a' w' S' γ',Rel E.N E.np S0 w0 refs (τ ops.size) a' w' S' γ'->du (τ ops.size)->Q .normal a' w') :
  ∀(fuel:G)(aL:Ã Æ){σ:St}{a:À}{w:Z}{S:aX}{γ:G->Y},aL.size=ops.size->aL.toList.count U<=fuel->Rel E.N E.np S0 w0 refs σ a w S γ->du σ->
   Ph ops A τ aL σ->wpAny P .any ops Q fuel aL a w:=by
 have fW:∀(aL:Ã Æ){σ:St}{a:À}{w:Z}{S:aX}{γ:G->Y},Rel E.N E.np S0 w0 refs σ a w S γ->du σ->Ph ops A τ aL σ->(∀j,j<ops.size->aL.getD j U=X)->Q .normal a w:=by grind[jIh]
 intro fuel;induction fuel with
 |zero=>intro aL σ a w S γ hs Fb hR hc Fc;have aD:∀j,j<ops.size->aL.getD j U=true:=λj hj=>jzA aa aa;refine⟨?_,fW aL hR hc Fc aD⟩;refine List.eq_nil_iff_forall_not_mem.2 λi hi=>?_;grind[mem_ready]
 |succ fuel ih=>
  intro aL σ a w S γ hs Fb hR hc Fc;refine⟨λgp=>fW aL hR hc Fc (jBu ca hs gp),λi hi=>?_⟩;obtain⟨rU,o,ho,gu⟩:=jzy hi;have Fe:=juI rU;have dm:=juJ rU;have cO:(aL.setIfInBounds i X).size=ops.size:=by simpa using hs
  obtain⟨hd,fi⟩:=h i o ho;refine D_wp hT hR hc ho hd fi (jGL ca h Fc ho Fe gu eu) (jGK ca h Fc ho Fe gu) ?_;grind[jGM]
theorem jzC{P:Á}{E:Env}(hT:cP P E.T)(hC:lk P E.C)(hF:CFun E.C)(hR:Rel E.N E.np S0 w0 refs σ a w S γ)(hc:du σ){ops:Ã Ä}{A:H (H G)}
  {R:Type}{k:St->O R}{r:R}{Q:Ó->À->Z->Prop}(hn:∀σ' a' w' S' γ',Rel E.N E.np S0 w0 refs σ' a' w' S' γ'->du σ'->k σ'=B r->Q .normal a' w')(h:DZ E ops A σ k=B r) :
  wpAny P .any ops Q ops.size (Ù ops.size U) a { w with drawn:=w.drawn+1 }:=by
 unfold DZ at h;split at h
 .rename_i ca;obtain⟨τ,h1,h2,h3⟩:=Ye (P:=P) (ops:=ops) hC hF ops.size 0 σ (ku _) (by simpa using h);have Nv:∀j,(Ù ops.size U).getD j U=false:=by intro j;rcases qr j ops.size with hj|hj;all_goals simp_all
  have eu:ClOk ops (DW ops.toList []):=Ya ops.toList [] (λi j h=>by simp at h) (λk o hk=>by simpa using hk);refine jzB hT eu (jwB eu ca) (τ:=τ) (λj o ho=>h3 j o (jy _) ho) (λa' w' S' γ' dK dO=>hn _ a' w' S' γ' dK dO h2) ops.size _ ae ae (hR.drawn _) hc ?_
  exact⟨λj o _ hj=>by simp_all,λj o t _ _ hj=>by simp_all,λt _=>by rw[h1],
   λj k _ _ hj=>by simp_all,λk _=>by rw[h1]⟩
 .simp at h
end
def FR(ro:O G):Fence:={ Fence.wide with round:=ro }
theorem Yj(ro:O G)(n:G):(FR ro).room n:=λd h=>by simp[FR,Fence.wide]at h
section
variable{P:Á}{ro:O G}{n:G}
theorem jGN{f:FuncId}{args:Ã Y}{w:Z}{R:Ending->Z->Prop}(h:Calls P f args w R):ý (FR ro) n P f args w R:=(callsIn_wide (n:=n)).2 h
theorem jGO{f:FuncId}{args:Ã Y}{w:Z}{R:Ending->Z->Prop}(h:ý (FR ro) n P f args w R):Calls P f args w R:=(callsIn_wide (n:=n)).1 h
theorem jIi{m:G}{c:Ô}{Q:Ó->À->Z->Prop}{a:À}{w:Z}(h:c.wpIn (FR ro) n P Q a w):c.wpIn (FR ro) m P Q a w:=
 λb k cs gS hb hr=>h b k cs gS hb (Yj _ _)
theorem jIj{row:String}{args:Ã Y}{w:Z}{R:Y->Z->Prop}(h:Rows P row args w R):RowsIn (FR ro) n P row args w R:=
 λc cs _=>let ⟨v,w',r,s⟩:=h c cs;⟨v,w',r,stepsIn_wide.2 s⟩
theorem IA{o:Ä}(hp:ro=Â\/∀c,o.op ≠ .defer c){a:À}{w:Z}{K K':À->Z->Prop}{Q:Ó->À->Z->Prop}(hK:∀a w,K a w->K' a w)
  (h:o.wp P a w K Q):o.wpIn (FR ro) n P a w K' Q:=by
 refine⟨λ_ _=>trivial,?_⟩
 have e:o.semAt (FR ro).round a.eval=execOp a.eval o:=by
  rcases hp with rfl|hp
  .rfl
  .exact Oper.semAt_eq _ _ _ hp
 rw[e];unfold Õ at h;revert h;cases (execOp a.eval o).run P w with
 |ok x w'=>
  cases x with
  |value v=>intro h;exact hK _ _ h
  |skip=>intro h;exact hK _ _ h
  |defer d=>intro h;exact hK _ _ h
  |enter f args=>
   intro h;refine⟨λhd=>by simp[FR,Fence.wide]at hd,jGN (Calls.mono h λe zD he=>?_)⟩;cases e with
   |returned v=>exact hK _ _ he
   |panicked c=>exact he
   |outgrown=>exact he
  |row r args=>intro h;exact⟨λhd=>by simp[FR,Fence.wide]at hd,jIj (Rows.mono h λv zD he=>hK _ _ he)⟩
  |round l f tmps x y=>intro h;exact h.elim
  |_=>intro h;exact h.elim
 |halt x w'=>cases x<;>intro h<;>exact h
theorem CD{ops:Ã Ä}{Q:Ó->À->Z->Prop}(hp:ro=Â\/∀o∈ops.toList,∀c,o.op ≠ .defer c)(db:¬ñ Q):∀(l:H G)(a:À)(w:Z),wpOps P ops Q l a w->wpOpsIn (FR ro) n P ops Q l a w
 |[],a,w,h=>h
 |i::r,a,w,h=>by
  simp only[wpOps]at h;simp only[wpOpsIn];cases ho:ops[i]? with
  |none=>simp only[ho]at h ⊢;exact CD hp db r a w h
  |some o=>
   simp only[ho]at h ⊢;split
   .rename_i hw;simp only[hw,if_true]at h;rcases h with h|⟨_,h⟩
    .refine IA (hp.imp id λhh=>hh o ?_) (λa w=>CD hp db r a w) h;obtain⟨ao,rfl⟩:=jq.1 ho;exact Array.mem_toList_iff.2 (ï ao)
    .exact absurd h db
   .rename_i hw;simp only[hw]at h;exact⟨λ_ _=>trivial,CD hp db r _ w h⟩
theorem IB{md:Region.Mode}{ops:Ã Ä}{Q:Ó->À->Z->Prop}(hp:ro=Â\/∀o∈ops.toList,∀c,o.op ≠ .defer c)(db:¬ñ Q) :
  ∀(fuel:G)(aL:Ã Æ)(a:À)(w:Z),wpAny P md ops Q fuel aL a w->wpAnyIn (FR ro) n P md ops Q fuel aL a w
 |0,_,_,_,h=>h
 |fuel+1,aL,a,w,h=>by
  refine⟨h.1,λi hi=>?_⟩;have h2:=h.2 i hi;unfold wpOp at h2;unfold wpOpIn;cases ho:ops[i]? with
  |none=>simp only[ho]at h2 ⊢;exact IB hp db fuel _ a w h2
  |some o=>
   simp only[ho]at h2 ⊢;split
   .rename_i hw;simp only[hw,if_true]at h2;rcases h2 with h2|⟨_,h2⟩
    .refine IA (hp.imp id λhh=>hh o ?_) (λa w=>IB hp db fuel _ a w) h2;obtain⟨ao,rfl⟩:=jq.1 ho;exact Array.mem_toList_iff.2 (ï ao)
    .exact absurd h2 db
   .rename_i hw;simp only[hw]at h2;exact⟨λ_ _=>trivial,IB hp db fuel _ _ w h2⟩
end
section
variable{N:NT}{np:G}{S0:aX}{w0:Z}{refs:Refs}{σ:St}{a:À}{w:Z}{S:aX}{γ:G->Y}
theorem Rel.allocO(hR:Rel N np S0 w0 refs σ a w S γ)(o:Obj):Rel N np S0 w0 refs σ a (w.alloc o) S γ:=
 Rel.step (bx':=σ.bx) (γ':=γ) hR (zK hR o) (.refl _ _) (λk b hb=>eZ.keep (zK hR o) (.refl _ _) rfl (λg hg=>⟨heap_alloc_old w o (lj (hR.box k b hb) hg),λ_=>Iff.rfl⟩) (hR.box k b hb))
  hR.own hR.apart hR.new (λg i h=>by have:=hR.here g i h;simp;omega) (λg hg hr=>(heap_alloc_old w o (qd hg hR.grow)).trans (hR.below g hg hr)) (by have:=hR.grow;simp;omega) hR.os hR.tape hR.output
  (λg hg _ h=>⟨heap_alloc_old w o hg,h⟩)
structure Grew(w w':Z):Prop where
 old:∀g,g<w.heap.size->w'.heap[g]? = w.heap[g]?
 size:w.heap.size<=w'.heap.size
 os:w'.os=w.os
 tape:w'.tape=w.tape
 output:w'.output=w.output
structure CE(S:aX)(w:Z)(S':aX)(w':Z):Prop where
 sub:∀g o,S g o->S' g o
 new:∀g o,S' g o->S g o\/w.heap.size<=g
 here:∀g o,S' g o->g<w'.heap.size
theorem Rel.grew(hR:Rel N np S0 w0 refs σ a w S γ){S':aX}{w':Z}(h:Grew w w')(hs:CE S w S' w'):Rel N np S0 w0 refs σ a w' S' γ:=
 have aW:dI S w S' w':=λg o hg=>⟨hs.sub g o hg,È (h.old g (hR.here g o hg))⟩
 Rel.step (bx':=σ.bx) (γ':=γ) hR aW (.refl _ _) (λk b hb=>eZ.keep aW (.refl _ _) rfl (λg hg=>
   have hl:=lj (hR.box k b hb) hg
   ⟨h.old g hl,λo=>⟨λh1=>(hs.new g o h1).resolve_right aa,hs.sub g o⟩⟩) (hR.box k b hb))
  hR.own hR.apart (λg o h1=>(hs.new g o h1).elim (hR.new g o) λh2=> .inr (.inl (kf hR.grow h2))) hs.here (λg hg hr=>(h.old g (qd hg hR.grow)).trans (hR.below g hg hr)) (kf hR.grow h.size) (h.os.trans hR.os) (h.tape.trans hR.tape) (h.output.trans hR.output)
  (λg hg _ hn=>⟨h.old g hg,hn⟩)
theorem Rel.swap(hR:Rel N np S0 w0 refs σ a w S γ){N':NT}{refs':Refs}{a':À}(hb:refs'.blks=refs.blks)(hv:refs'.val=refs.val)(cO:a'.tmps.size=N'.n)(x9:a'.defers=refs'.ds)
  (tz:∀i,jD S w γ σ.bx (tm a') (σ.sl i) (tm a' i))(hk:∀g o,refs'.kw g=B o->w.heap[g]? = B o/\∀k b,σ.bx k = .live b->blk (γ k)≠B g)
  (hf:∀i v,refs'.fix i=B v->N'.pin i=X/\a'.tmps.getD i undef=v)(IC:refs'.mv=refs.mv:=by rfl):Rel N' np S0 w0 refs' σ a' w S γ:=
 have hm:∀g,g∈refs'↔g∈refs:=λg=>by show g∈refs'.blks↔g∈refs.blks;rw[hb]
 ⟨cO,x9,tz,hR.box,λk b g h h'=>(hR.own k b g h h').imp (λh=>Own.swap h hb IC) λh=>⟨(hm g).2 h.1,h.2⟩,hR.apart,hR.ext,λg o h=>(hR.new g o h).imp id λh=>Own.swap h hb IC,hR.here,λg h h'=>hR.below g h λh2=>h' ((hm g).2 h2),
  hR.grow,hR.os,hR.tape,hR.output,λk v h=>hR.par k v (hv▸h),hk,hf⟩
theorem Yk{g o:G}{x:Obj}(h:w.heap[g]? = B x)(hc:x.isCells=U):w.cell? ⟨g,o,Â⟩=none:=by
 unfold World.cell?;simp only[h];cases x<;>first|rfl|(simp[Obj.isCells]at hc)
theorem Rel.putO(hR:Rel N np S0 w0 refs σ a w S γ){l:G}{o o':Obj}(hk:refs.kw l=B o)(hl:w0.heap.size<=l)(hc:o.isCells=U)(dO:o'.isCells=U) :
  Rel N np S0 w0 { refs with kw:=λg=>if g=l then B o' else refs.kw g } σ a (w.putObj l o') S γ:=by
 obtain⟨hw,db⟩:=hR.kept l o hk;have ao:=(jq.1 hw).1
 have aW:dI S w S (w.putObj l o'):=λg i h=>⟨h,by
  by_cases hg:g=l
  .subst hg;rw[Yk hw hc,Yk (ß ao) dO]
  .exact È (É hg)⟩
 have bI:Rel N np S0 w0 { refs with kw:=λg=>if g=l then Â else refs.kw g } σ a w S γ:=
  Rel.swap hR rfl rfl hR.size hR.defers hR.slot (λg x h=>by
   simp only at h;split at h
   .simp at h
   .exact hR.kept g x h) hR.fix
 have cC:Rel N np S0 w0 { refs with kw:=λg=>if g=l then Â else refs.kw g } σ a (w.putObj l o') S γ:=
  Rel.step (bx':=σ.bx) (γ':=γ) bI aW (.refl _ _) (λk b hb=>eZ.keep aW (.refl _ _) rfl (λg hg=>⟨É (λe=>db k b hb (e▸hg)),λ_=>Iff.rfl⟩) (hR.box k b hb))
   bI.own bI.apart bI.new (λg i h=>by simpa using hR.here g i h) (λg hg hr=>(É aa).trans (bI.below g hg hr)) (by simpa using hR.grow) hR.os hR.tape hR.output
   (λg _ sR h=>⟨É (λe=>by subst e;simp at sR),h⟩)
 refine Rel.swap cC rfl rfl cC.size cC.defers cC.slot (λg x h=>?_) cC.fix;simp only at h;split at h
 .rename_i e;subst e;simp only[j5]at h;subst h;exact⟨ß ao,db⟩
 .rename_i e;have h1:=hR.kept g x h;exact⟨(É e).trans h1.1,h1.2⟩
theorem jBw(np:G)(K:Keep)(s:Snap)(i:G):(∃c,(dz np K s).sl i = .one c)/\(i∉K.slots->(dz np K s).sl i = .one (.one .dead)):=by
 have fp:(dz np K s).sl i=match K.slots.idxOf? i with
  |some j=>yZ s[j]?
  |none=> .one (.one .dead):=rfl
 rw[fp];cases hq:K.slots.idxOf? i with
 |none=>exact⟨⟨_,rfl⟩,λ_=>rfl⟩
 |some j=>refine⟨?_,λh=>absurd (jz (rV hq)) h⟩;simp only;unfold yZ;split<;>exact⟨_,rfl⟩
theorem Rel.frame{K:Keep}{s:Snap}(hR:Rel N np S0 w0 refs (dz np K s) a w S γ){N':NT}{refs':Refs}{a':À}(hb:refs'.blks=refs.blks)(hv:refs'.val=refs.val)(cO:a'.tmps.size=N'.n)(x9:a'.defers=refs'.ds)
  (fp:∀i∈K.slots,tm a' i=tm a i)(hk:∀g o,refs'.kw g=B o->w.heap[g]? = B o/\∀k b,(dz np K s).bx k = .live b->blk (γ k)≠B g)
  (hf:∀i v,refs'.fix i=B v->N'.pin i=X/\a'.tmps.getD i undef=v)(IC:refs'.mv=refs.mv:=by rfl):Rel N' np S0 w0 refs' (dz np K s) a' w S γ:=by
 refine hR.swap hb hv cO x9 (λi=>?_) hk hf IC;obtain⟨⟨c,hc⟩,hd⟩:=jBw np K s i;by_cases hi:i∈K.slots
 .have:=hR.slot i;rw[hc]at this ⊢;rw[fp i hi];exact this
 .rw[hd hi];exact⟨trivial,λh=>absurd rfl h⟩
end
section
variable{P:Á}{F:Fence}{n:G}{b:Frame}{a:À}{k:H Go.Item}{cs:H Frame}{w:Z}{Q:Ó->À->Z->Prop}
theorem CF{c:Ô}:step P (lone (b.atR a (.code (.scope c)::k)) cs w) = .next (lone (b.atR a (.code c :: .inScope c::k)) cs w):=
 step_lone_go (by simp[stepG,stepG.exec,Frame.atR])
theorem jsC{c:Ô}:step P (lone (b.atR a (.inScope c::k)) cs w) = .next (lone (b.atR a k) cs w):=
 step_lone_go (by simp[stepG,stepG.exec,Frame.atR])
theorem jzE{c:Ô}(hng:∀l a w,¬Q (.goto l) a w)(h:c.wpIn F n P Q a w):(Code.scope c).wpIn F n P Q a w:=by
 intro b k cs gS hb hr;have h0:(lone (b.atR a (.code (.scope c)::k)) cs w).fenced P F:=fenced_calm hb hr rfl;obtain⟨e,a₁,w₁,hq,qV⟩:=h b (.inScope c::k) cs gS hb hr;cases e with
 |normal=>exact⟨.normal,a₁,w₁,hq,.head h0 CF (StepsIn.trans qV (.one (fenced_calm hb hr rfl) jsC))⟩
 |exit id=>
  have hx:exitTo id (.inScope c::k)=exitTo id k:=by simp[exitTo]
  exact⟨_,a₁,w₁,hq,λk' hk=> .head h0 CF (qV.1 k' (by rw[hx];exact hk)),
   λCg hk=>let ⟨k₁,h1,h2⟩:=qV.2 Cg (by rw[hx];exact hk);⟨k₁,h1,.head h0 CF h2⟩⟩
 |goto l=>exact absurd hq (hng l a₁ w₁)
 |ret=>exact⟨_,a₁,w₁,hq,.of_steps (.one h0 CF) qV⟩
 |panic ch=>exact⟨_,a₁,w₁,hq,.of_steps (.one h0 CF) qV⟩
 |outgrown=>exact⟨_,a₁,w₁,hq,.of_steps (.one h0 CF) qV⟩
end
section
variable{N:NT}{np:G}{S0:aX}{w0:Z}{refs:Refs}{σ:St}{a:À}{w:Z}{S:aX}{γ:G->Y}
theorem Yl{t:Ty}:∀{xs:H t.den}{css:H (H Y)}{bx:G->BS},All2 (λx c=>Rep S w t x c) xs css->All2 (bF S w γ bx) (xs.flatMap λx=>(scat t x).map TV.leaf) css.flatten
 |[],[],_,_=>trivial
 |[],_::_,_,h=>h.elim
 |_::_,[],_,h=>h.elim
 |x::xs,c::css,_,h=>(sK (qI t x c h.1)).append (Yl h.2)
theorem jGP{t:Ty}(xs:H t.den):rowL t xs.length xs=xs.flatMap λx=>(scat t x).map TV.leaf:=by
 unfold rowL;rw[ó,ó];exact jp List.flatten (Wy (λx=>(scat t x).map TV.leaf) t.dflt xs)
theorem Ym{rd:G->BS}(ba:RdF np σ rd)(hB:xv S w γ σ.bx)(t:Ty):∀{n:G}{ls:H Leaf}{xs:H t.den}{u:Ups}{cs:H Y},BX rd t n ls=B (xs,u)->All2 (bF S w γ σ.bx) ls cs->cs.length=n*t.size->
  FrzL np σ.bx u/\xs.length=n/\∀S' w',dI S w S' w'->Froz σ.bx γ S' w' u->∃css,css.flatten=cs/\All2 (λx c=>Rep S' w' t x c) xs css
 |0,[],xs,u,cs,h,ha,hc=>by
  simp only[BX,j5,j9]at h;obtain⟨rfl,rfl⟩:=h;have:cs=[]:=k8 (by rw[hc,Nat.zero_mul]);subst this;exact⟨.nil,rfl,λS' w' _ _=>⟨[],rfl,trivial⟩⟩
 |0,_::_,_,_,_,h,_,_=>by simp[BX]at h
 |n+1,ls,xs,u,cs,h,ha,hc=>by
  simp only[BX]at h;split at h
  case h_2=>simp at h
  rename_i x r u1 hx;split at h
  case h_2=>simp at h
  rename_i dE v iB;simp only[j5,j9]at h;obtain⟨rfl,rfl⟩:=h;obtain⟨f1,e1,p1⟩:=xx ba hB t hx ha;have uA:All2 (bF S w γ σ.bx) r (cs.drop t.size):=by rw[e1];exact ha.drop _
  obtain⟨f2,l2,p2⟩:=Ym ba hB t iB uA (by rw[qw,hc,vd];omega);refine⟨FrzL.app.2 ⟨f1,f2⟩,by rw[jf,l2],λS' w' hk hf=>?_⟩;obtain⟨oF,sN⟩:=Froz.app.1 hf;obtain⟨css,e3,q3⟩:=p2 S' w' hk sN;exact⟨cs.take t.size::css,by rw[kq,e3,k6],p1 S' w' hk oF,q3⟩
theorem jwC(hR:Rel N np S0 w0 refs σ a w S γ)(hc:du σ){g:Gh}{σ':St}(h:BZ np σ g=B (X,σ')):∃S' γ',Rel N np S0 w0 refs σ' a w S' γ'/\du σ':=by
 cases g with
 |ex k c n m=>
  simp only[BZ]at h;split at h
  case h_2=>simp at h
  rename_i ls hk;split at h
  case h_2=>simp at h
  rename_i b hs;split at h
  case h_2=>simp at h
  rename_i e t xs hb;split at h
  case isTrue=>simp at h
  rename_i cH;simp only[j5,j9]at h;obtain⟨h1,rfl⟩:=h;have h1:xs.length=m:=á h1;subst h1;simp only[qe,not_or,Ü,beq_eq_false_iff_ne,Bool.not_eq_false']at cH;obtain⟨⟨⟨⟨hm,hp⟩,An⟩,fH⟩,hn⟩:=cH
  have hn:σ.bx n = .free:=by
   revert hn
   cases σ.bx n<;>simp[iR]
  have sR:k≠n:=by rintro rfl;rw[hn]at hk;simp at hk
  obtain⟨gk,Nw,ek,EL,Yn,Iz,ca,Wz,_⟩:=hR.box k _ hk
  have oL:ls[c]? = B (.ol b):=by
   cases dO:ls[c]? with
   |none=>simp[dO]at hs
   |some x=>simp[dO]at hs;rw[hs]
  obtain⟨z,hz,fT⟩:=Iz.get c _ oL;have hu:z=γ b:=fT.2.2 _ hb;obtain⟨css,aS,aD,hS⟩:=jE hm (hR.box b _ hb);have bI:=Ce hR hb;have oY:(σ.setB b .gone).bx n = .free:=by rw[cu σ _ (Ne.symm An)];exact hn
  obtain⟨cC,ff⟩:=MI bI oY (v':=γ b) (b:= .row e t xs.length (rowL t xs.length xs)) (λg' aP=>by
   refine⟨⟨?_,hR.kw_live hb aP⟩,λk' b' aZ bC=>?_⟩
   .rcases hR.own b _ g' hb aP with h|h
    .exact h
    .rw[hp]at h;simp at h
   .have cG:k'≠b:=by rintro rfl;rw[fJ]at aZ;simp at aZ
    rw[cu σ _ cG]at aZ;exact hR.apart k' b _ _ g' cG aZ hb bC aP) (by
   refine⟨hm,⟨css.flatten,by rw[eQ];exact aS,by rw[jGP];exact Yl aD,λu hu=>?_⟩,λg hg o=>?_⟩
   .obtain⟨c',dO,B3⟩:=List.mem_flatten.1 hu;obtain⟨x,_,hx⟩:=aD.mem_right c' dO;exact Rep.one t x c' hx u B3
   .rw[eQ]at hg;exact(hS g hg).1 rfl o)
  have fo:((σ.setB b .gone).setB n (.live (.row e t xs.length (rowL t xs.length xs)))).bx k = .live (.cell ls U):=by rw[cu _ _ sR,cu _ _ (λh=>fH h.symm)];exact hk
  refine⟨S,_,M8 cC fo (b':= .cell (ls.set c (.ol n)) U) trivial (λbx' qN=>?_),λi=>hc i⟩;obtain⟨g3,cur3,e3,q1,q2,q3,q4,q5,_⟩:=cC.box k _ fo;rw[fR γ _ sR,EL]at q1;simp at q1;subst q1;rw[Yn]at q2;simp at q2;obtain⟨rfl,rfl⟩:=q2;refine⟨gk,Nw,ek,by rw[fR γ _ sR];exact EL,Yn,?_,by rw[zh];exact q4,q5,ae⟩;rw[zh];refine All2.set_left (q3.mono (λx u hx=>bF.keep (.refl S w) qN hx)) c (.ol n) z hz ?_;have As:((σ.setB b .gone).setB n (.live (.row e t xs.length (rowL t xs.length xs)))).bx n = .live (.row e t xs.length (rowL t xs.length xs)):=fJ _ _ _;refine bF.keep (.refl S w) qN (x:= .ol n) ⟨by rw[As];simp,fT.2.1,λb' aZ=>?_⟩;rw[eQ];exact hu
 |rl k=>
  simp only[BZ]at h;split at h
  .rename_i e t n ls hk;split at h
   case h_2=>simp at h
   rename_i xs u hx;split at h
   case isTrue=>simp at h
   rename_i gQ;simp only[j5,j9,kc]at h;subst h;have gQ:u.any (λy=>y.1==k)=false:=qa.2 gQ;have ba:RdF np σ (λj=>if parK np j then .gone else mskM σ.bx j):=Af (RdR.msk λ_=> .inl rfl);obtain⟨hm,⟨cs,aS,aD,h1⟩,_⟩:=hR.box k _ hk;obtain⟨hf,hl,hp⟩:=Ym ba hR.box t hx aD aS.1;obtain⟨S1,bI,cT,gR,dq⟩:=oE u σ S hR hf;have dr:(σ.upd u).bx k = .live (.row e t n ls):=(l9 u σ gQ).trans hk;obtain⟨css,Eu,Ff⟩:=hp S1 w cT gR;have cC:=M8 bI dr (b':= .lst e t xs U) ⟨rfl,rfl,hm,hl.symm⟩ (λbx' hle=>B4 hm ⟨css,by rw[Eu,hl];exact aS,Ff,λg hg=>⟨λ_=>(bI.box k _ dr).2.2 g hg,ae⟩⟩);refine⟨S1,γ,by rw[mC];exact cC,λi=>?_⟩;rw[vK];exact hc i
  .simp only[j5,j9,kc]at h;subst h;exact⟨S,γ,hR,hc⟩
 |se k=>
  simp only[BZ]at h;split at h
  case h_2=>simp at h
  rename_i ls hk;split at h
  case isTrue=>simp at h
  rename_i hp;split at h
  case h_2=>simp at h
  rename_i xs u hx;split at h
  case isTrue=>simp at h
  rename_i gQ;simp only[j5,j9,kc]at h;subst h;have hp:parK np k=false:=qa.2 hp;have gQ:u.any (λy=>y.1==k)=false:=qa.2 gQ;have ba:RdF np σ (λj=>if parK np j then .gone else mskM σ.bx j):=Af (RdR.msk λ_=> .inl rfl);obtain⟨g,cur,e,hg,hh,fe,_⟩:=hR.box k _ hk;obtain⟨hf,xI⟩:=zW ba hx fe;obtain⟨S1,bI,cT,gR,dq⟩:=oE u σ S hR hf;have dr:(σ.upd u).bx k = .live (.cell ls U):=(l9 u σ gQ).trans hk
  obtain⟨S2,g2,cC,_⟩:=WW bI dr hp (xs:=xs) (λg' jR e' aP xt _=>by
   rw[hg]at aP;simp at aP;subst aP;rw[hh]at xt;simp at xt;obtain⟨rfl,_⟩:=xt;exact xI S1 w cT gR)
  refine⟨S2,γ,by rw[mC];exact cC,λi=>?_⟩;rw[vK];exact hc i
 |da l=>
  simp only[BZ]at h;split at h
  .rename_i σ1 hd;simp only[j5,j9,kc]at h;subst h;obtain⟨S',dK,dO⟩:=M9 l σ σ1 S hR hc hd;exact⟨S',γ,dK,dO⟩
  .simp at h
theorem Nx{R:Type}{r:R}:∀{gs:H Gh}{σ:St}{S:aX}{γ:G->Y}{k:St->O R},Rel N np S0 w0 refs σ a w S γ->du σ->zA np gs σ k=B r->
  ∃σ' S' γ',Rel N np S0 w0 refs σ' a w S' γ'/\du σ'/\k σ'=B r
 |[],σ,S,γ,k,hR,hc,h=>⟨σ,S,γ,hR,hc,h⟩
 |g::gs,σ,S,γ,k,hR,hc,h=>by
  simp only[zA]at h;split at h
  .rename_i b σ1 hg;cases b with
   |false=>simp at h
   |true=>obtain⟨S1,γ1,bI,eP⟩:=jwC hR hc hg;exact Nx bI eP h
  .simp at h
end
section
variable{N:NT}{np:G}{S0:aX}{w0:Z}{refs:Refs}{σ:St}{a:À}{w:Z}{S:aX}{γ:G->Y}
def exOf:Ex->Ó
 |.normal=> .normal
 |.exit i=> .exit i
 |.ret=> .ret
def CH(E:Env)(b:G)(c:Ô):Prop:=
 ∀(s:Snap)(R:Type)(k:Ex->Snap->O R)(r:R),E.L b s R k=B r->∃n e s',loopN (D8 E b c) n s=B (e,s')/\k e s'=B r
def MrOK(E:Env)(b:G)(c:Ô):Prop:=
 ∀(m nm:G)(p:MrP),E.mr b=B (m,nm)->mrP b c=B p->∀(s:Snap)(R:Type)(k:Snap->O R)(r:R),E.M b s R k=B r->
  ∃(em:G)(v:Ty)(xs ys:H (Ú×v.den)),isM em=X/\s=mo s em v xs/\
   (∀zs,(dz E.np (E.keep b) (mo s em v zs)).bx nm = .live (.lst em (.pair (.int .i64) v) zs U)/\(dz E.np (E.keep b) (mo s em v zs)).sl m = .one (.one (.ol nm)))/\
   All2 (λx y=>y.1=x.1/\∀zs,HQ E.off0 b p m (mo s em v zs) v x.1 x.2 B=B (mo s em v (@kV _ _ (Ty.int .i64).keq zs x.1 y.2))) xs ys/\k (mo s em v ys)=B r
theorem ID(p:G->Prop):∀n,p n->∃m,p m/\∀j,p j->m<=j:=by
 intro n;induction n using ö<;>grind
open Classical in
noncomputable def IE(p:G->Prop):Nat:=if h:∃n,p n then (ID p h.choose h.choose_spec).choose else 0
theorem Yo{p:G->Prop}{n:G}(h:p n):p (IE p)/\IE p<=n:=by
 unfold IE;have hx:∃n,p n:=⟨n,h⟩;grind
theorem Yp{P:Á}{F:Fence}{n0:G}{Q:Ó->À->Z->Prop}{c:Ô}(I:G->À->Z->Prop){n:G}(h₀:I n a w)
  (round:∀n a w,I n a w->c.wpIn F n0 P (Exit.then (λa' w'=>∃m,m<n/\I m a' w') Q) a w):(Code.loop c).wpIn F n0 P Q a w:=by
 refine wpIn_loop (λa w=>∃n,I n a w) (λa w=>IE λn=>I n a w) ⟨n,h₀⟩ (λa w hI=>?_);obtain⟨m,hm⟩:=hI;have hl:=(Yo (p:=λn=>I n a w) hm).1;refine wpIn_mono (round _ a w hl) (λe a' w' h=>?_);cases e with
 |normal=>obtain⟨m',ao,mK⟩:=h;exact⟨⟨m',mK⟩,Nat.lt_of_le_of_lt (Yo (p:=λn=>I n a' w') mK).2 ao⟩
 |_=>exact h
def CI(w0:Z)(refs:Refs):Prop:=
 refs.ds.Nodup/\∀d∈refs.ds,∃D,d={ target:= .collected D,args:=#[] }/\w0.heap.size<=D/\refs.kw D=B (.deferred (B []))
structure yb(w0:Z)(refs refs':Refs):Prop where
 blks:refs'.blks=refs.blks
 val:refs'.val=refs.val
 fix:refs'.fix=refs.fix
 marks:CI w0 refs'
 mv:refs'.mv=refs.mv
theorem yb.trans{r r' Yq:Refs}(h:yb w0 r r')(h':yb w0 r' Yq):yb w0 r Yq:=⟨h'.blks.trans h.blks,h'.val.trans h.val,h'.fix.trans h.fix,h'.marks,h'.mv.trans h.mv⟩
def Post(E:Env)(S0:aX)(w0:Z)(refs:Refs)(pl:Æ){R:Type}(k:Ex->St->O R)(r:R):Ó->À->Z->Prop:=
 λe a' w'=>∃refs' ex σ' S' γ',yb w0 refs refs'/\(pl=X->refs'=refs)/\exOf ex=e/\Rel E.N E.np S0 w0 refs' σ' a' w' S' γ'/\du σ'/\k ex σ'=B r
theorem Ny{E:Env}{pl:Æ}{R:Type}{k:Ex->St->O R}{r:R}:¬ñ (Post E S0 w0 refs pl k r):=by
 rintro⟨a,w,refs',ex,_,_,_,_,_,he,_⟩
 cases ex<;>simp[exOf]at he
def BwOK(P:Á)(f:G)(t:Ty):Prop:=
 Fun P f/\∀(cv:Ã Y)(m l:G)(J:G->aX->Z->Prop)(Jx:Z->Prop)(W:Z)(S:aX),
  (∀j S W S' W',Grew W W'->CE S W S' W'->J j S W->J j S' W')->(∀W W',Grew W W'->Jx W->Jx W')->(∀j S W,J j S W->∀g o,S g o->g<W.heap.size)->
  (∀j S W,j<m->J j S W->∃xs:H t.den,All2 (kY S W) [.p [⟨.list t,xs⟩]] cv.toList/\m-1-j<xs.length/\∀S' W' x v,Grew W W'->CE S W S' W'->xs[m-1-j]? = B x->VRep S' W' ⟨t,x⟩ v->
   YieldAt (FR Â) 0 P l #[.int .i64 ((m-1-j:G):Ú),v] W' λe W'=>(e = .returned (.bool X)/\∃S',J (j+1) S' W')\/(e = .returned (.bool U)/\Jx W'))->
  (∃(S':aX)(xs:H t.den),xs.length=m/\(∀g o,S' g o->g<W.heap.size)/\All2 (kY S' W) [.p [⟨.list t,xs⟩]] cv.toList)->J 0 S W->
  ý (FR Â) 0 P f (#[.func (.yield l) #[] #[]]++cv) W λe W'=>(∃v,e = .returned v)/\((∃S',J m S' W')\/Jx W')
def ItOK(P:Á)(f:G)(kd:Æ)(t:Ty):Prop:=
 Fun P f/\∀(cv:Ã Y)(l:G)(J:Ú->aX->Z->Prop)(Je Jx:Z->Prop)(W:Z)(S:aX)(mL:H t.den),
  (∀c S W S' W',Grew W W'->CE S W S' W'->J c S W->J c S' W')->(∀W W',Grew W W'->Je W->Je W')->(∀W W',Grew W W'->Jx W->Jx W')->(∀c S W,J c S W->∀g o,S g o->g<W.heap.size)->
  (∀c S W,J c S W->∃xs:H t.den,All2 (kY S W) [.p [⟨.list t,xs⟩]] cv.toList/\(LW kd xs.length c=X->Je W)/\
   (LW kd xs.length c=U->itOk kd xs.length c=X/\∀S' W' vs,Grew W W'->CE S W S' W'->All2 (VRep S' W') (D3 kd t xs c) vs->
    YieldAt (FR Â) 0 P l vs.toArray W' λe W'=>(e = .returned (.bool X)/\∃S',J (D2 kd c) S' W')\/(e = .returned (.bool U)/\Jx W')))->
  (∃S',(∀g o,S' g o->g<W.heap.size)/\All2 (kY S' W) [.p [⟨.list t,mL⟩]] cv.toList)->J (D1 kd mL.length) S W->
  ý (FR Â) 0 P f (#[.func (.yield l) #[] #[]]++cv) W λe W'=>(∃v,e = .returned v)/\(Je W'\/Jx W')
def Yr(P:Á)(fK fS e:G):Prop:=Fun P fK/\Fun P fS/\∀(w:Z)(g:G)(es:Ã ì)(clock:G)(ks:H Ú),
 w.heap[g]? = B (.map es clock)->MapKept.Stamped es clock->es.toList.map (·.key)=ks.map (Ì .i64)->(∀x∈ks, -9223372036854775808<=x/\x<=9223372036854775807)->ks.length<=1000000->
 Calls P fK #[.map (B g)] w λr w1=>∃c,r = .returned c/\Grew w w1/\Calls P fS #[c] w1 λr2 w2=>∃v,r2 = .returned v/\w2.ownsRow w1.heap.size e 1 v ks.length ((sy ks).map (Ì .i64))/\Grew w1 w2
def Ys(P:Á)(f e sz:G):Prop:=Fun P f/\∀(w:Z)(n:Ú),0<=n->n<=1000000->
 Calls P f #[.slice Â 0 0,.int .i64 n] w λr w'=>∃v,r = .returned v/\w'.ownsRow w.heap.size e sz v 0 []/\Grew w w'
def BwK(P:Á)(f:G):Æ×Ty->Prop
 |(X,.arr fK (.arr e .bool))=>Yr P fK f e
 |(X,.arr e (.arr sz .unit))=>Ys P f e sz
 |(kd,t)=>ItOK P f kd t
theorem BwK.it{P:Á}{f:G}{kd:Æ}{t:Ty}(h:BwK P f (kd,t))(ht:kd=X->t=segT):ItOK P f kd t:=by
 cases kd with
 |false=>exact h
 |true=>obtain rfl:=ht rfl;exact h
section
variable{N:NT}{np:G}{S0:aX}{w0:Z}{refs:Refs}{σ:St}{a:À}{w:Z}{S:aX}{γ:G->Y}
theorem jEa(ks:H Ú):(sy ks).length=ks.length:=by
 have hi:∀(x:Ú)(l:H Ú),(insI x l).length=l.length+1:=by intro x l;induction l<;>grind[insI]
 induction ks<;>grind[sy]
theorem Yt{vt:Ty}:∀{xs:H (Ú×vt.den)}{l:H ì},All2 (λ(x:(Ty.int .i64).den×vt.den)(e:ì)=>Rep S w (.int .i64) x.1 [e.key]/\VRep S w ⟨vt,x.2⟩ e.val) xs l->
  l.map (·.key)=(xs.map λx=>x.1).map (Ì .i64)
 |[],[],_=>rfl
 |[],_::_,h=>h.elim
 |_::_,[],h=>h.elim
 |y::r,z::q,h=>by
  have h1:[z.key]=[Ì .i64 y.1]:=h.1.1;simp only[qc,vr];exact⟨by simpa using h1,Yt h.2⟩
theorem jzF{P:Á}{E:Env}(jX:∀f t,E.bw f=B t->BwK P f t)(hR:Rel E.N E.np S0 w0 refs σ a w S γ)(hc:du σ){o o2:Ä}(hd:nC E.N o=X)(iJ:nC E.N o2=X)
  {σ':St}(h:LO E σ o o2=B (X,σ')){next yc:À->Z->Prop}{Q:Ó->À->Z->Prop}
  (oY:∀a1 w1,o2.wp P a1 w1 next Q->yc a1 w1)(hn:∀a' w' S' γ',Rel E.N E.np S0 w0 refs σ' a' w' S' γ'->du σ'->next a' w'):o.wp P a w yc Q:=by
 unfold LO at h;split at h
 case h_2=>simp at h
 rename_i c1 c2 ho EX;split at h
 case h_2=>simp at h
 rename_i f1 x f2 d eP CJ fQ uA;split at h
 case h_2=>simp at h
 rename_i fK b fS oF hx sN;split at h
 case h_2=>simp at h
 rename_i LQ e em ta xs fr Nz Fg;split at h
 case h_2=>simp at h
 rename_i cq ys uL;split at h
 case isFalse=>simp at h
 rename_i cH;obtain⟨rfl,Yu,hem,Fh,bA⟩:=cH;simp only[j5,j9]at h;obtain⟨rfl,rfl⟩:=h;obtain⟨hFK,hFS,eb⟩:Yr P LQ fS e:=jX _ _ Nz;have Fi:=nD hR x;rw[hx]at Fi;have Io:a.eval x=γ b:=Fi.1.2.2 _ Fg;unfold VX at uL;split at uL
 case h_2=>simp at uL
 rename_i vt xs;simp only[j5,j9]at uL;obtain⟨ca,rfl⟩:=uL;obtain⟨g,es,clock,hg,hh,aD,aW⟩:Eb S w (.pair (.int .i64) vt) xs (γ b):=by rcases (hR.box b _ Fg).1 with⟨hm,_⟩|⟨_,hm⟩;all_goals simp_all
 unfold VW at ca;simp only[jc,jw,jl]at ca;have Ck:xs.length<=1000000:=zt ca.1;have hks:es.toList.map (·.key)=(xs.map λx=>x.1).map (Ì .i64):=by exact Yt aD
 have dx:=eb w g es clock (xs.map λx=>x.1) hh aW.1 hks (λz hz=>by
  grind) (by simpa using Ck)
 have Fj:=nD hR f1;rw[oF]at Fj;obtain⟨cv,Cp,mG⟩:=Fj.1
 obtain rfl:cv = #[]:=by
  have:cv.toList=[]:=by
   cases hq:cv.toList with
   |nil=>rfl
   |cons=>rw[hq]at mG;exact mG.elim
  exact zi.1 this
 have aU:=EP (w:=w) hFK ho eP Cp;have e1:c1.args.map a.eval ++ #[] = #[.map (B g)]:=by apply ù;simp[CJ,Io,hg]
 rw[e1]at aU;unfold Õ;rw[aU,Ð];refine dx.mono ?_
 rintro r w1 ⟨c,rfl,pP,NA⟩
 have bI:=hR.grew pP (S':=S) ⟨λ_ _ h=>h,λ_ _ h=> .inl h,λg o h=>qd (hR.here g o h) pP.size⟩;obtain⟨cC,NB⟩:=EY bI hc (Ah hd) (s:= .one (.one .dead)) (v:=c) ⟨trivial,λh=>absurd rfl h⟩ rfl;have Fk:=nD cC f2;rw[sN]at Fk;obtain⟨cv,Cj,mG⟩:=Fk.1
 obtain rfl:cv = #[]:=by
  have:cv.toList=[]:=by
   cases hq:cv.toList with
   |nil=>rfl
   |cons=>rw[hq]at mG;exact mG.elim
  exact zi.1 this
 have yd:=EP (w:=w1) hFS EX fQ Cj;have hda:d<a.tmps.size:=by rw[hR.size];exact(Ah hd d Yu).1
 have e2:c2.args.map (a.put o.dst c).eval ++ #[] = #[c]:=by
  apply ù;have:(a.put o.dst c).eval (.tmp d)=c:=by show tm (a.put o.dst c) d=c;grind[Cx]
  simp[uA,this]
 rw[e2]at yd;refine oY _ _ ?_;unfold Õ;rw[yd,Ð];refine NA.mono ?_
 rintro r2 w2 ⟨v,rfl,cd,qW⟩
 have gY:(σ.setD o.dst (.one (.one .dead))).bx ((o2.dst.getD 0)*64) = .free:=by rw[show (σ.setD o.dst (.one (.one .dead))).bx=σ.bx by rw[Yu];rfl];grind[iR]
 have hblk:∀g',blk v=B g'->w1.heap.size<=g'/\g'<w2.heap.size:=by intro g' aP;rcases cd.2 with⟨rfl,_⟩|⟨gb,cap,cur,rfl,ig,vZ,_⟩;all_goals grind[blk]
 have jY:w2.ownsRow 0 e (Ty.int .i64).size v (u4 xs).length (((u4 xs).map (λx=>[Ì .i64 x])).flatten):=by
  have e3:((u4 xs).map (λx=>[Ì .i64 x])).flatten=(sy (xs.map λx=>x.1)).map (Ì .i64):=by
   unfold u4;induction sy (xs.map λx=>x.1) with
   |nil=>rfl
   |cons y r ih=>simp_all
  rw[e3,show (u4 xs).length=(xs.map λx=>x.1).length from jEa _];refine⟨cd.1,?_⟩;rcases cd.2 with hl|⟨gb,cap,cur,h1,h2,h3⟩
  .exact .inl hl
  .exact .inr ⟨gb,cap,cur,h1,jy _,h3⟩
 have CK:=Cf cC gY (w':=w2) (S':=S) (v':=v) (e:=e) Fh (el:= .int .i64) (zs:=u4 xs) (frz:=U) (css:=(u4 xs).map λx=>[Ì .i64 x])
  (λg' o' hs=>⟨hs,È (qW.old g' (cC.here g' o' hs))⟩) (λg' aP _=>qW.old g' aP) qW.size
  (λg' aP=>⟨.inl (kf cC.grow (hblk g' aP).1),λk b' aZ hk=>by have:=lj (cC.box k b' aZ) hk;grind,(hblk g' aP).2⟩)
  (λ_ _ h=> .inl h) qW.os qW.tape qW.output jY (by
   generalize u4 xs=l
   induction l with
   |nil=>trivial
   |cons y r ih=>exact⟨rfl,ih⟩)
  (λg' aP=>⟨λ_ o' hs=>by have:=cC.here g' o' hs;grind,λh=>by simp at h⟩) (λg' aP=>cC.kw_new (hblk g' aP).1)
 obtain⟨gz,qP⟩:=CK;obtain⟨rX,rY⟩:=EY gz (λi=>NB i) (Ah iJ) (s:= .one (.one (.ol ((o2.dst.getD 0)*64)))) (v:=v) qP rfl;grind
theorem jzG{P:Á}{E:Env}(jX:∀f t,E.bw f=B t->BwK P f t)(hR:Rel E.N E.np S0 w0 refs σ a w S γ)(hc:du σ){o:Ä}(hd:nC E.N o=X)
  {σ':St}(h:LS E σ o=B (X,σ')){next:À->Z->Prop}{Q:Ó->À->Z->Prop}
  (hn:∀a' w' S' γ',Rel E.N E.np S0 w0 refs σ' a' w' S' γ'->du σ'->next a' w'):o.wp P a w next Q:=by
 unfold LS at h;split at h
 case h_2=>simp at h
 rename_i c1 ho;split at h
 case h_2=>simp at h
 rename_i f1 x y eP CJ;split at h
 case h_2=>simp at h
 rename_i fG n oF hx hy;split at h
 case h_2=>simp at h
 rename_i e sz ti Nz B8;split at h
 case h_2=>simp at h
 rename_i ta bJ;split at h
 case isFalse=>simp at h
 rename_i cH;obtain⟨rfl,Fh,bA⟩:=cH;simp only[j5,j9,jc,jl]at h;obtain⟨⟨l7,oY⟩,rfl⟩:=h;obtain⟨hFG,eb⟩:Ys P fG e ta.size:=jX _ _ Nz;have Fi:=nD hR x;rw[hx]at Fi;have Io:a.eval x = .slice Â 0 0:=Fi.1;have Yv:=nD hR y;rw[hy]at Yv;have XL:a.eval y = .int .i64 n:=vH Yv;have Fj:=nD hR f1;rw[oF]at Fj;obtain⟨cv,Cp,mG⟩:=Fj.1
 obtain rfl:cv = #[]:=by
  have:cv.toList=[]:=by
   cases hq:cv.toList with
   |nil=>rfl
   |cons=>rw[hq]at mG;exact mG.elim
  exact zi.1 this
 have aU:=EP (w:=w) hFG ho eP Cp;have e1:c1.args.map a.eval ++ #[] = #[.slice Â 0 0,.int .i64 n]:=by apply ù;simp[CJ,Io,XL]
 rw[e1]at aU;unfold Õ;rw[aU,Ð];refine(eb w n l7 oY).mono ?_
 rintro r w1 ⟨v,rfl,cd,pP⟩
 have gY:σ.bx ((o.dst.getD 0)*64) = .free:=by grind[iR]
 have hblk:∀g',blk v=B g'->w.heap.size<=g'/\g'<w1.heap.size:=by intro g' aP;rcases cd.2 with⟨rfl,_⟩|⟨gb,cap,cur,rfl,ig,vZ,_⟩;all_goals grind[blk]
 have jY:w1.ownsRow 0 e ta.size v ([]:H ta.den).length (([]:H (H Y)).flatten):=by refine⟨cd.1,?_⟩;rcases cd.2 with hl|⟨gb,cap,cur,h1,h2,h3⟩;all_goals grind
 have CK:=Cf hR gY (w':=w1) (S':=S) (v':=v) (e:=e) Fh (el:=ta) (zs:=[]) (frz:=U) (css:=[])
  (λg' o' hs=>⟨hs,È (pP.old g' (hR.here g' o' hs))⟩) (λg' aP _=>pP.old g' aP) pP.size
  (λg' aP=>⟨.inl (kf hR.grow (hblk g' aP).1),λk b' aZ hk=>by have:=lj (hR.box k b' aZ) hk;grind,(hblk g' aP).2⟩)
  (λ_ _ h=> .inl h) pP.os pP.tape pP.output jY trivial
  (λg' aP=>⟨λ_ o' hs=>by have:=hR.here g' o' hs;grind,λh=>by simp at h⟩) (λg' aP=>hR.kw_new (hblk g' aP).1)
 obtain⟨gz,qP⟩:=CK;obtain⟨rX,rY⟩:=EY gz (λi=>hc i) (Ah hd) (s:= .one (.one (.ol ((o.dst.getD 0)*64)))) (v:=v) qP rfl;grind
theorem Yw{P:Á}{E:Env}(hT:cP P E.T)(hC:lk P E.C)(jX:∀f t,E.bw f=B t->BwK P f t)(hR:Rel E.N E.np S0 w0 refs σ a w S γ)(hc:du σ){o:Ä}(hd:nC E.N o=X){R:Type}{k:St->O R}{r:R}
  (h:runK E σ o k=B r){next:À->Z->Prop}{Q:Ó->À->Z->Prop}
  (hn:∀σ' a' w' S' γ',Rel E.N E.np S0 w0 refs σ' a' w' S' γ'->du σ'->k σ'=B r->next a' w'):o.wp P a w next Q:=by
 unfold runK at h;split at h
 .grind[jzG]
 .exact EZ hT hC hR (act:=[]) (λg hg=>by simp at hg) (p:=U) (λ_=>hc) hd h (λσ' a' w' S' γ' dK dO hk=>hn _ _ _ _ _ dK (dO rfl) hk)
theorem NC{P:Á}{E:Env}(hT:cP P E.T)(hC:lk P E.C)(jX:∀f t,E.bw f=B t->BwK P f t){ops:Ã Ä}(dL:bare ops=X){R:Type}{k:St->O R}{r:R}{Q:Ó->À->Z->Prop}
  (hn:∀σ' a' w' S' γ',Rel E.N E.np S0 w0 refs σ' a' w' S' γ'->du σ'->k σ'=B r->Q .normal a' w') :
  ∀(n i:G)(σ:St)(a:À)(w:Z)(S:aX)(γ:G->Y),i+n=ops.size->Rel E.N E.np S0 w0 refs σ a w S γ->du σ->vA E (ops.toList.drop i) σ k=B r->
   wpOps P ops Q (ð i n) a w
 |0,i,σ,a,w,S,γ,hi,hR,hc,h=>by
  rw[Ê aj]at h;exact hn _ _ _ _ _ hR hc h
 |1,i,σ,a,w,S,γ,hi,hR,hc,h=>by
  have ao:i<ops.size:=aa;rw[Ç (by simpa using ao),Ê aj]at h;simp only[vA]at h;split at h
  .rename_i hd;have ho:ops[i]? = B ops[i]:=ju ao;simp only[ve,wpOps,ho];have hg:ops[i].guard=none:=by have:=jw.1 dL ops[i] ae;simpa using this
   have hw:Å ops[i] (yielded ops a.tmps)=true:=by simp[Å,hg]
   simp only[hw,if_true];exact .inl (Yw hT hC jX hR hc (by simpa using hd) (by simpa using h) (λσ' a' w' S' γ' dK dO hk=>hn _ _ _ _ _ dK dO hk))
  .simp at h
 |n+2,i,σ,a,w,S,γ,hi,hR,hc,h=>by
  have ao:i<ops.size:=aa;have wv:i+1<ops.size:=aa;rw[Ç (by simpa using ao),Ç (by simpa using wv)]at h;simp only[vA]at h;have ho:ops[i]? = B ops[i]:=ju ao;have EX:ops[i+1]? = B ops[i+1]:=ju wv
  have hw:∀(j:G)(hj:j<ops.size)(a:À),Å ops[j] (yielded ops a.tmps)=true:=λj hj a=>by
   have hg:ops[j].guard=none:=by have:=jw.1 dL ops[j] ae;simpa using this
   simp[Å,hg]
  split at h
  case isFalse=>simp at h
  rename_i hd;split at h
  .rename_i cq σ' hks;split at h
   case isFalse=>simp at h
   rename_i iJ;cases cq with
   |false=>simp at h
   |true=>simp only[j6]at h;simp only[ve,wpOps,ho,EX,hw i ao,hw (i+1) wv,if_true];refine .inl (jzF jX hR hc (by simpa using hd) (by simpa using iJ) (by simpa using hks) (λa1 w1 hq=> .inl hq) (λa' w' S' γ' dK dO=>?_));exact NC hT hC jX dL hn n (i+2) σ' a' w' S' γ' aa dK dO h
  .rw[ve];simp only[wpOps,ho,hw i ao,if_true];refine .inl (Yw hT hC jX hR hc (by simpa using hd) (by simpa using h) (λσ' a' w' S' γ' dK dO hk=>?_));refine NC hT hC jX dL hn (n+1) (i+1) σ' a' w' S' γ' aa dK dO ?_;rw[Ç (by simpa using wv)];simpa using hk
theorem jzH{P:Á}{E:Env}(hT:cP P E.T)(hC:lk P E.C)(jX:∀f t,E.bw f=B t->BwK P f t)(hR:Rel E.N E.np S0 w0 refs σ a w S γ)(hc:du σ){ops:Ã Ä}{R:Type}{k:St->O R}{r:R}
  {Q:Ó->À->Z->Prop}(hn:∀σ' a' w' S' γ',Rel E.N E.np S0 w0 refs σ' a' w' S' γ'->du σ'->k σ'=B r->Q .normal a' w')(h:DV E ops σ k=B r) :
  wpOps P ops Q (List.range ops.size) a w:=by
 rw[ä];unfold DV at h;split at h
 .rename_i hb;exact NC hT hC jX hb hn ops.size 0 σ a w S γ aa hR hc (by simpa using h)
 .simp at h
end
theorem jJL{P:Á}{f:G}{t:Ty}(h:BwOK P f t):ItOK P f U t:=by
 refine⟨h.1,λcv l J Je Jx W S mL aW hse hsx hh hY dt Fl=>?_⟩;obtain⟨S',tA,dO⟩:=dt;refine CallsIn.mono (h.2 cv mL.length l (λj S W=>j<=mL.length/\J ((mL.length:Ú)-j) S W) Jx W S (λj S W S' W' hg hs hj=>⟨hj.1,aW _ _ _ _ _ hg hs hj.2⟩) hsx (λj S W hj=>hh _ _ _ hj.2) ?_ ⟨S',mL,rfl,tA,dO⟩ ⟨jy _,?_⟩) ?_
 .rintro j S W hj ⟨_,hJ⟩
  obtain⟨xs,h1,_,h3⟩:=hY _ _ _ hJ;obtain⟨h4,h5⟩:=h3 (by show decide _=U;exact decide_eq_false aa);have h4:(mL.length:Ú)-j<=Int.ofNat xs.length:=kv h4;have h4:(mL.length:Ú)-j<=(xs.length:Ú):=h4;refine⟨xs,h1,aa,λS' W' x v hg hs hx hv=>?_⟩
  have hv2:All2 (VRep S' W') (D3 U t xs ((mL.length:Ú)-j)) [.int .i64 ((mL.length-1-j:G):Ú),v]:=by
   refine⟨⟨?_,λhm=>absurd hm (show¬lX (.int .i64)=X by decide),λ_=>rfl⟩,?_,trivial⟩
   .show [Ì .i64 ((mL.length-1-j:G):Ú)]=[Ì .i64 ((mL.length:Ú)-j-1)];grind
   .have e:List.getD xs ((mL.length:Ú)-j-1).toNat t.dflt=x:=by rw[show ((mL.length:Ú)-j-1).toNat=mL.length-1-j by omega];simp[List.getD,hx]
    rw[e];exact hv
  obtain⟨fn,tmps,as,bo,hy,hR⟩:=h5 S' W' _ hg hs hv2;refine⟨fn,tmps,as,bo,hy,hR.mono λe W' he=>?_⟩;grind[D2]
 .grind[D1]
 .rintro e W' ⟨hv,⟨S',_,hJ⟩|hx⟩
  .obtain⟨xs,_,h2,_⟩:=hY _ _ _ hJ;exact⟨hv,.inl (h2 (by show decide _=X;exact ya aa))⟩
  simp_all
def IF(P:Á)(E:Env)(ro:O G)(c:Ô):Prop:=
 ∀(b n:G){S0:aX}{w0:Z}{refs:Refs}{σ:St}{a:À}{w:Z}{S:aX}{γ:G->Y}{R:Type}{k:Ex->St->O R}{r:R},CI w0 refs->
  (∀x∈gj b c,CH E x.1 x.2/\MrOK E x.1 x.2)->Rel E.N E.np S0 w0 refs σ a w S γ->du σ->fP E b c σ k=B r->c.wpIn (FR ro) n P (Post E S0 w0 refs (dZ c) k r) a w
theorem ye:∀(c:Ô)(b:G),dZ c=X->gj b c=[]
 |.seq x y,b,h=>by simp only[dZ,jc]at h;simp[gj,ye x b h.1,ye y b h.2]
 |.cond _ x y,b,h=>by simp only[dZ,jc]at h;simp[gj,ye x b h.1,ye y b h.2]
 |.block id c,b,h=>by simp only[dZ]at h;simp[gj,ye c id h]
 |.loop c,b,h=>by simp[dZ]at h
 |.rangeFunc _ _ _ _,b,h=>by simp[dZ]at h
 |.skip,_,_=>rfl
 |.region _ _ _,_,_=>rfl
 |.exit _,_,_=>rfl
 |.goto _,_,_=>rfl
 |.label _,_,_=>rfl
 |.ret,_,_=>rfl
 |.scope c,b,h=>by simp only[dZ]at h;simp[gj,ye c b h]
theorem Yx:∀(L:H (G×Y))(T:Ã Y),sG (L.map (·.1))=X->(∀q∈L,q.1<T.size)->
  (∀q∈L,(L.foldl (λt (q:G×Y)=>t.setIfInBounds q.1 q.2) T).getD q.1 undef=q.2)/\(∀i,i∉L.map (·.1)->(L.foldl (λt (q:G×Y)=>t.setIfInBounds q.1 q.2) T).getD i undef=T.getD i undef)/\
  (L.foldl (λt (q:G×Y)=>t.setIfInBounds q.1 q.2) T).size=T.size
 |[],T,_,_=>⟨λq h=>by simp at h,λ_ _=>rfl,rfl⟩
 |q::r,T,hn,hb=>by
  simp only[qc,sG,jc,q9,qn,ka]at hn;obtain⟨h1,h2,h3⟩:=Yx r (T.setIfInBounds q.1 q.2) hn.2 (λp hp=>by simpa using hb p (by simp[hp]));have hq:=hb q ae;refine⟨λp hp=>?_,λi hi=>?_,by simpa using h3⟩
  .rcases jb.1 hp with rfl|hp
   .show (List.foldl (λt (q:G×Y)=>t.setIfInBounds q.1 q.2) (T.setIfInBounds p.1 p.2) r).getD p.1 undef=_;rw[h2 p.1 hn.1];simp[Array.getD,hq]
   .exact h1 p hp
  .simp only[qc,jb,not_or]at hi;show (List.foldl (λt (q:G×Y)=>t.setIfInBounds q.1 q.2) (T.setIfInBounds q.1 q.2) r).getD i undef=_;rw[h2 i hi.2];rw[Í,Array.getElem?_setIfInBounds,if_neg (λh=>hi.1 h.symm),<-Í]
theorem Yy{N:NT}{np:G}:∀(L:H (G×TV)){σ:St},Rel N np S0 w0 refs σ a w S γ->du σ->(∀q∈L,VRep S w q.2 (tm a q.1))->Rel N np S0 w0 refs (setL L σ) a w S γ/\du (setL L σ)
 |[],_,hR,hc,_=>⟨hR,hc⟩
 |q::r,σ,hR,hc,hv=>by
  have h1:=M6 hR (s:=q.1) (x:= .one (qA q.2.t q.2.v)) (Co (hv q ae));refine Yy r h1 (λi=>?_) (λp hp=>hv p (by simp[hp]));simp only[St.setS];split
  .rfl
  .exact hc i
theorem Yz{S:aX}{w:Z}:∀{ps:H G}{xs:H TV}{vs:H Y},All2 (VRep S w) xs vs->∀q∈ps.zip xs,∃v,(q.1,v)∈ps.zip vs/\VRep S w q.2 v
 |[],_,_,_,q,h=>by simp at h
 |p::ps,[],vs,_,q,h=>by simp at h
 |p::ps,x::xs,[],h2,q,h=>h2.elim
 |p::ps,x::xs,v::vs,h2,q,h=>by
  simp only[Û,jb]at h;rcases h with rfl|h
  .exact⟨v,ae,h2.1⟩
  .obtain⟨u,h3,h4⟩:=Yz h2.2 q h;exact⟨u,by simp[h3],h4⟩
theorem YA:∀(ps:H G)(vs:H Y),sG ps=X->sG ((ps.zip vs).map (·.1))=X
 |[],_,_=>by simp[sG]
 |p::ps,[],_=>by simp[sG]
 |p::ps,v::vs,h=>by
  simp only[sG,jc,q9,qn,ka,Û,qc]at h ⊢;refine⟨λhm=>h.1 ?_,YA ps vs h.2⟩;obtain⟨q,hq,he⟩:=k7.1 hm;rw[<-he];exact(à hq).1
theorem jGQ{kd:Æ}{t:Ty}{xs:H t.den}{c:Ú}(h:kd=X->t=segT):(D3 kd t xs c).length=cond kd 1 2:=by
 cases kd with
 |false=>rfl
 |true=>have:=h rfl;subst this;rfl
theorem jEb{P:Á}{E:Env}(jX:∀f t,E.bw f=B t->BwK P f t)(nP:E.N.pin=λ_=>U){b n:G}{g:Ö}{ps:Ã G}{x y:Ô}
  (tB:∀l,dZ x=X->IF P (E.rnd ps x y) (B l) x)(tC:∀l,dZ y=X->IF P (E.rnd ps x y) (B l) y)
  (h0:E.off0=E)(hLO:CH E b (.rangeFunc g ps x y)){R:Type}{k:Ex->St->O R}{r:R}(hm:CI w0 refs)(hR:Rel E.N E.np S0 w0 refs σ a w S γ)(hc:du σ)
  (h:fP E b (.rangeFunc g ps x y) σ k=B r) :
  (Code.rangeFunc g ps x y).wpIn (FR Â) n P (Post E S0 w0 refs (dZ (.rangeFunc g ps x y)) k r) a w:=by
 refine jIi (n:=1) ?_;simp only[fP]at h;split at h
 case h_2=>simp at h
 rename_i f t xs oq;split at h
 case h_2=>simp at h
 rename_i kd ca;split at h
 case h_2=>simp at h
 rename_i s hs;obtain⟨fu0,e,s',pU,hk⟩:=hLO _ R _ r h
 rw[show D8 E b (.rangeFunc g ps x y)=xn E b g ps x y from by
  funext s
  show xn E.off0 b g ps x y s=_;rw[h0]]at pU
 have bR:=nD hR g;rw[oq]at bR;obtain⟨⟨cv,YB,mG⟩,_⟩:=bR;obtain⟨S1,γ1,bI,eP⟩:=xY hR hc hs;have parts:∀f t kd,rfK E b f t ps x y=B kd->E.bw f=B (kd,t)/\(kd=X->t=segT)/\ps.toList.length=cond kd 1 2/\sG ps.toList=X/\(∀p∈ps.toList,p<E.N.n)/\dZ x=X/\dZ y=X/\pinK ps x y (E.keep b)=true:=by grind[rfK]
 obtain⟨Cu,hsg,h2,ew,ao,yf,yg,YC⟩:=parts f t kd ca;obtain⟨⟨YD,ND,YE,cF⟩,CA⟩:=(jX f _ Cu).it hsg
 have heg:∀args w,(callFunc f args).run P w = .ok (.enter f args) w:=λargs w=>by
  have mz:¬YD.body=none:=λhn=>by grind
  have xO : ¬ YD.name = "runtime.NumGoroutine" := by simpa using cF
  simp[callFunc,ND,mz,xO]
 refine wpIn_rangeFunc λfn _=>?_;obtain⟨rec,gO⟩:∃rec:LoopState->O Ô->Loop,rec=λst pe=>{ state:=st,pending:=pe,fn,tmps:=a.tmps,params:=ps,assign:=x,body:=y,defers:=w.heap.size }:=⟨_,rfl⟩;obtain⟨W1,IG⟩:∃W1,(w.alloc (.deferred (B []))).alloc (.loop (rec .ready Â))=W1:=⟨_,rfl⟩
 refine⟨w.heap.size+1,[{ target:= .collected w.heap.size,args:=#[] }],W1,{ target:= .fn (.func f) cv,args:=#[.func (.yield (w.heap.size+1)) #[] #[]] },W1,f,
  #[.func (.yield (w.heap.size+1)) #[] #[]]++cv,W1,?_,?_,λ_ _=>trivial,?_,λhd=>aa,?_⟩
 .rw[<-IG,gO];exact run_enterLoop_outer _ _ _ _ _
 .simp only[resolve,YB];simp[go_sem]
 .simp[invoke,go_sem,heg]
 obtain⟨l,hl⟩:∃l,l=w.heap.size+1:=⟨_,rfl⟩;rw[<-hl];let dj:(G->O Y)->Obj->Refs:=λfx o=>{ blks:=refs.blks,val:=refs.val,ds:=[],kw:=λg=>if g=l then B o else if g=w.heap.size then B (.deferred (B [])) else refs.kw g,fix:=fx,mv:=refs.mv }
 let fx:G->O Value:=λi=>if B0 ps x y i then B (a.tmps.getD i undef) else Â
 let aI:Go.Act:={ tmps:=a.tmps,defers:=[] }
 have iN:∀fx o,(dj fx o).kw l=B o:=λfx o=>by simp[dj]
 have Au:w0.heap.size<=l:=by have:=hR.grow;omega
 have bT:∀fx o,CI w0 (dj fx o):=λfx o=>⟨vc,λd hd=>by simp[dj]at hd⟩
 have nN:∀{N:NT}{fx:G->O Y}{o o':Obj}{σ:St}{a:À}{W:Z}{S:aX}{γ:G->Y},o.isCells=U->o'.isCells=U->Rel N E.np S0 w0 (dj fx o) σ a W S γ->
   Rel N E.np S0 w0 (dj fx o') σ a (W.putObj l o') S γ:=by
  intro N fx o o' σ a W S γ h1 h2 hR;have:=hR.putO (iN fx o) Au h1 h2;grind
 have tD:∀{N N':NT}{fx NF:G->O Y}{o:Obj}{K:Keep}{s:Snap}{a a':À}{W:Z}{S:aX}{γ:G->Y},Rel N E.np S0 w0 (dj fx o) (dz E.np K s) a W S γ->a'.tmps.size=N'.n->a'.defers=[]->
   (∀i∈K.slots,tm a' i=tm a i)->(∀i v,NF i=B v->N'.pin i=X/\a'.tmps.getD i undef=v)->Rel N' E.np S0 w0 (dj NF o) (dz E.np K s) a' W S γ:=by
  intro N N' fx NF o K s a a' W S γ hR h1 h2 h3 h4;exact hR.frame rfl rfl h1 h2 h3 (λg u hg=>hR.kept g u hg) h4
 have tE:∀i v,(λ_=>Â:G->O Y) i=B v->E.N.pin i=X/\aI.tmps.getD i undef=v:=λi v h=>by simp at h
 let J:Ú->aX->Z->Prop:=λc S W=>∃s γ fu,Rel E.N E.np S0 w0 (dj (λ_=>Â) (.loop (rec .ready Â))) (dz E.np (E.keep b) s) aI W S γ/\du (dz E.np (E.keep b) s)/\
  loopN (xn E b g ps x y) fu (.s (.one (.d (.int .i64) c))::s)=B (e,s')
 let Je:Z->Prop:=λW=>∃S γ,Rel E.N E.np S0 w0 (dj (λ_=>Â) (.loop (rec .ready Â))) (dz E.np (E.keepX b e) s') aI W S γ/\du (dz E.np (E.keepX b e) s')/\e = .normal
 let Jx:Z->Prop:=λW=>∃S γ c,Rel E.N E.np S0 w0 (dj (λ_=>Â) (.loop (rec .done (B c)))) (dz E.np (E.keepX b e) s') aI W S γ/\du (dz E.np (E.keepX b e) s')/\
  ((e = .ret/\c = .ret)\/∃i,e = .exit i/\c = .exit i)
 have Fm:∀K:Keep,pinK ps x y K=X->∀i∈K.slots,B0 ps x y i=true:=λK hK i hi=>jw.1 hK i hi;have Fo:∀i,B0 ps x y i=X->i∉ps.toList:=by grind[B0]
 have Fl:J (D1 kd xs.length) S1 W1:=by
  refine⟨s,γ1,fu0,?_,eP,pU⟩;have hA:=(bI.allocO (.deferred (B []))).allocO (.loop (rec .ready Â));rw[IG]at hA;refine hA.frame rfl rfl hR.size rfl (λi _=>rfl) (λg' u aP=>?_) tE;simp only[dj]at aP;split at aP
  .rename_i e';simp only[j5]at aP;subst aP;rw[e',hl];refine⟨?_,λk' b' aZ fH=>?_⟩
   .grind[æ,World.size_alloc]
   .have:=lj (bI.box k' b' aZ) fH;omega
  .split at aP
   .rename_i _ e';simp only[j5]at aP;subst aP;rw[e'];refine⟨?_,λk' b' aZ fH=>?_⟩
    .grind[heap_alloc_old,æ]
    .have:=lj (bI.box k' b' aZ) fH;omega
   .exact hA.kept g' u aP
 have haI:aI.eval g=a.eval g:=by cases g<;>rfl
 have NG:aI.tmps.size=E.N.n:=hR.size
 have Fp:∀{K:Keep}{s:Snap}{o:Obj}{W W':Z}{S:aX}{γ:G->Y},Grew W W'->Rel E.N E.np S0 w0 (dj (λ_=>Â) o) (dz E.np K s) aI W S γ->Rel E.N E.np S0 w0 (dj (λ_=>Â) o) (dz E.np K s) aI W' S γ:=
  λhg h1=>h1.grew hg ⟨λ_ _ h=>h,λ_ _ h=> .inl h,λg o h=>qd (h1.here g o h) hg.size⟩
 refine CallsIn.mono (CA cv l J Je Jx W1 S1 xs (λc S W S' W' hg hs ⟨s,γ,fu,h1,h2,h3⟩=>⟨s,γ,fu,h1.grew hg hs,h2,h3⟩) (λW W' hg ⟨S,γ,h1,h2⟩=>⟨S,γ,Fp hg h1,h2⟩) (λW W' hg ⟨S,γ,c,h1,h2⟩=>⟨S,γ,c,Fp hg h1,h2⟩)
  (λc S W ⟨s,γ,fu,h1,_⟩=>h1.here) ?_ ?_ Fl) ?_
 ·-- a round
  rintro cn S W ⟨s,γ,fu,Fq,hcj,yh⟩
  cases fu with
  |zero=>simp[loopN]at yh
  |succ fu=>
  simp only[loopN]at yh;cases aW:xn E b g ps x y (.s (.one (.d (.int .i64) cn))::s) with
  |none=>rw[aW]at yh;simp at yh
  |some r0=>
  rw[aW]at yh;unfold xn D7 at aW;dsimp only at aW;split at aW
  case h_2=>simp at aW
  rename_i f' t' dE NH;split at aW
  case h_2=>simp at aW
  rename_i kd' qT;have nF:=nD Fq g;rw[NH,haI,YB]at nF;obtain⟨⟨cv',Fs,dt⟩,_⟩:=nF;simp only[Value.func.injEq,Fn.func.injEq,kc]at Fs;obtain⟨rfl,rfl⟩:=Fs;have ht:=(parts f t' kd' qT).1;rw[Cu]at ht;simp only[j5,j9]at ht;obtain⟨rfl,rfl⟩:=ht;refine⟨dE,dt,λYF=>?_,λYF=>?_⟩
  .grind[xY]
  rw[YF,j7]at aW;cases hle:itOk kd dE.length cn with
  |false=>rw[hle]at aW;simp at aW
  |true=>
  rw[hle,j6]at aW;refine⟨rfl,λSg Wg vs hgw wx om=>?_⟩;have Fq:=Fq.grew hgw wx;have xE:vs.toArray.size=ps.size:=by grind[All2.length,jGQ]
  refine⟨fn,_,x,y,by have:=run_yield (P:=P) (args:=vs.toArray) (Fq.kept l _ (iN _ _)).1 (by rw[gO];exact xE);rw[gO]at this;exact this,roundIn_of_wpIn trivial ?_⟩;let a1:Go.Act:={ tmps:=(ps.zip vs.toArray).foldl (λt (q:G×Y)=>t.setIfInBounds q.1 q.2) a.tmps,defers:=[] }
  have fT:(ps.zip vs.toArray).toList=ps.toList.zip vs:=ae;have CJ:a1.tmps=(ps.toList.zip vs).foldl (λt (q:G×Y)=>t.setIfInBounds q.1 q.2) a.tmps:=by grind
  have fw:∀i,i∈(ps.toList.zip vs).map (·.1)->i∈ps.toList:=λi hi=>by
   obtain⟨q,hq,rfl⟩:=k7.1 hi;exact(à hq).1
  have NI:sG ((ps.toList.zip vs).map (·.1))=true:=YA _ _ ew;obtain⟨Ij,kN,YG⟩:=Yx (ps.toList.zip vs) a.tmps NI (λq hq=>by rw[hR.size];exact ao _ (à hq).1);rw[<-CJ]at Ij kN YG;have NJ:a1.tmps.size=E.N.n:=YG.trans hR.size;have CB:∀i,i∉ps.toList->tm a1 i=tm aI i:=λi hi=>kN i (λh=>hi (fw i h))
  have hRa:Rel (E.rnd ps x y).N E.np S0 w0 (dj fx (.loop (rec .ready Â))) (dz E.np (E.keep b) s) a1 Wg Sg γ:=tD Fq NJ rfl (λi hi=>CB i (Fo i (Fm _ YC i hi))) (λi u hu=>by
   simp only[fx]at hu;split at hu
   .rename_i hp;simp only[j5]at hu;refine⟨hp,?_⟩;grind
   .simp at hu)
  obtain⟨hRc,zY⟩:=Yy (ps.toList.zip (D3 kd t dE cn)) hRa hcj (λq hq=>by
   obtain⟨v,h3,h4⟩:=Yz om q hq;have:=Ij _ h3;show VRep Sg Wg q.2 (a1.tmps.getD q.1 undef);rw[this];exact h4)
  refine wpIn_mono (tB l yf 0 0 (bT _ _) (by rw[ye x 0 yf];simp) hRc zY aW) ?_
  rintro e1 a2 w2 ⟨gK,ex,σ2,S2,γ2,_,fy,rfl,cC,fQ,fo⟩
  have:=fy yf;subst this;cases ex with
  |exit i=>simp at fo
  |ret=>simp at fo
  |normal=>
  refine⟨_,run_beginRound (cC.kept l _ (iN _ _)).1 (by rw[gO]),?_⟩;have gz:Rel (E.rnd ps x y).N E.np S0 w0 (dj fx (.loop (rec .busy Â))) σ2 a2 (w2.putObj l (.loop { rec .ready Â with state:= .busy })) S2 γ2:=by have:=nN (o':= .loop (rec .busy Â)) rfl rfl cC;rw[gO]at this ⊢;exact this
  refine wpIn_mono (tC l yg 0 0 (bT _ _) (by rw[ye y 0 yg];simp) gz fQ fo) ?_
  rintro e1 a3 w3 ⟨YH,ex,σ3,S3,γ3,_,fy,rfl,rX,rY,Av⟩
  have:=fy yg;subst this
  have nQ:∀{K:Keep}{s:Snap}{o:Obj}{W:Z}{S:aX}{γ:G->Y},pinK ps x y K=X->Rel (E.rnd ps x y).N E.np S0 w0 (dj fx o) (dz E.np K s) a3 W S γ->
    Rel E.N E.np S0 w0 (dj (λ_=>Â) o) (dz E.np K s) aI W S γ:=λhK hR=>tD hR NG rfl (λi hi=>by
   have:=(hR.fix i (a.tmps.getD i undef) (by grind)).2;exact this.symm) tE
  have tF:∀(ex:Ex)(c:Ô),((ex = .ret/\c = .ret)\/∃i,ex = .exit i/\c = .exit i)->
    (cond (pinK ps x y (E.keepX b ex)) (match kX E.np (E.keepX b ex) σ3 with
     |some s'=>B (Sum.inr (ex,s'))
     |none=>Â) Â:O (Snap ⊕ Ex×Snap))=B r0->
    ∃v w',(ú l (B c)).run P w3 = .ok v w'/\((Ñ v = .returned (.bool X)/\∃S',J (D2 kd cn) S' w')\/(Ñ v = .returned (.bool U)/\Jx w')):=by
   intro ex c hex tG;cases Aw:pinK ps x y (E.keepX b ex) with
   |false=>rw[Aw]at tG;simp at tG
   |true=>
   rw[Aw,j6]at tG;split at tG
   case h_2=>simp at tG
   rename_i s2 l5;simp only[j5]at tG;subst tG;simp only[j5,j9]at yh;obtain⟨rfl,rfl⟩:=yh;obtain⟨S5,γ5,rZ,NK⟩:=xY rX rY l5;refine⟨_,_,run_endRound (B c) (rZ.kept l _ (iN _ _)).1,.inr ⟨rfl,S5,γ5,c,?_,NK,hex⟩⟩;have:=nN (o':= .loop (rec .done (B c))) rfl rfl (nQ Aw rZ);rw[gO]at this ⊢;exact this
  cases ex with
  |normal=>
   dsimp only at Av
   split at Av
   case h_2=>simp at Av
   rename_i s2 l5;simp only[j5]at Av;subst Av;obtain⟨S5,γ5,rZ,NK⟩:=xY rX rY l5;show∃v w',(ú l Â).run P w3 = .ok v w'/\_;refine⟨_,_,run_endRound Â (rZ.kept l _ (iN _ _)).1,.inl ⟨rfl,S5,s2,γ5,fu,?_,NK,?_⟩⟩
   .have:=nN (o':= .loop (rec .ready Â)) rfl rfl (nQ YC rZ);rw[gO]at this ⊢;exact this
   .exact yh
  |exit i=>exact tF _ _ (.inr ⟨i,rfl,rfl⟩) Av
  |ret=>exact tF _ _ (.inl ⟨rfl,rfl⟩) Av
 .refine⟨S,λg o h=>by rw[<-IG];have:=hR.here g o h;simp;omega,mG.mono λx z hx=>?_⟩;rw[<-IG]
  exact kY.keep (λg o h=>⟨h,by
   have:=hR.here g o h;rw[ç _ _ _ aj,ç _ _ _ this]⟩) hx
 .rintro e2 W2 ⟨⟨v,rfl⟩,fW⟩
  have nQ:∀{K:Keep}{s:Snap}{o:Obj}{W:Z}{S:aX}{γ:G->Y},Rel E.N E.np S0 w0 (dj (λ_=>Â) o) (dz E.np K s) aI W S γ->
    ∃refs',yb w0 refs refs'/\Rel E.N E.np S0 w0 refs' (dz E.np K s) { a with defers:=[{ target:= .collected w.heap.size,args:=#[] }]++a.defers } W S γ:=by
   intro K s o W S γ YI;refine⟨{ blks:=refs.blks,val:=refs.val,ds:={ target:= .collected w.heap.size,args:=#[] }::refs.ds,kw:=λg=>if g=w.heap.size then B (.deferred (B [])) else refs.kw g,fix:=refs.fix,mv:=refs.mv },⟨rfl,rfl,rfl,⟨?_,?_⟩,rfl⟩,?_⟩
   .refine qk.2 ⟨λlv=>?_,hm.1⟩;obtain⟨D,hD,_,YJ⟩:=hm.2 _ lv;simp only[Deferred.mk.injEq,Target.collected.injEq,y9]at hD;rw[<-hD,hR.kw_new (jh _)]at YJ;simp at YJ
   .intro d hd;rcases jb.1 hd with rfl|hd
    .exact⟨w.heap.size,rfl,hR.grow,ae⟩
    .obtain⟨D,rfl,h1,h2⟩:=hm.2 d hd;grind
   .refine YI.frame rfl rfl hR.size (by rw[hR.defers];rfl) (λi _=>rfl) (λg' u aP=>YI.kept g' u ?_) (λi v hv=>?_)
    .simp only[dj]at aP ⊢;by_cases h1:g'=l
     .exfalso;subst h1;rw[if_neg aa,hR.kw_new aa]at aP;simp at aP
     .rw[if_neg h1];exact aP
    .have:=(hR.fix i v hv).1;rw[nP]at this;simp at this
  rcases fW with⟨S2,γ2,wy,hce,rfl⟩|⟨S2,γ2,c,vW,xC,hex⟩
  .refine⟨Â,_,by have:=run_endLoop (P:=P) (wy.kept l _ (iN _ _)).1 (by rw[gO];simp);rw[gO]at this;exact this,?_⟩;have yi:=nN (o':= .loop { rec .ready Â with state:= .exhausted }) rfl rfl wy;obtain⟨refs',hle,wy⟩:=nQ yi;rw[gO]at wy;exact⟨refs',.normal,_,S2,γ2,hle,λhf=>by simp[dZ]at hf,rfl,wy,hce,hk⟩
  .have yi:=nN (o':= .loop { rec .done (B c) with state:= .exhausted }) rfl rfl vW;obtain⟨refs',hle,wy⟩:=nQ yi;refine⟨B c,_,by have:=run_endLoop (P:=P) (vW.kept l _ (iN _ _)).1 (by rw[gO];simp);rw[gO]at this;exact this,?_⟩;rw[gO]at wy;rcases hex with⟨rfl,rfl⟩|⟨i,rfl,rfl⟩
   .exact wpIn_ret ⟨refs',.ret,_,S2,γ2,hle,λhf=>by simp[dZ]at hf,rfl,wy,xC,hk⟩
   .exact wpIn_exit ⟨refs',.exit i,_,S2,γ2,hle,λhf=>by simp[dZ]at hf,rfl,wy,xC,hk⟩
def MrS(P:Á)(CL:G->O (G×G)):Prop:=
 ∀{E:Env},E.mr=CL->cP P E.T->lk P E.C->CFun E.C->(∀f t,E.bw f=B t->BwK P f t)->(E.N.pin=λ_=>U)->
  ∀(x y:Ô)(b n:G)(pl:Æ){S0:aX}{w0:Z}{refs:Refs}{σ:St}{a:À}{w:Z}{S:aX}{γ:G->Y}{R:Type}{k:Ex->St->O R}{r:R},CI w0 refs->
   (∀z∈gj b y,MrOK E z.1 z.2)->Rel E.N E.np S0 w0 refs σ a w S γ->du σ->D5 E x y=X->D6 E x y σ k=B r->(Code.seq x y).wpIn (FR Â) n P (Post E S0 w0 refs pl k r) a w
theorem juO{E:Env}{x y:Ô}(h:D5 E x y=X):dZ (.seq x y)=false:=by
 unfold D5 at h;grind[dZ]
theorem jwD{P:Á}(iD:P.follows .mixedOrders=X){CL:G->O (G×G)}(NL:MrS P CL):∀(c:Ô){E:Env}{ro:O G},cP P E.T->lk P E.C->CFun E.C->E.mr=CL->
  (∀f t,E.bw f=B t->BwK P f t)->(dZ c=X\/(ro=Â/\E.N.pin=λ_=>U))->IF P E ro c:=by
 intro c;induction c with
 |skip=>intro E ro hT hC hF hE gS hp b n S0 w0 refs σ a w S γ R k r hm hL hR hc h;exact wpIn_skip ⟨refs,.normal,σ,S,γ,⟨rfl,rfl,rfl,hm,rfl⟩,λ_=>rfl,rfl,hR,hc,h⟩
 |label l=>intro E ro hT hC hF hE gS hp b n S0 w0 refs σ a w S γ R k r hm hL hR hc h;exact wpIn_label ⟨refs,.normal,σ,S,γ,⟨rfl,rfl,rfl,hm,rfl⟩,λ_=>rfl,rfl,hR,hc,h⟩
 |region NM ops draw=>
  intro E ro hT hC hF hE gS hp b n S0 w0 refs σ a w S γ R k r hm hL hR hc h
  have CM:ro=Â\/∀o∈ops.toList,∀c,o.op ≠ .defer c:=hp.elim (λhp=> .inr λo ho c hd=>by
   have:=jw.1 hp o ho;grind[V5]) λh=> .inl h.1
  cases draw with
  |true=>simp only[fP]at h;obtain⟨σ,S,γ,hR,hc,h⟩:=Nx hR hc h;exact wpIn_region_any iD (IB CM Ny _ _ _ _ (jzC hT hC hF hR hc (λσ' a' w' S' γ' dK dO hk=>⟨refs,.normal,σ',S',γ',⟨rfl,rfl,rfl,hm,rfl⟩,λ_=>rfl,rfl,dK,dO,hk⟩) h))
  |false=>
   simp only[fP]at h;obtain⟨σ,S,γ,hR,hc,h⟩:=Nx hR hc h;cases hks:E.ks NM with
   |true=>rw[hks,j6]at h;exact wpIn_region (CD CM Ny _ _ _ (jzH hT hC gS hR hc (λσ' a' w' S' γ' dK dO hk=>⟨refs,.normal,σ',S',γ',⟨rfl,rfl,rfl,hm,rfl⟩,λ_=>rfl,rfl,dK,dO,hk⟩) h))
   |false=>rw[hks,j7]at h;exact wpIn_region (CD CM Ny _ _ _ (XQ hT hC hR hc (λσ' a' w' S' γ' dK dO hk=>⟨refs,.normal,σ',S',γ',⟨rfl,rfl,rfl,hm,rfl⟩,λ_=>rfl,rfl,dK,dO,hk⟩) h))
 |seq x y tB tC=>
  intro E ro hT hC hF hE gS hp b n S0 w0 refs σ a w S γ R k r hm hL hR hc h;simp only[fP]at h;cases IH:D5 E x y with
  |true=>rw[IH,j6]at h;obtain⟨rfl,nP⟩:=hp.resolve_left (by rw[juO IH];simp);exact NL hE hT hC hF gS nP x y b n _ hm (λz hz=>(hL z (by simp[gj,hz])).2) hR hc IH h
  |false=>
  rw[IH,j7]at h;have yf:dZ x=X\/(ro=Â/\E.N.pin=λ_=>U):=hp.imp (λh=>by grind[dZ]) id;have yg:dZ y=X\/(ro=Â/\E.N.pin=λ_=>U):=hp.imp (λh=>by grind[dZ]) id;refine wpIn_seq (wpIn_mono (tB hT hC hF hE gS yf b n hm (λz hz=>hL z (by simp[gj,hz])) hR hc h) ?_)
  rintro e a' w' ⟨refs',ex,σ',S',γ',hle,fy,rfl,dK,dO,hk⟩
  have hx:dZ (.seq x y)=X->refs'=refs:=λh=>by grind[dZ]
  cases ex with
  |normal=>
   refine wpIn_mono (tC hT hC hF hE gS yg b n hle.marks (λz hz=>hL z (by simp[gj,hz])) dK dO hk) ?_
   rintro e2 a2 w2 ⟨gK,ex,σ2,S2,γ2,ff,hpl2,rfl,cC,fQ,fo⟩
   refine⟨gK,ex,σ2,S2,γ2,hle.trans ff,λh=>?_,rfl,cC,fQ,fo⟩;grind[dZ]
  |exit i=>exact⟨refs',.exit i,σ',S',γ',hle,hx,rfl,dK,dO,hk⟩
  |ret=>exact⟨refs',.ret,σ',S',γ',hle,hx,rfl,dK,dO,hk⟩
 |cond c x y tB tC=>
  intro E ro hT hC hF hE gS hp b n S0 w0 refs σ a w S γ R k r hm hL hR hc h;simp only[fP]at h;have yf:dZ x=X\/(ro=Â/\E.N.pin=λ_=>U):=hp.imp (λh=>by grind[dZ]) id;have yg:dZ y=X\/(ro=Â/\E.N.pin=λ_=>U):=hp.imp (λh=>by grind[dZ]) id;split at h
  .rename_i v hv;have oq:=nD hR c;rw[hv]at oq;have NN:a.eval c = .bool v:=uz oq;refine wpIn_cond NN ?_;cases v with
   |true=>
    rw[j6,V4 hv]at h;refine wpIn_mono (tB hT hC hF hE gS yf b n hm (λz hz=>hL z (by simp[gj,hz])) hR hc h) ?_
    rintro e a' w' ⟨refs',ex,σ',S',γ',hle,fy,he,hr⟩
    exact⟨refs',ex,σ',S',γ',hle,λh=>by grind[dZ],he,hr⟩
   |false=>
    rw[j7,V4 hv]at h;refine wpIn_mono (tC hT hC hF hE gS yg b n hm (λz hz=>hL z (by simp[gj,hz])) hR hc h) ?_
    rintro e a' w' ⟨refs',ex,σ',S',γ',hle,fy,he,hr⟩
    exact⟨refs',ex,σ',S',γ',hle,λh=>by grind[dZ],he,hr⟩
  .simp at h
 |block id c ih=>
  intro E ro hT hC hF hE gS hp b n S0 w0 refs σ a w S γ R k r hm hL hR hc h;simp only[fP]at h;refine wpIn_block (wpIn_mono (ih hT hC hF hE gS hp id n hm (λz hz=>hL z (by simpa[gj]using hz)) hR hc h) ?_)
  rintro e a' w' ⟨refs',ex,σ',S',γ',hle,fy,rfl,dK,dO,hk⟩
  cases ex with
  |normal=>exact⟨refs',.normal,σ',S',γ',hle,fy,rfl,dK,dO,hk⟩
  |exit i=>
   simp only[exOf,Exit.inBlock];simp only at hk;split
   .rename_i hi;rw[if_pos hi]at hk;exact⟨refs',.normal,σ',S',γ',hle,fy,rfl,dK,dO,hk⟩
   .rename_i hi;rw[if_neg hi]at hk;exact⟨refs',.exit i,σ',S',γ',hle,fy,rfl,dK,dO,hk⟩
  |ret=>exact⟨refs',.ret,σ',S',γ',hle,fy,rfl,dK,dO,hk⟩
 |scope c ih=>intro E ro hT hC hF hE gS hp b n S0 w0 refs σ a w S γ R k r hm hL hR hc h;simp only[fP]at h;refine jzE (λl a w hq=>?_) (ih hT hC hF hE gS hp b n hm (λz hz=>hL z (by simpa[gj]using hz)) hR hc h);obtain⟨_,ex,_,_,_,_,_,he,_⟩:=hq;cases ex<;>simp[exOf]at he
 |loop c ih=>
  intro E ro hT hC hF hE gS hp b n S0 w0 refs σ a w S γ R k r hm hL hR hc h;have YK:=hp.resolve_left (by simp[dZ]);simp only[fP]at h;cases YL:isRf c with
  |true=>simp_all
  |false=>
  rw[YL,j7]at h;cases rU:Nat.blt 0 (E.un b) with
  |true=>
   rw[rU,j6]at h;refine Yp (λn a w=>∃refs' σ' S γ,yb w0 refs refs'/\Rel E.N E.np S0 w0 refs' σ' a w S γ/\du σ'/\∃i,xk (λi σ k=>fP (E.offR i) b c σ k) n i σ' k=B r) ⟨refs,σ,S,γ,⟨rfl,rfl,rfl,hm,rfl⟩,hR,hc,0,h⟩ ?_
   rintro m a1 w1 ⟨Ft,σ1,S2,γ2,il,cC,fQ,i,lv⟩
   cases m with
   |zero=>simp[xk]at lv
   |succ m=>
    simp only[xk]at lv;have hL':∀z∈gj b c,CH (E.offR i) z.1 z.2/\MrOK (E.offR i) z.1 z.2:=λz hz=>hL z (by simp[gj,hz]);refine wpIn_mono (ih (E:=E.offR i) hT hC hF hE gS (.inr YK) b n il.marks hL' cC fQ lv) ?_
    rintro e2 a2 w2 ⟨gK,ex,σ2,S3,γ3,ff,_,rfl,gz,wj,lx⟩
    cases ex with
    |normal=>exact⟨m,ô m,gK,σ2,S3,γ3,il.trans ff,gz,wj,i+1,lx⟩
    |exit i=>exact⟨gK,.exit i,σ2,S3,γ3,il.trans ff,λhf=>by simp[dZ]at hf,rfl,gz,wj,lx⟩
    |ret=>exact⟨gK,.ret,σ2,S3,γ3,il.trans ff,λhf=>by simp[dZ]at hf,rfl,gz,wj,lx⟩
  |false=>
  rw[rU,j7]at h;split at h
  .rename_i s hs;obtain⟨n1,e,s',hn,hk⟩:=(hL (b,c) (by simp[gj])).1 s R _ r h
   have fi:D8 E b c=zB E.off0 b c:=by
    funext s
    cases c<;>first|rfl|simp[isRf]at YL
   rw[fi]at hn;obtain⟨S1,γ1,bI,eP⟩:=xY hR hc hs;refine Yp (λn a w=>∃refs' s S γ,yb w0 refs refs'/\Rel E.N E.np S0 w0 refs' (dz E.np (E.keep b) s) a w S γ/\du (dz E.np (E.keep b) s)/\loopN (zB E.off0 b c) n s=B (e,s')) ⟨refs,s,S1,γ1,⟨rfl,rfl,rfl,hm,rfl⟩,bI,eP,hn⟩ ?_
   rintro m a1 w1 ⟨Ft,s1,S2,γ2,il,cC,fQ,lv⟩
   cases m with
   |zero=>simp[loopN]at lv
   |succ m=>
    simp only[loopN]at lv;cases aW:zB E.off0 b c s1 with
    |none=>simp[aW]at lv
    |some out=>
     rw[aW]at lv;unfold zB at aW;refine wpIn_mono (ih (E:=E.off0) hT hC hF hE gS (.inr YK) b n il.marks (λz hz=>hL z (by simp[gj,hz])) cC fQ aW) ?_
     rintro e2 a2 w2 ⟨gK,ex,σ2,S3,γ3,ff,_,rfl,gz,wj,lx⟩
     cases ex with
     |normal=>
      simp only at lx;split at lx
      .rename_i s2 l5;simp only[j5]at lx;subst lx;obtain⟨S4,γ4,rX,rY⟩:=xY gz wj l5;exact⟨m,ô m,gK,s2,S4,γ4,il.trans ff,rX,rY,lv⟩
      .simp at lx
     |exit i=>
      simp only at lx;split at lx
      .rename_i s2 l5;simp only[j5]at lx;subst lx;obtain⟨S4,γ4,rX,rY⟩:=xY gz wj l5;simp only[j5,j9]at lv;obtain⟨rfl,rfl⟩:=lv;exact⟨gK,.exit i,_,S4,γ4,il.trans ff,λhf=>by simp[dZ]at hf,rfl,rX,rY,hk⟩
      .simp at lx
     |ret=>
      simp only at lx;split at lx
      .rename_i s2 l5;simp only[j5]at lx;subst lx;obtain⟨S4,γ4,rX,rY⟩:=xY gz wj l5;simp only[j5,j9]at lv;obtain⟨rfl,rfl⟩:=lv;exact⟨gK,.ret,_,S4,γ4,il.trans ff,λhf=>by simp[dZ]at hf,rfl,rX,rY,hk⟩
      .simp at lx
  .simp at h
 |rangeFunc g ps x y tB tC=>
  intro E ro hT hC hF hE gS hp b n S0 w0 refs σ a w S γ R k r hm hL hR hc h;obtain⟨rfl,nP⟩:=hp.resolve_left (by simp[dZ])
  exact jEb (E:=E.off0) gS nP (λl hx=>tB (E:=E.off0.rnd ps x y) hT hC hF hE gS (.inl hx)) (λl hy=>tC (E:=E.off0.rnd ps x y) hT hC hF hE gS (.inl hy))
   rfl (hL (b,.rangeFunc g ps x y) (by simp[gj])).1 hm hR hc h
 |exit i=>intro E ro hT hC hF hE gS hp b n S0 w0 refs σ a w S γ R k r hm hL hR hc h;exact wpIn_exit ⟨refs,.exit i,σ,S,γ,⟨rfl,rfl,rfl,hm,rfl⟩,λ_=>rfl,rfl,hR,hc,h⟩
 |ret=>intro E ro hT hC hF hE gS hp b n S0 w0 refs σ a w S γ R k r hm hL hR hc h;exact wpIn_ret ⟨refs,.ret,σ,S,γ,⟨rfl,rfl,rfl,hm,rfl⟩,λ_=>rfl,rfl,hR,hc,h⟩
 |goto l=>intro E ro hT hC hF hE gS hp b n S0 w0 refs σ a w S γ R k r hm hL hR hc h;simp[fP]at h
 |refuse y=>intro E ro hT hC hF hE gS hp b n S0 w0 refs σ a w S γ R k r hm hL hR hc h;simp[fP]at h
end
def keyB(es:Ã ì):H (Y×G):=es.toList.map λe=>(e.key,e.born)
structure AtR(g r it since clock:G)(ks:H (Y×G))(es:Ã ì)(seen:Ã G)(a:À)(w:Z):Prop where
 map:w.heap[g]? = B (.map es clock)
 ks:keyB es=ks
 iter:w.heap[r]? = B (.mapIter (B g) since seen clock)
 ptr:tm a it = .pointer (B ⟨r,0,Â⟩)
section
variable{N:NT}{np:G}{S0:aX}{w0:Z}{refs:Refs}{σ:St}{a:À}{w:Z}{S:aX}{γ:G->Y}
structure Mix{β:Type}(xs ys:H (Ú×β))(seen:Ã G)(zs:H (Ú×β)):Prop where
 len:zs.length=xs.length
 get:∀i,zs[i]? = if seen.contains i=X then ys[i]? else xs[i]?
theorem beqF{i j:G}(h:i≠j):Nat.beq i j=false:=by
 cases hq:Nat.beq i j with
 |false=>rfl
 |true=>exact absurd (á hq) h
theorem jEc{P:Á}(iD:P.follows .mixedOrders=X)(CL:G->O (G×G)):MrS P CL:=by
 intro E hE hT hC hF jX nP x y b n pl S0 w0 refs σ a w S γ R k r hm hMO hR hc II h;unfold D6 at h;cases hz:E.nz<;>simp[hz]at h
theorem jzI{P:Á}(iD:P.follows .mixedOrders=X)(c:Ô){E:Env}{ro:O G}(hT:cP P E.T)(hC:lk P E.C)(hF:CFun E.C)(jX:∀f t,E.bw f=B t->BwK P f t)
 (hq:dZ c=X\/(ro=Â/\E.N.pin=λ_=>U)):IF P E ro c:=jwD iD (jEc iD E.mr) c hT hC hF rfl jX hq
end
section
variable{N:NT}{np:G}{S0:aX}{w0:Z}{refs:Refs}{σ:St}{a:À}{w:Z}{S:aX}{γ:G->Y}
def Ax:Arg->Æ
 |.ref _=>X
 |.rl _ _=>X
 |_=>U
def Fu(args:H Arg)(vals:H Y)(k:G):O Value:=
 if k%64=0 then match args[k/64]? with
  |some x=>if Ax x then vals[k/64]? else Â
  |none=>Â
 else Â
def qX(args:H Arg)(vals:H Y):Refs:={ blks:=ei args vals,val:=Fu args vals,mv:=mvOf args vals }
def γ0(vals:H Y)(k:G):Value:=vals.getD (k/64) undef
theorem Fv:∀{as:H Arg}{us:H Y}{i:G}{x:Arg}{u:Y}{g:G},as[i]? = B x->us[i]? = B u->mb x u=B g->g∈ei as us
 |y::as,v::us,0,x,u,g,h,h',hg=>by
  simp at h h';subst h;subst h';simp[ei,hg]
 |y::as,v::us,i+1,x,u,g,h,h',hg=>by
  have:=Fv (as:=as) (us:=us) (i:=i) (by simpa using h) (by simpa using h') hg;simp[ei,this]
 |[],_,_,_,_,_,h,_,_=>by simp at h
 |_::_,[],_,_,_,_,_,h',_=>by simp at h'
theorem YM:∀{as:H Arg}{us:H Y}{i j:G}{x y:Arg}{u v:Y}{g:G},(ei as us).Nodup->as[i]? = B x->us[i]? = B u->as[j]? = B y->us[j]? = B v->
  mb x u=B g->mb y v=B g->i=j
 |z::as,t::us,0,0,_,_,_,_,_,_,_,_,_,_,_,_=>rfl
 |z::as,t::us,0,j+1,x,y,u,v,g,hn,hx,hu,hy,hv,h1,h2=>by
  simp at hx hu;subst hx;subst hu;have:=Fv (as:=as) (us:=us) (i:=j) (by simpa using hy) (by simpa using hv) h2;simp[ei,h1]at hn;exact absurd this hn.1
 |z::as,t::us,i+1,0,x,y,u,v,g,hn,hx,hu,hy,hv,h1,h2=>by
  simp at hy hv;subst hy;subst hv;have:=Fv (as:=as) (us:=us) (i:=i) (by simpa using hx) (by simpa using hu) h1;simp[ei,h2]at hn;exact absurd this hn.1
 |z::as,t::us,i+1,j+1,x,y,u,v,g,hn,hx,hu,hy,hv,h1,h2=>by
  have Nc:(ei as us).Nodup:=by simp only[ei]at hn;exact(z6.1 hn).2.1
  rw[YM Nc (i:=i) (j:=j) (by simpa using hx) (by simpa using hu) (by simpa using hy) (by simpa using hv) h1 h2]
 |[],_,_,_,_,_,_,_,_,_,h,_,_,_,_,_=>by simp at h
 |_::_,[],_,_,_,_,_,_,_,_,_,h,_,_,_,_=>by simp at h
theorem YN:∀{as:H Arg}{us:H Y}{i e:G}{x:TV}{u:Y}{g:G},as[i]? = B (.mv e x)->us[i]? = B u->blk u=B g->g∈mvOf as us
 |y::as,v::us,0,e,x,u,g,h,h',hg=>by
  simp at h h';subst h;subst h';simp[mvOf,hg]
 |y::as,v::us,i+1,e,x,u,g,h,h',hg=>by
  have:=YN (as:=as) (us:=us) (i:=i) (by simpa using h) (by simpa using h') hg;cases y<;>simp[mvOf,this]
 |[],_,_,_,_,_,_,h,_,_=>by simp at h
 |_::_,[],_,_,_,_,_,_,h',_=>by simp at h'
theorem jEd{args:H Arg}{vals:H Y}(ha:All2 (oO S w) args vals)(ew:(ei args vals).Nodup)(hS:∀g o,S g o->g<w.heap.size)(hlen:args.length=np)(hN:np<=N.n) :
  Rel N np S w (qX args vals) (St.init args) ⟨vals.toArray++Ù (N.n-vals.toArray.size) undef,[]⟩ w S (γ0 vals)/\du (St.init args):=by
 have xE:vals.length=np:=by rw[<-ha.length,hlen]
 have CB:∀i u,vals[i]? = B u->(vals.toArray++Ù (N.n-vals.toArray.size) undef).getD i undef=u:=by
  simp_all[List.getElem?_eq_some_iff,Array.getElem?_append_left]
 have sT:∀i u,vals[i]? = B u->γ0 vals (i*64)=u:=by grind[γ0]
 have wz:∀i u,vals[i]? = B u->γ0 vals (i*64+63)=u:=by grind[γ0]
 have fU:∀k b,(St.init args).bx k = .live b->∃i x u,args[i]? = B x/\vals[i]? = B u/\oO S w x u/\((k=i*64/\ob (B x) = .live b)\/(k=i*64+63/\vE (B x) = .live b)):=by
  intro k b hb;simp only[St.init]at hb;split at hb
  .rename_i hk;cases hx:args[k/64]? with
   |none=>grind[ob]
   |some x=>obtain⟨u,hu,kR⟩:=ha.get _ x hx;grind
  .split at hb
   .rename_i hk;cases hx:args[k/64]? with
    |none=>grind[vE]
    |some x=>obtain⟨u,hu,kR⟩:=ha.get _ x hx;grind
   .simp at hb
 have tH:∀{x:Arg}{b:Bx},vE (B x) = .live b->∃e t xs,x = .mv e ⟨.list t,xs⟩/\b = .lst e t xs false:=by
  intro x b hb;cases x with
  |mv e y=>obtain⟨t,v⟩:=y;cases t<;>simp[vE]at hb;grind
  |_=>simp[vE]at hb
 have Fw:∀i x,args[i]? = B x->(St.init args).bx (i*64+63)=vE (B x):=by grind[St.init]
 have qY:∀i x,args[i]? = B x->(St.init args).bx (i*64)=ob (B x):=by grind[St.init]
 have hblk:∀x u b,ob (B x) = .live b->mb x u=blk u:=by intro x u b hb;cases x<;>first|rfl|simp[ob]at hb
 refine⟨⟨?_,rfl,?_,?_,?_,?_,λ_ _ h=>h,λ_ _ h=> .inl h,hS,λ_ _ _=>rfl,jh _,rfl,rfl,rfl,?_,λg o h=>by simp[qX]at h,λi v h=>by simp[qX]at h⟩,?_⟩
 .simp;omega
 .intro i
  have fp:(St.init args).sl i=match args[i]? with
   |some a=> .one (HR i a)
   |none=> .one (.one .dead):=rfl
  rw[fp];cases hx:args[i]? with
  |none=>exact⟨trivial,λh=>absurd rfl h⟩
  |some x=>
   obtain⟨u,hu,kR⟩:=ha.get i x hx;show bS S w (γ0 vals) (St.init args).bx (HR i x) _;rw[CB i u hu];have hb:=qY i x hx;cases x with
   |v x=>exact Co kR
   |ref ls=>obtain⟨g,cur,e,h1,_⟩:=id kR;exact⟨⟨by rw[hb];simp[ob],by rw[h1];rfl,λb _=>⟨g,(sT i u hu).trans h1,h1⟩⟩,λ_=>by rw[h1];rfl⟩
   |rl e x=>obtain⟨t,xs,rfl,cd,_⟩:=id kR;have df:One u:=cd.one;exact⟨⟨by rw[hb];simp[ob],df,λb _=>(sT i u hu).symm⟩,λ_=>df⟩
   |ip ls=>obtain⟨g,o,cs,h1,_⟩:=id kR;exact⟨kR,λ_=>by rw[h1];rfl⟩
   |clo f caps=>obtain⟨cv,h1,_⟩:=id kR;exact⟨kR,λ_=>by rw[h1];rfl⟩
   |mv e x=>obtain⟨t,xs,rfl,cd,_⟩:=id kR.1;have df:One u:=cd.one;have aZ:=Fw i _ hx;exact⟨⟨by rw[aZ];simp[vE],df,λb _=>(wz i u hu).symm⟩,λ_=>df⟩
 .intro k b hb;obtain⟨i,x,u,hx,hu,kR,⟨rfl,dn⟩|⟨rfl,dn⟩⟩:=fU k b hb
  .cases x with
   |ref ls=>simp only[ob,BS.live.injEq]at dn;subst dn;exact MF (sT i u hu) kR
   |rl e x=>obtain⟨t,xs,rfl,_⟩:=id kR;simp only[ob,BS.live.injEq]at dn;subst dn;exact Cn (sT i u hu) kR
   |_=>simp[ob]at dn
  .obtain⟨e,t,xs,rfl,rfl⟩:=tH dn;exact Cn (wz i u hu) kR.1
 .intro k b g hb hg;obtain⟨i,x,u,hx,hu,kR,⟨rfl,dn⟩|⟨rfl,dn⟩⟩:=fU k b hb
  .rw[sT i u hu,<-hblk x u b dn]at hg;refine .inr ⟨Fv hx hu hg,?_⟩;grind[parK]
  .obtain⟨e,t,xs,rfl,rfl⟩:=tH dn;rw[wz i u hu]at hg;exact .inl (.inr ⟨YN hx hu hg,Fv (x:= .mv e ⟨.list t,xs⟩) hx hu hg⟩)
 .intro k k' b b' g bD hb aZ hg aP
  have Fx:∀k b g,(St.init args).bx k = .live b->blk (γ0 vals k)=B g->∃i x u,args[i]? = B x/\vals[i]? = B u/\mb x u=B g/\((k=i*64/\ob (B x) = .live b)\/(k=i*64+63/\vE (B x) = .live b)):=by
   intro k b g hb hg;obtain⟨i,x,u,hx,hu,kR,⟨rfl,dn⟩|⟨rfl,dn⟩⟩:=fU k b hb
   .grind
   .obtain⟨e,t,xs,rfl,rfl⟩:=tH dn;rw[wz i u hu]at hg;exact⟨i,_,u,hx,hu,hg,.inr ⟨rfl,dn⟩⟩
  obtain⟨i,x,u,hx,hu,h1,h2⟩:=Fx k b g hb hg;obtain⟨j,y,v,hy,hv,h3,h4⟩:=Fx k' b' g aZ aP;have dT:=YM ew hx hu hy hv h1 h3;subst dT;rw[hx]at hy;cases hy;rcases h2 with⟨rfl,h2⟩|⟨rfl,h2⟩<;>rcases h4 with⟨rfl,h4⟩|⟨rfl,h4⟩
  .exact bD rfl
  .obtain⟨e,t,xs,rfl,rfl⟩:=tH h4;simp[ob]at h2
  .obtain⟨e,t,xs,rfl,rfl⟩:=tH h2;simp[ob]at h4
  .exact bD rfl
 .intro k v hv;simp only[qX,Fu]at hv;split at hv
  .rename_i hk;split at hv
   .rename_i x hx;split at hv
    .rename_i hr;have hi:k/64<args.length:=(List.getElem?_eq_some_iff.1 hx).1;have bC:k=(k/64)*64:=aa;refine⟨by simp[parK,hk];omega,?_,?_⟩
     .rw[bC,qY _ x hx];cases x with
      |rl e y=>obtain⟨u,hu,kR⟩:=ha.get _ _ hx;obtain⟨t,xs,rfl,_⟩:=kR;simp[ob]
      |ref ls=>simp[ob]
      |_=>simp[Ax]at hr
     grind
    .simp at hv
   .simp at hv
  .simp at hv
 .intro i;show ((match args[i]? with|some a=>Slot.one (HR i a)|none=> .one (.one .dead)):Slot).bare=X;split<;>rfl
theorem IJ{α β:Type}{P:Á}(f:α->Sem β):∀{rs:H α}{zs:H β},All2 (λr z=>(f r).run P w = .ok z w) rs zs->(rs.mapM f).run P w = .ok zs w
 |[],[],_=>ae
 |r::rs,z::zs,h=>by
  simp only[List.mapM_cons,Ý,h.1,Ò,IJ f h.2,Þ]
 |[],_::_,h=>h.elim
 |_::_,[],h=>h.elim
def Uns(b:Bx):Prop:=(∃ls,b = .cell ls U)\/∃e t xs,b = .lst e t xs U
theorem IK{P:Á}{E:Env}(hT:cP P E.T)(hR:Rel N np S0 w0 refs σ a w S γ){r:Î}{c:Cel}(h:zC E σ r=B c) :
  ∃z,((match r with
   |.tmp t=>pure (a.tmps.getD t undef)
   |.cell x t=>do loadVar t (<-asAddr (a.tmps.getD x undef)):Sem Y)).run P w = .ok z w/\bS S w γ σ.bx c z:=by
 cases r with
 |tmp t=>
  simp only[zC]at h;split at h
  .rename_i c' hc;simp only[j5]at h;subst h;have:=hR.slot t;rw[hc]at this;exact⟨_,ae,this⟩
  .simp at h
 |cell x t=>
  simp only[zC]at h;split at h
  .rename_i ti y ht hy;have:=hR.slot x;rw[hy]at this;obtain⟨z,hz,iU⟩:=Wq hT hR (RdR.msk λ_=> .inl rfl) ht h this.1;refine⟨z,?_,iU⟩;show (do loadVar t (<-asAddr (a.tmps.getD x undef)):Sem Y).run P w=_
   have hu:∃ad,a.tmps.getD x undef = .pointer (B ad):=by
    generalize a.tmps.getD x undef=u at hz
    cases u with
    |pointer o=>
     cases o with
     |some ad=>exact⟨ad,rfl⟩
     |none=>simp_all[î,ã]
    |_=>simp[î,ã]at hz
   grind[î,ã,asAddr]
  .simp at h
theorem IL{rd:G->BS}(hR:Rel N np S0 w0 refs σ a w S γ)(ba:RdF np σ rd):∀{ks:H SoK}{ls:H Leaf}{r:H RL}{n:H G}{v:Ups}{zs:H Y},soOf rd ks ls=B (r,n,v)->
  All2 (bF S w γ σ.bx) ls zs->(∀z∈zs,One z)->FrzL np σ.bx v/\(∀k∈n,(∃b,σ.bx k = .live b/\Uns b)/\parK np k=U)/\pQ r zs=(n.filterMap λk=>blk (γ k))/\
   ∀S',dI S w S' w->Froz σ.bx γ S' w v->(∀k∈n,∀g,blk (γ k)=B g->∀o,¬S' g o)->All2 (Ia S' w) r zs
 |[],[],r,n,v,zs,h,ha,h1=>by
  simp[soOf]at h;obtain⟨rfl,rfl,rfl⟩:=h;cases zs with
  |nil=>exact⟨.nil,ae,rfl,λ_ _ _ _=>trivial⟩
  |cons _ _=>exact ha.elim
 |.d t::ks,l::ls,r,n,v,zs,h,ha,h1=>by
  cases zs with
  |nil=>exact ha.elim
  |cons z zs=>
  simp only[soOf]at h;split at h
  .rename_i x u r' n' v' hx hr;cases hP:t.leafy with
   |false=>rw[hP]at h;simp at h
   |true=>
   rw[hP,j6]at h;simp only[j5,j9]at h;obtain⟨rfl,rfl,rfl⟩:=h;obtain⟨f1,p1⟩:=xw ba hR.box hx ha.1;obtain⟨f2,k2,b2,p2⟩:=IL hR ba hr ha.2 (λy hy=>h1 y (by simp[hy]));refine⟨FrzL.app.2 ⟨f1,f2⟩,k2,by simp[pQ,b2],λS' aW fv hn=>?_⟩;obtain⟨g1,g2⟩:=Froz.app.1 fv;exact⟨⟨h1 z ae,p1 S' w aW g1⟩,p2 S' aW g2 hn⟩
  .simp at h
 |.own e t::ks,l::ls,r,n,v,zs,h,ha,h1=>by
  cases zs with
  |nil=>exact ha.elim
  |cons z zs=>
  cases l with
  |nil=>
   simp only[soOf]at h;split at h
   .rename_i r' n' v' hr;cases hm:isM e with
    |true=>rw[hm]at h;simp at h
    |false=>
    rw[hm,j7]at h;simp only[j5,j9]at h;obtain⟨rfl,rfl,rfl⟩:=h;have hz:z = .slice Â 0 0:=ha.1;subst hz;obtain⟨f2,k2,b2,p2⟩:=IL hR ba hr ha.2 (λy hy=>h1 y (by simp[hy]));refine⟨f2,k2,by simp[pQ,blk,b2],λS' aW fv hn=>⟨⟨t,[],rfl,.inl ⟨hm,[],⟨ae,.inl ⟨rfl,rfl⟩⟩,trivial⟩,λg hg=>by simp[blk]at hg⟩,p2 S' aW fv hn⟩⟩
   .simp at h
  |ol k=>
   simp only[soOf]at h;split at h
   .rename_i e' b xs hk;cases he:Nat.beq e' e with
    |false=>rw[he]at h;simp at h
    |true=>
    rw[he,j6]at h;split at h
    .rename_i r' n' v' hr;simp only[j5,j9]at h;obtain⟨rfl,rfl,rfl⟩:=h;have hp:=ba.par hk;have hk:=ba.ok.live hk;have hz:=ha.1.2.2 _ hk;obtain⟨f2,k2,b2,p2⟩:=IL hR ba hr ha.2 (λy hy=>h1 y (by simp[hy]));refine⟨f2,λk' bC=>?_,?_,λS' aW fv hn=>⟨⟨b,xs,rfl,by rw[hz];exact(hR.box k _ hk).1.keep aW (λ_ _=>rfl),λg hg=>hn k ae g (by rw[<-hz];exact hg)⟩,p2 S' aW fv (λk' bC=>hn k' (by simp[bC]))⟩⟩
     .rcases jb.1 bC with rfl|bC
      .exact⟨⟨_,hk,.inr ⟨_,_,_,rfl⟩⟩,hp⟩
      .exact k2 k' bC
     .simp only[pQ,hz,vk];rw[b2];cases blk (γ k)<;>rfl
    .simp at h
   .simp at h
  |_=>simp[soOf]at h
 |[],_::_,r,n,v,zs,h,_,_=>by simp[soOf]at h
 |.d _::_,[],r,n,v,zs,h,_,_=>by simp[soOf]at h
 |.own _ _::_,[],r,n,v,zs,h,_,_=>by simp[soOf]at h
theorem jIk{P:Á}{E:Env}(hT:cP P E.T)(hR:Rel N E.np S0 w0 refs σ a w S γ){rd:G->BS}(ba:RdF E.np σ rd){own:Æ}{t:G}{c:Cel}{v:RV}{ks:H G}{u:Ups}{z:Y}(h:rvOf E rd own t c=B (v,ks,u))(hc:bS S w γ σ.bx c z) :
  FrzL E.np σ.bx u/\(∀k∈ks,(∃b,σ.bx k = .live b/\Uns b)/\parK E.np k=U)/\mE v z=(ks.filterMap λk=>blk (γ k))/\
   ∀S',dI S w S' w->Froz σ.bx γ S' w u->(∀k∈ks,∀g,blk (γ k)=B g->∀o,¬S' g o)->rS S' w v z:=by
 unfold rvOf at h;split at h
 .rename_i k;split at h
  .rename_i ls hk;split at h
   .rename_i xs u1 h1;simp only[j5,j9]at h;obtain⟨rfl,rfl,rfl⟩:=h;have hp:=ba.par hk;have hk:=ba.ok.live hk;obtain⟨g,hg,hz⟩:=hc.1.2.2 _ hk;obtain⟨g',cur,e,aP,hh,fe,_⟩:=hR.box k _ hk;rw[hg]at aP;simp at aP;subst aP;obtain⟨hf,xI⟩:=zW ba h1 fe;refine⟨hf,λk' bC=>by simp at bC;subst bC;exact⟨⟨_,hk,.inl ⟨_,rfl⟩⟩,hp⟩,?_,λS' aW fv hn=>⟨g,cur,e,hz,hh,by grind[HT],?_⟩⟩;all_goals grind[mE,oo,blk]
   .simp at h
  .simp at h
 .rename_i f caps;simp only[j5,j9]at h;obtain⟨rfl,rfl,rfl⟩:=h;obtain⟨⟨cv,hz,aD⟩,_⟩:=hc;exact⟨.nil,ae,by simp[mE,oo],λS' aW _ _=>⟨cv,hz,aD.mono λ_ _ h=>kY.keep aW h⟩⟩
 .split at h
  .rename_i ti ht;split at h
   .rename_i ty bJ;split at h
    .split at h
     .rename_i ls;split at h
      .rename_i r n u1 CN;simp only[j5,j9]at h;obtain⟨rfl,rfl,rfl⟩:=h;obtain⟨cs,hz,aD,df⟩:=hc;subst hz;obtain⟨f1,k1,b1,p1⟩:=IL hR ba CN aD df;exact⟨f1,k1,b1,λS' aW fv hn=>⟨cs,rfl,p1 S' aW fv hn⟩⟩
      .simp at h
     .rename_i el db _;simp only[j5,j9]at h;obtain⟨rfl,rfl,rfl⟩:=h;have hz:z = .slice Â 0 0:=hc.1;subst hz;exact⟨.nil,ae,by simp[mE,oo,blk],λS' _ _ _=>⟨el,[],rfl,.inl ⟨L5 hT ht,[],⟨ae,.inl ⟨rfl,rfl⟩⟩,trivial⟩,λg hg=>by simp[blk]at hg⟩⟩
     .rename_i k db _;split at h
      .rename_i e el xs hk;simp only[j5,j9]at h;obtain⟨rfl,rfl,rfl⟩:=h;have hp:=ba.par hk;have cF:=ba.ok.nm hk;have hk:=ba.ok.live hk;have hz:=hc.1.2.2 _ hk;obtain⟨css,aS,aD,_⟩:=jE cF (hR.box k _ hk);refine⟨.nil,λk' bC=>by simp at bC;subst bC;exact⟨⟨_,hk,.inr ⟨_,_,_,rfl⟩⟩,hp⟩,?_,λS' aW _ hn=>⟨el,xs,rfl,by rw[hz];exact(hR.box k _ hk).1.keep aW (λ_ _=>rfl),λg hg=>hn k ae g (by rw[<-hz];exact hg)⟩⟩;grind[mE,oo]
      .simp at h
     .simp at h
    .split at h
     .rename_i x u1 hx;simp only[j5,j9]at h;obtain⟨rfl,rfl,rfl⟩:=h;obtain⟨hf,hp,_⟩:=Eh ba hR.box hx hc;exact⟨hf,ae,by simp[mE,oo],λS' aW fv _=>hp S' w aW fv⟩
     .simp at h
   .simp at h
  .simp at h
theorem YO{P:Á}{E:Env}(hT:cP P E.T)(hR:Rel N E.np S0 w0 refs σ a w S γ):∀{os:H Æ}{rs:H Î}{ts:H G}{vs:H RV}{ks:H G}{u:Ups},rK E σ os rs ts=B (vs,ks,u)->
  ∃zs,All2 (λ(r:Î) z=>((match r with
   |.tmp t=>pure (a.tmps.getD t undef)
   |.cell x t=>do loadVar t (<-asAddr (a.tmps.getD x undef)):Sem Y)).run P w = .ok z w) rs zs/\
  FrzL E.np σ.bx u/\(∀k∈ks,(∃b,σ.bx k = .live b/\Uns b)/\parK E.np k=U)/\gC vs zs=(ks.filterMap λk=>blk (γ k))/\
   ∀S',dI S w S' w->Froz σ.bx γ S' w u->(∀k∈ks,∀g,blk (γ k)=B g->∀o,¬S' g o)->All2 (rS S' w) vs zs
 |os,[],ts,vs,ks,u,h=>by
  simp[rK]at h;obtain⟨rfl,rfl,rfl⟩:=h;exact⟨[],trivial,.nil,ae,rfl,λ_ _ _ _=>trivial⟩
 |os,r::rs,ts,vs,ks,u,h=>by
  simp only[rK]at h;split at h
  .rename_i c hc;split at h
   .rename_i v k1 u1 hv;split at h
    .rename_i mq k2 u2 om;simp only[j5,j9]at h;obtain⟨rfl,rfl,rfl⟩:=h;obtain⟨z,hz,iU⟩:=IK hT hR hc;obtain⟨f1,p1,n1,r1⟩:=jIk hT hR (Af (RdR.msk λ_=> .inl rfl)) hv iU;obtain⟨zs,kO,f2,p2,n2,r2⟩:=YO hT hR om;refine⟨z::zs,⟨hz,kO⟩,FrzL.app.2 ⟨f1,f2⟩,λk hk=>?_,?_,λS' aW fv hn=>?_⟩
     .rcases ji.1 hk with hk|hk
      .exact p1 k hk
      .exact p2 k hk
     .simp[gC,n1,n2]
     .obtain⟨g1,g2⟩:=Froz.app.1 fv;exact⟨r1 S' aW g1 (λk hk=>hn k (by simp[hk])),r2 S' aW g2 (λk hk=>hn k (by simp[hk]))⟩
    .simp at h
   .simp at h
  .simp at h
theorem NO(hR:Rel N np S0 w0 refs σ a w S γ):∀{as:H Arg}{us:H Y}{i:G}{os:H Out}{u:Ups},outs np σ i as=B (os,u)->as.length=us.length->
  (∀(j:G)(x:Arg)(v:Y),as[j]? = B x->us[j]? = B v->Ax x=X->γ ((i+j)*64)=v)->
  FrzL np σ.bx u/\∀S',dI S w S' w->Froz σ.bx γ S' w u->(∀(j:G)(x:Arg)(v:Y)(g:G),as[j]? = B x->us[j]? = B v->Ax x=X->(∃b,σ.bx ((i+j)*64) = .live b/\Uns b)->blk v=B g->∀o,¬S' g o)->mF S' w as us os
 |[],us,i,os,u,h,hl,_=>by
  simp[outs]at h;obtain⟨rfl,rfl⟩:=h;cases us with
  |nil=>exact⟨.nil,λ_ _ _ _=>trivial⟩
  |cons _ _=>simp at hl
 |x::as,[],i,os,u,h,hl,_=>by simp at hl
 |x::as,v::us,i,os,u,h,hl,hg=>by
  simp only[outs]at h;split at h
  .rename_i rT u' h'
   obtain⟨f1,r1⟩:=NO hR (i:=i+1) h' (by simpa using hl) (λj y z hy hz hr=>by
    have:=hg (j+1) y z (by simpa using hy) (by simpa using hz) hr;rwa[show i+1+j=i+(j+1) by omega])
   have fh:∀S',dI S w S' w->Froz σ.bx γ S' w u'->(∀(j:G)(x':Arg)(v':Y)(g:G),(x::as)[j]? = B x'->(v::us)[j]? = B v'->Ax x'=X->(∃b,σ.bx ((i+j)*64) = .live b/\Uns b)->blk v'=B g->∀o,¬S' g o)->mF S' w as us rT:=by intro S' aW fv hn;refine r1 S' aW fv (λj y z g hy hz hr hb hgz=>?_);exact hn (j+1) y z g (by simpa using hy) (by simpa using hz) hr (by rwa[show i+(j+1)=i+1+j by omega]) hgz
   split at h
   .rename_i ls;have NP:γ (i*64)=v:=hg 0 _ v rfl rfl rfl;split at h
    .rename_i ls' hb;split at h
     .rename_i xs u2 hx;simp only[j5,j9]at h;obtain⟨rfl,rfl⟩:=h;obtain⟨g,cur,e,h1,h2,h3,_⟩:=hR.box _ _ hb;obtain⟨f2,r2⟩:=zW (Af (RdR.msk λ_=> .inl rfl)) hx h3;refine⟨FrzL.app.2 ⟨f2,f1⟩,λS' aW fv hn=>?_⟩;obtain⟨g1,g2⟩:=Froz.app.1 fv;have YP:v = .pointer (B ⟨g,0,Â⟩):=by rw[<-NP];exact h1
      exact⟨⟨g,cur,e,YP,h2,by rw[HT h3 (r2 S' w aW g1)];exact r2 S' w aW g1,hn 0 _ v g rfl rfl rfl ⟨_,hb,.inl ⟨ls',rfl⟩⟩ (by rw[YP];rfl)⟩,fh S' aW g2 hn⟩
     .simp at h
    .simp at h
   .rename_i e y;have NP:γ (i*64)=v:=hg 0 _ v rfl rfl rfl;split at h
    .rename_i e' t xs hb;split at h
     .rename_i cH;obtain⟨rfl,CO⟩:=cH;simp only[j5,j9]at h;obtain⟨rfl,rfl⟩:=h;have aS:=(hR.box _ _ hb).1;rw[NP]at aS;refine⟨f1,λS' aW fv hn=>⟨⟨t,xs,rfl,aS.keep aW (λ_ _=>rfl),λg aP=>hn 0 _ v g rfl rfl rfl ⟨_,hb,.inr ⟨_,t,xs,rfl⟩⟩ aP⟩,CO.symm,fh S' aW fv hn⟩⟩
     .simp at h
    .simp at h
   .rename_i NQ NR;simp only[j5,j9]at h;obtain⟨rfl,rfl⟩:=h;refine⟨f1,λS' aW fv hn=>?_⟩;have:=fh S' aW fv hn;cases x with
    |ref ls=>exact absurd rfl (NQ ls)
    |rl e y=>exact absurd rfl (NR e y)
    |_=>exact this
  .simp at h
theorem YQ{x:Arg}{u:Y}{g:G}(h:oO S w x u)(hr:mb x u=B g):∀o,¬S g o:=by
 cases x with
 |ref ls=>obtain⟨g',cur,e,h1,_,_,h4⟩:=h;have Cg:blk u=B g:=hr;grind[blk]
 |rl e y=>obtain⟨t,xs,_,_,h4⟩:=h;exact h4 g hr
 |mv e y=>obtain⟨⟨t,xs,_,_,h4⟩,_⟩:=h;exact h4 g hr
 |_=>simp[mb]at hr
theorem NS:∀{as:H Arg}{us:H Y}{g:G},g∈ei as us->∃(i:G)(x:Arg)(u:Y),as[i]? = B x/\us[i]? = B u/\mb x u=B g
 |[],_,_,h=>by simp[ei]at h
 |_::_,[],_,h=>by simp[ei]at h
 |x::as,u::us,g,h=>by
  simp only[ei,ji,Option.mem_toList]at h;rcases h with h|h
  .exact⟨0,x,u,rfl,rfl,h⟩
  .obtain⟨i,y,v,h1,h2,h3⟩:=NS h;exact⟨i+1,y,v,by simpa using h1,by simpa using h2,h3⟩
theorem NU(zs:H Y):(if h:zs.toArray.size=1 then zs.toArray[0] else .tuple zs.toArray)=nH zs:=by
 match zs with
 |[]=>rfl
 |[z]=>rfl
 |z::z'::zs=>simp[nH]
theorem jEe{P:Á}{E:Env}(hT:cP P E.T)(hR:Rel N np S0 w0 refs σ a w S γ){rs:H Î}{vs mq:H RV}{zs:H Y}
  (kO:All2 (λ(r:Î) z=>((match r with
   |.tmp t=>pure (a.tmps.getD t undef)
   |.cell x t=>do loadVar t (<-asAddr (a.tmps.getD x undef)):Sem Y)).run P w = .ok z w) rs zs) (h:nilV E σ rs vs=B mq) :
  (∀S' w',All2 (rS S' w') vs zs->All2 (rS S' w') mq zs)/\gC mq zs=gC vs zs/\(∀m,mq=[.hd m]->vs=[.hd m])/\∀ns s,mq=[.raw ns s]->vs=[.raw ns s]:=by
 unfold nilV at h;split at h
 .simp_all
 .split at h
  .rename_i r x;split at h
   .rename_i ls hc;split at h
    .rename_i hn;simp only[j5]at h;subst h;obtain⟨z,hz,iU⟩:=IK hT hR hc;cases zs with
     |nil=>exact kO.elim
     |cons z' zs=>
      cases zs with
      |cons _ _=>exact kO.2.elim
      |nil=>
       have zO:z'=z:=by
        have h1:=hz.symm.trans kO.1
        simp_all
       subst zO;obtain⟨cs,hu,aD,_⟩:=iU;refine⟨λS' w' hv=>⟨⟨hv.1,λnJ oZ i hi z hzi=>?_⟩,trivial⟩,rfl,λm hm=>by simp at hm,λns s hm=>by simp at hm⟩;rw[hu]at oZ;simp only[Value.agg.injEq]at oZ;subst oZ;have hl:=jw.1 hn i hi;cases YR:ls[i]? with
       |none=>simp_all
       |some l=>rw[YR]at hl;obtain⟨z2,NV,qK⟩:=aD.get i l YR;rw[hzi]at NV;simp only[j5]at NV;subst NV;cases l<;>first|exact qK|simp at hl
    .simp at h
   .simp at h
  .simp at h
theorem jsH{E:Env}{os:H Æ}{rs:H Î}{ts:H G}{vs:H RV}{ks:H G}{u:Ups}(h:rK E σ os rs ts=B (vs,ks,u))(m:G):vs≠[.hd m]:=by
 cases rs with
 |nil=>grind[rK]
 |cons r rs=>
  simp only[rK]at h;split at h
  .split at h
   .rename_i v k1 u1 hv;split at h
    .simp only[j5,j9]at h;rw[<-h.1];intro he;have:v = .hd m:=by grind
     subst this;unfold rvOf at hv;split at hv
     .grind
     .simp at hv
     .split at hv;all_goals grind
    .simp at h
   .simp at h
  .simp at h
theorem jqQ{E:Env}{os:H Æ}{rs:H Î}{ts:H G}{vs:H RV}{ks:H G}{u:Ups}(h:rK E σ os rs ts=B (vs,ks,u))(ns:H G)(s:Snap):vs≠[.raw ns s]:=by
 cases rs with
 |nil=>grind[rK]
 |cons r rs=>
  simp only[rK]at h;split at h
  .split at h
   .rename_i v k1 u1 hv;split at h
    .simp only[j5,j9]at h;rw[<-h.1];intro he;have:v = .raw ns s:=by grind
     subst this;unfold rvOf at hv;split at hv
     .grind
     .simp at hv
     .split at hv;all_goals grind
    .simp at h
   .simp at h
  .simp at h
theorem jIl{P:Á}{E:Env}(hT:cP P E.T){fn:Func}{args:H Arg}{vals:H Y}{σ':St}{a':À}{w':Z}{S':aX}{γ':G->Y}(hR:Rel N E.np S w (qX args vals) σ' a' w' S' γ')
  (ha:All2 (oO S w) args vals)(hS:∀g o,S g o->g<w.heap.size)(kQ:¬E.rw=X)(II:E.hd=X){ret:Ret}(dg:vG E fn args σ'=B ret){R:Type}{k:Ret->O R}{r:R}(hk:k ret=B r) :
  ∃v,(results fn a'.tmps).run P w' = .ok v w'/\∃ret,k ret=B r/\∃v' S' vs,Ñ v = .returned v'/\Ic w S args vals ret v' w' S' vs:=by
 have fq:∀(j:G)(x:Arg)(v:Y),args[j]? = B x->vals[j]? = B v->Ax x=X->γ' ((0+j)*64)=v:=by
  intro j x v hx hv hr;refine(hR.par ((0+j)*64) v ?_).2.2
  simp_all[qX,Fu]
 unfold vG at dg;rw[if_neg kQ,if_pos II]at dg;unfold V6 at dg;split at dg
 .rename_i e x as r0 qZ;split at dg
  .rename_i l os u' hc s9;split at dg
   .rename_i m hm;simp only[j5]at dg;subst dg;obtain⟨z,hz,iU⟩:=IK (P:=P) hT hR hc;obtain⟨f2,r2⟩:=NO hR s9 ha.length fq;obtain⟨S2,cC,dp,sX,dq⟩:=oE u' σ' S' hR f2;cases vals with
    |nil=>exact ha.elim
    |cons v0 vs0=>
    have h0:γ' 0=v0:=by have:=fq 0 _ v0 rfl rfl rfl;simpa using this
    have oP:∀k,parK E.np k=X->u'.any (λy=>y.1==k)=false:=by
     intro k hk;rw[v6];intro y hy he;simp only[vu]at he;have:=(f2 y hy).1
     simp_all
    have vU:∀k b,u'.any (λy=>y.1==k)=U->σ'.bx k = .live b->Uns b->∀g,blk (γ' k)=B g->∀o,¬S2 g o:=by
     intro k b hk hb nK g hg o;have gm:(σ'.upd u').bx k = .live b:=(l9 _ _ hk).trans hb;have dn:=cC.box k b gm;rcases nK with⟨ls,rfl⟩|⟨e,t,xs,rfl⟩
     .obtain⟨g',cur,e,aP,_,_,_,hS,_⟩:=dn;grind[blk]
     .exact(dn.2 g hg).1 rfl o
    have eL:=r2 S2 dp sX (λj x v g hx hv hr NW hg=>by
     obtain⟨b,hb,hu⟩:=NW
     have hp:parK E.np ((0+j)*64)=true:=by
      refine(hR.par ((0+j)*64) v ?_).1
      simp_all[qX,Fu]
     grind)
    have df:One z:=iU.2 (by grind[hdOf])
    have th:∃ad len cap,v0 = .slice ad len cap/\m<=len/\z = .slice ad m cap:=by
     unfold hdOf at hm;split at hm
     .split at hm
      .rename_i e1 t1 H9 hb;split at hm
       .simp at hm
       .rename_i cF;simp only[j5]at hm;subst hm;obtain⟨css,aS,_⟩:=jE (by simpa using cF) (hR.box 0 _ hb);have zO:=iU.1.2.2 _ hb;rcases aS.2 with⟨hg,hn⟩|⟨g,cap,cur,hg,_⟩;all_goals grind
      .simp at hm
     .split at hm
      .rename_i i e1 t1 H9 hb;simp only[j5]at hm;subst hm;obtain⟨_,hi,ad,cap,hg,zO⟩:=iU.1.2.2 _ hb;grind
      .simp at hm
     .simp at hm
    have aU:(results fn a'.tmps).run P w' = .ok (nH [z]) w':=by
     have hm:=IJ (P:=P) (w:=w') (rs:=[r0]) (zs:=[z]) (λr=>((match r with
      |.tmp t=>pure (a'.tmps.getD t undef)
      |.cell x t=>do loadVar t (<-asAddr (a'.tmps.getD x undef)):Sem Y))) ⟨hz,trivial⟩
     grind[results,Ï,Ý,õ,Ò,Þ,NU]
    refine⟨nH [z],aU,⟨[.hd m],os⟩,hk,nH [z],S2,[z],rfl,⟨rfl,⟨df,trivial⟩,λg hg=>by grind[gC,oo,mE],by simp[gC,oo,mE],eL,λg o hs=>⟨cC.ext g o hs,?_⟩,λg o h=>(cC.new g o h).imp id (λh=>h.imp id And.left),cC.here,cC.below,cC.grow,cC.os,cC.tape,cC.output,λns s he=>by simp at he,?_⟩⟩
    .refine È (cC.below g (hS g o hs) (λhm=>?_));obtain⟨i,x,v,hx,hv,hb⟩:=NS hm;obtain⟨v',gP,NX⟩:=ha.get i x hx;rw[hv]at gP;simp at gP;subst gP;exact YQ NX hb o hs
    .intro m' lv;have:m'=m:=by simpa using lv.symm
     subst this;obtain⟨ad,len,cap,h1,h2,h3⟩:=th;exact⟨ad,len,cap,by rw[h1];rfl,h2,by rw[h3]⟩
   .simp at dg
  .simp at dg
 .simp at dg
theorem YS{P:Á}{E:Env}(hT:cP P E.T)(hR:Rel N np S0 w0 refs σ a w S γ):∀{rs:H Î}{cs:H Cel},D9 E σ rs=B cs->
  ∃zs,All2 (λ(r:Î) z=>((match r with
   |.tmp t=>pure (a.tmps.getD t undef)
   |.cell x t=>do loadVar t (<-asAddr (a.tmps.getD x undef)):Sem Y)).run P w = .ok z w) rs zs/\All2 (bS S w γ σ.bx) cs zs
 |[],cs,h=>by
  simp only[D9,j5]at h;subst h;exact⟨[],trivial,trivial⟩
 |r::rs,cs,h=>by
  simp only[D9]at h;split at h
  .rename_i c nJ hc dm;simp only[j5]at h;subst h;obtain⟨z,h1,h2⟩:=IK (P:=P) hT hR hc;obtain⟨zs,h3,h4⟩:=YS hT hR dm;exact⟨z::zs,⟨h1,h3⟩,h2,h4⟩
  .simp at h
theorem YT{bx bx':G->BS}{ns:H G}(hb:∀k∈ns,bx' k=bx k){l:Leaf}{u:Y}(hl:vF ns l=X)(h:bF S w γ bx l u):bF S w γ bx' l u:=by
 cases l with
 |dead=>trivial
 |nil=>exact h
 |d t v=>exact h
 |ol k=>have hk:=hb k (by simpa[vF]using hl);exact⟨by rw[hk];exact h.1,h.2.1,by rw[hk];exact h.2.2⟩
 |bp k c=>have hk:=hb k (by simpa[vF]using hl);exact⟨by rw[hk];exact h.1,h.2.1,by rw[hk];exact h.2.2⟩
 |_=>simp[vF]at hl
theorem IM{bx bx':G->BS}{ns:H G}(hb:∀k∈ns,bx' k=bx k):∀{ls:H Leaf}{us:H Y},ls.all (vF ns)=X->All2 (bF S w γ bx) ls us->All2 (bF S w γ bx') ls us
 |[],[],_,_=>trivial
 |l::ls,u::us,hl,h=>by
  simp only[z7,jc]at hl;exact⟨YT hb hl.1 h.1,IM hb hl.2 h.2⟩
 |[],_::_,_,h=>h.elim
 |_::_,[],_,h=>h.elim
theorem jwF{bx bx':G->BS}{ns:H G}(hb:∀k∈ns,bx' k=bx k){c:Cel}{u:Y}(hl:LY ns c=X)(h:bS S w γ bx c u):bS S w γ bx' c u:=by
 cases c with
 |one l=>exact⟨YT hb hl h.1,h.2⟩
 |st ls=>obtain⟨cs,hu,ha,h1⟩:=h;exact⟨cs,hu,IM hb hl ha,h1⟩
 |av n b xs=>exact h
theorem jGR{P:Á}{E:Env}(hT:cP P E.T){fn:Func}{args:H Arg}{vals:H Y}{σ':St}{a':À}{w':Z}{S':aX}{γ':G->Y}(hR:Rel N E.np S w (qX args vals) σ' a' w' S' γ')
  (ha:All2 (oO S w) args vals)(hS:∀g o,S g o->g<w.heap.size)(kQ:E.rw=X){ret:Ret}(dg:vG E fn args σ'=B ret){R:Type}{k:Ret->O R}{r:R}(hk:k ret=B r) :
  ∃v,(results fn a'.tmps).run P w' = .ok v w'/\∃ret,k ret=B r/\∃v' S' vs,Ñ v = .returned v'/\Ic w S args vals ret v' w' S' vs:=by
 unfold vG at dg;rw[if_pos kQ]at dg;unfold V7 at dg;split at dg
 case h_2=>simp at dg
 rename_i cs dm;split at dg
 case isFalse=>simp at dg
 rename_i cH;simp only[jc]at cH;obtain⟨ew,hns,eu,cW⟩:=cH;simp only[j5]at dg;subst dg;obtain⟨zs,kO,iU⟩:=YS hT hR dm;have aU:(results fn a'.tmps).run P w' = .ok (nH zs) w':=by have hm:=IJ (P:=P) (w:=w') _ kO;unfold results;rw[Ï];grind[Ý,õ,Ò,Þ,NU]
 have hlen:(cs.map Item.s++E.rn.map λk=>Item.b (σ'.bx k)).length-E.rn.length=cs.length:=ae;have hC:rawC E.rn (cs.map Item.s++E.rn.map λk=>Item.b (σ'.bx k))=cs:=by unfold rawC;rw[hlen,List.take_left' ae,ÿ];exact List.map_id' _
 have hU:rawU E.rn (cs.map Item.s++E.rn.map λk=>Item.b (σ'.bx k))=E.rn.map λk=>(k,σ'.bx k):=by
  unfold rawU;rw[hlen,List.drop_left' ae,ÿ];generalize E.rn=l;induction l with
  |nil=>rfl
  |cons x l ih=>simp only[qc,Û,ih];rfl
 have fU:∀k∈E.rn,(emp.upd (E.rn.map λk=>(k,σ'.bx k))).bx k=σ'.bx k:=λk hk=>
  Cm _ emp (by simp_all[Function.comp_def,zX]) (k7.2 ⟨k,hk,rfl⟩)
 have qY:∀k b,(emp.upd (E.rn.map λk=>(k,σ'.bx k))).bx k = .live b->k∈E.rn/\σ'.bx k = .live b:=by grind[l9,emp]
 have hclB:∀k b,σ'.bx k = .live b->k∈E.rn->eZ S' w' γ' (emp.upd (E.rn.map λk=>(k,σ'.bx k))).bx k b:=by
  intro k b hb hk;have h1:=hR.box k b hb;have h2:=(Bool.and_eq_true_iff.1 (jw.1 hns k hk)).2;rw[hb]at h2;cases b with
  |cell ls f=>obtain⟨g,cur,e,q1,q2,q3,q4⟩:=h1;exact⟨g,cur,e,q1,q2,IM fU h2 q3,q4⟩
  |lst e t xs f=>exact h1
  |arr n t xs=>exact h1
  |row e t n ls=>obtain⟨q1,⟨nJ,q2,q3,q4⟩,q5⟩:=h1;exact⟨q1,⟨nJ,q2,IM fU h2 q3,q4⟩,q5⟩
 have yj:All2 (bS S' w' γ' (emp.upd (E.rn.map λk=>(k,σ'.bx k))).bx) cs zs:=by
  have go:∀(cs:H Cel)(zs:H Y),cs.all (LY E.rn)=X->All2 (bS S' w' γ' σ'.bx) cs zs->All2 (bS S' w' γ' (emp.upd (E.rn.map λk=>(k,σ'.bx k))).bx) cs zs:=by
   intro cs;induction cs with
   |nil=>intro zs _ h;cases zs with|nil=>trivial|cons _ _=>exact h.elim
   |cons c cs ih=>
    intro zs eu h;cases zs with
    |nil=>exact h.elim
    |cons z zs=>simp only[z7,jc]at eu;exact⟨jwF fU eu.1 h.1,ih zs eu.2 h.2⟩
  simp_all
 have Ay:ei args vals=[]:=by
  clear aU yj hR;induction args generalizing vals with
  |nil=>cases vals<;>rfl
  |cons x xs ih=>
   cases vals with
   |nil=>rfl
   |cons v vs=>simp only[z7,jc]at cW;have:=ih ha.2 cW.2;cases x<;>simp_all[ei,mb,LZ]
 have eL:mF S' w' args vals []:=by
  clear aU yj hR Ay;induction args generalizing vals with
  |nil=>cases vals with|nil=>trivial|cons _ _=>exact ha.elim
  |cons x xs ih=>
   cases vals with
   |nil=>exact ha.elim
   |cons v vs=>simp only[z7,jc]at cW;have:=ih ha.2 cW.2;cases x<;>first|exact this|(simp[LZ]at cW)
 refine⟨nH zs,aU,_,hk,nH zs,S',[nH zs],rfl,⟨rfl,⟨trivial,trivial⟩,λg hg=>by grind[gC,oo,mE],by simp[gC,oo,mE],eL,λg o hs=>⟨hR.ext g o hs,?_⟩,λg o h=>(hR.new g o h).imp id (λh=>h.imp id And.left),hR.here,
  hR.below,hR.grow,hR.os,hR.tape,hR.output,λns s he=>?_,λm hm=>by simp at hm⟩⟩
 .refine È (hR.below g (hS g o hs) (λhm=>?_));have hm:g∈ei args vals:=hm
  simp_all
 .simp only[vr,RV.raw.injEq,y9]at he;obtain⟨rfl,rfl⟩:=he;refine⟨γ',zs,rfl,by simp_all,λk b hb=>?_,λk b g hb hg=>?_,λk k' b b' g bD hb aZ hg aP=>?_⟩
  .simp_all
  .rw[hU]at hb;obtain⟨h1,h2⟩:=qY k b hb;rcases hR.own k b g h2 hg with h|h
   .rcases h with h|h
    .exact h
    .have hm:g∈ei args vals:=h.2
     simp_all
   simp_all
  .rw[hU]at hb aZ;exact hR.apart k k' b b' g bD (qY k b hb).2 (qY k' b' aZ).2 hg aP
theorem NY{P:Á}{fn:Func}{n:G}{R:Ending->Z->Prop}:∀(ds:H Deferred){refs:Refs}{σ:St}{a:À}{w:Z}{S:aX}{γ:G->Y},refs.ds=ds->CI w0 refs->Rel N np S0 w0 refs σ a w S γ->
  (∀w2,Rel N np S0 w0 ⟨refs.blks,refs.val,[],λ_=>Â,λ_=>Â,refs.mv⟩ σ { a with defers:=[] } w2 S γ->LeavesIn (FR Â) n P fn a.tmps R [] .returning w2)->LeavesInM (FR Â) n P fn a.tmps R ds .returning w
 |[],refs,σ,a,w,S,γ,hd,hm,hR,h=>h w (hR.swap rfl rfl hR.size rfl hR.slot (λg o h=>by simp at h) (λi v h=>by simp at h))
 |d::ds,refs,σ,a,w,S,γ,hd,hm,hR,h=>by
  obtain⟨ew,aD⟩:=hm;rw[hd]at ew;obtain⟨D,rfl,h1,h2⟩:=aD d (by rw[hd];simp);refine⟨ae,.inl ⟨D,_,rfl,run_takeDeferred (hR.kept D _ h2).1,?_⟩⟩;have bI:=hR.putO (o':= .deferred Â) h2 h1 rfl rfl
  have cC:=bI.swap (a':={ a with defers:=ds }) (refs':=⟨refs.blks,refs.val,ds,λg=>if g=D then Â else refs.kw g,refs.fix,refs.mv⟩) rfl rfl hR.size rfl bI.slot (λg o hg=>bI.kept g o (by
   simp only at hg ⊢;split at hg
   .simp at hg
   .rename_i e;rw[if_neg e];exact hg)) bI.fix
  refine NY (a:={ a with defers:=ds }) (refs:=⟨refs.blks,refs.val,ds,λg=>if g=D then Â else refs.kw g,refs.fix,refs.mv⟩) ds rfl ⟨(qk.1 ew).2,λd' iH=>?_⟩ cC (λw2 hw=>h w2 hw);obtain⟨D',rfl,q1,q2⟩:=aD d' (by rw[hd];simp[iH]);refine⟨D',rfl,q1,?_⟩;show (if D'=D then Â else refs.kw D')=_;rw[if_neg,q2]
  rintro rfl
  exact(qk.1 ew).1 iH
theorem YU{P:Á}{E:Env}(hT:cP P E.T)(hC:lk P E.C)(hF:CFun E.C)(iD:P.follows .mixedOrders=X){f:G}{fn:Func}{c:Ô}(hf:P.funcs[f]? = B fn)(hb:fn.body=B c)(hN:fn.ntmps=E.N.n)(nP:E.N.pin=λ_=>U)(jX:∀f t,E.bw f=B t->BwK P f t)(Az:E.np<=E.N.n)
  (cF : (fn.name == "runtime.NumGoroutine") = U) (hL : ∀ x ∈ gj 0 c, CH E x.1 x.2 ∧ MrOK E x.1 x.2) : FnOK P f (fun args _ k => xo E fn args k) := by
 intro args R k r h;refine⟨⟨fn,hf,by rw[hb];rfl,cF⟩,?_⟩;intro w S vals ha ew hS;by_cases hlen:args.length=E.np
 case neg=>simp[xo,hlen]at h
 case pos=>
 simp only[xo,hb,hlen,if_true]at h;have xE:vals.length=E.np:=by rw[<-ha.length,hlen]
 obtain⟨hR0,ij⟩:=jEd (N:=E.N) ha ew hS hlen Az;refine jGO (n:=0) (ro:=Â) (callsIn_of_wp_marks hf hb trivial ?_);rw[hN];refine wpIn_mono (jzI iD c (ro:=Â) hT hC hF jX (.inr ⟨rfl,nP⟩) 0 0 ⟨vc,λd hd=>by simp[qX]at hd⟩ hL hR0 ij h) ?_
 rintro e a0 w1 ⟨refs',ex,σ',S',γ',hle,_,rfl,bI,gZ,hk⟩
 have fW:∀(hk:(match vG E fn args σ' with|some r=>k r|none=>Â)=B r)(w':Z),Rel E.N E.np S w ⟨refs'.blks,refs'.val,[],λ_=>Â,λ_=>Â,refs'.mv⟩ σ' { a0 with defers:=[] } w' S' γ'->∃v,(results fn a0.tmps).run P w' = .ok v w'/\
   ∃ret,k ret=B r/\∃v' S' vs,Ñ v = .returned v'/\Ic w S args vals ret v' w' S' vs:=by
  intro hk w' hR;have hR:Rel E.N E.np S w (qX args vals) σ' { a0 with defers:=[] } w' S' γ':=hR.swap hle.blks.symm hle.val.symm hR.size rfl hR.slot (λg o h=>by simp[qX]at h) (λi v h=>by simp[qX]at h) hle.mv.symm;generalize yk:({ a0 with defers:=[] }:À)=a' at hR;have tq:a0.tmps=a'.tmps:=by rw[<-yk]
  rw[tq];cases dg:vG E fn args σ' with
  |none=>simp[dg]at hk
  |some ret=>
  simp only[dg]at hk;by_cases kQ:E.rw=X
  .exact jGR hT hR ha hS kQ dg hk
  by_cases II:E.hd=X
  .exact jIl hT hR ha hS kQ II dg hk
  have AA:∃vs ks u os u',rK E σ' E.ro fn.results.toList fn.resultTypes.toList=B (vs,ks,u)/\outs E.np σ' 0 args=B (os,u')/\
    pL ks=X/\(u++u').all (λe=> !ks.contains e.1)=X/\∃mq,nilV E σ' fn.results.toList vs=B mq/\ret=⟨mq,os⟩:=by
   grind[vG]
  obtain⟨vs,ks,u,os,u',om,s9,zN,MO,mq,NZ,rfl⟩:=AA;obtain⟨zs,kO,f1,p1,n1,r1⟩:=YO hT hR om;have gp:(∀S' w',All2 (rS S' w') vs zs->All2 (rS S' w') mq zs)/\gC mq zs=gC vs zs/\(∀m,mq=[.hd m]->vs=[.hd m])/\∀ns s,mq=[.raw ns s]->vs=[.raw ns s]:=jEe hT hR kO NZ
  have fq:∀(j:G)(x:Arg)(v:Y),args[j]? = B x->vals[j]? = B v->Ax x=X->γ' ((0+j)*64)=v:=by
   intro j x v hx hv hr;refine(hR.par ((0+j)*64) v ?_).2.2
   simp_all[qX,Fu]
  obtain⟨f2,r2⟩:=NO hR s9 ha.length fq;obtain⟨S2,cC,dp,sX,dq⟩:=oE (u++u') σ' S' hR (FrzL.app.2 ⟨f1,f2⟩);obtain⟨N0,N1⟩:=Froz.app.1 sX
  have vU:∀k b,(u++u').any (λy=>y.1==k)=U->σ'.bx k = .live b->Uns b->∀g,blk (γ' k)=B g->∀o,¬S2 g o:=by
   intro k b hk hb nK g hg o;have gm:(σ'.upd (u++u')).bx k = .live b:=(l9 _ _ hk).trans hb;have dn:=cC.box k b gm;rcases nK with⟨ls,rfl⟩|⟨e,t,xs,rfl⟩
   .obtain⟨g',cur,e,aP,_,_,_,hS,_⟩:=dn;grind[blk]
   .exact(dn.2 g hg).1 rfl o
  have IP:∀k∈ks,(u++u').any (λy=>y.1==k)=false:=by grind
  have oP:∀k,parK E.np k=X->(u++u').any (λy=>y.1==k)=false:=by
   intro k hk;rw[v6];intro y hy he;simp only[vu]at he;have:=(FrzL.app.2 ⟨f1,f2⟩ y hy).1
   simp_all
  have Fy:=r1 S2 dp N0 (λk hk g hg=>by
   grind)
  have eL:=r2 S2 dp N1 (λj x v g hx hv hr NW hg=>by
   obtain⟨b,hb,hu⟩:=NW;have hj:j<args.length:=(List.getElem?_eq_some_iff.1 hx).1;exact vU ((0+j)*64) b (oP _ (by simp[parK];omega)) hb hu g (by grind))
  have aU:(results fn a'.tmps).run P w' = .ok (nH zs) w':=by have hm:=IJ (P:=P) (w:=w') _ kO;unfold results;rw[Ï];simp only[Ý,õ];grind[Ò,Þ,NU]
  have hnh:∀m,mq=[.hd m]->∃ad len cap,Ib args vals=B (.slice ad len cap)/\m<=len/\zs=[.slice ad m cap]:=λm hm=>by
   grind[jsH]
  have hnr:∀ns s,mq=[.raw ns s]->MD w.heap.size S2 w' ns s (nH zs):=λns s hm=>absurd (gp.2.2.2 ns s hm) (jqQ om ns s);refine⟨nH zs,aU,⟨mq,os⟩,hk,nH zs,S2,zs,rfl,⟨rfl,gp.1 _ _ Fy,λg hg=>?_,?_,eL,λg o hs=>⟨cC.ext g o hs,?_⟩,λg o h=>(cC.new g o h).imp id (λh=>h.imp id And.left),cC.here,cC.below,cC.grow,cC.os,cC.tape,cC.output,hnr,hnh⟩⟩
  .rw[gp.2.1,n1]at hg;obtain⟨k,bC,hkg⟩:=List.mem_filterMap.1 hg;obtain⟨⟨b,hb,_⟩,hp⟩:=p1 k bC;rcases hR.own k b g hb hkg with h|h
   .exact h.imp id And.left
   grind
  .grind[ME,zX]
  .refine È (cC.below g (hS g o hs) (λhm=>?_));obtain⟨i,x,v,hx,hv,hb⟩:=NS hm;obtain⟨v',gP,NX⟩:=ha.get i x hx;rw[hv]at gP;simp at gP;subst gP;exact YQ NX hb o hs
 cases ex with
 |exit i=>simp at hk
 |normal=>exact NY a0.defers bI.defers.symm hle.marks bI (λw2 hw=>fW hk w2 hw)
 |ret=>exact NY a0.defers bI.defers.symm hle.marks bI (λw2 hw=>fW hk w2 hw)
end
section
variable{E:Env}
def LFun(L:G->Snap->(R:Type)->(Ex->Snap->O R)->O R):Prop:=
 ∀b s,∃o:O (Ex×Snap),∀(R:Type)(k:Ex->Snap->O R),L b s R k=o.bind λx=>k x.1 x.2
def MFun(M:G->Snap->(R:Type)->(Snap->O R)->O R):Prop:=∀b s,∃o:O Snap,∀(R:Type)(k:Snap->O R),M b s R k=o.bind k
def Det{α:Type}(f:(R:Type)->(α->O R)->O R):Prop:=∃o:O α,∀(R:Type)(k:α->O R),f R k=o.bind k
theorem Det.val{α:Type}(x:α):Det (λ_ k=>k x):=⟨B x,λ_ _=>rfl⟩
theorem Det.no{α:Type}:Det (λR (_:α->O R)=>Â):=⟨Â,λ_ _=>rfl⟩
theorem Det.cond{α:Type}{f g:(R:Type)->(α->O R)->O R}(b:Æ)(h:Det f)(h':Det g):Det (λR k=>cond b (f R k) (g R k)):=by
 cases b with
 |true=>exact h
 |false=>exact h'
theorem Det.bind{α β:Type}{f:(R:Type)->(α->O R)->O R}{g:α->(R:Type)->(β->O R)->O R}(h:Det f)(h':∀a,Det (g a)):Det (λR k=>f R λa=>g a R k):=by
 obtain⟨o,ho⟩:=h;cases o with
 |none=>exact⟨Â,λR k=>ho R _⟩
 |some a=>obtain⟨o',Iu⟩:=h' a;exact⟨o',λR k=>(ho R _).trans (Iu R k)⟩
theorem Det.congr{α:Type}{f g:(R:Type)->(α->O R)->O R}(h:Det f)(e:∀R k,g R k=f R k):Det g:=by
 obtain⟨o,ho⟩:=h;exact⟨o,λR k=>(e R k).trans (ho R k)⟩
theorem YV{v:Ú}{f:Ú->(R:Type)->(St->O R)->O R}(h:∀j,Det (f j)):∀m j,Det (λR k=>spl v (λi=>f i R k) m j)
 |0,_=> .no
 |m+1,j=> .cond _ (h _) (YV h m (j+1))
theorem YW(σ:St)(o:Ä):Det (λR (k:St->O R)=>pre σ o k):=by
 unfold pre;split
 .rename_i t kk v n _;exact YV (f:=λj R k=>k (σ.setS t (.one (.one (.d (.int kk) j))))) (λj=> .val _) n 0
 .exact .val _
theorem IQ(hF:CFun E.C)(hz:E.nz=U)(p:Æ)(σ:St)(act:H (G×Æ))(o:Ä):Det (λR (k:St->O R)=>run1 E p σ act o k):=by
 unfold run1;refine Det.bind (YW σ o) λσ=>?_;simp only[hz,j7];split
 .exact .no
 .exact .cond _ (.val _) .no
 .rename_i f args mk _;refine Det.bind (f:=λR k=>E.C f args R k) (hF f args) λret=>?_;split
  .exact .val _
  .exact .no
theorem YX:∀(l:H (G×Æ))(σ:St),Det (λR (k:St×Æ->O R)=>xg l σ λa b=>k (a,b))
 |[],σ=> .val _
 |(s,w)::r,σ=>by
  simp only[xg]
  refine(Det.bind (YX r σ) (g:=λx R k=>match x.2 with
   |true=>match LN r x.1 s with
    |some v=>cond v (k (x.1.setS s (.one (.one (.d .bool X))),w)) (k (x.1.setS s (.one (.one (.d .bool U))), !w))
    |none=>Â
   |false=>k (x.1,U)) λx=>?_).congr λR k=>rfl
  obtain⟨σ1,a⟩:=x;cases a with
  |true=>
   dsimp only
   split
   .exact .cond _ (.val _) (.val _)
   .exact .no
  |false=>exact .val _
theorem jBC(hF:CFun E.C)(hz:E.nz=U)(ops:Ã Ä)(σ:St)(o:Ä):Det (λR (k:St->O R)=>DU E ops σ o k):=by
 unfold DU;split
 .split
  .exact IQ hF hz _ _ _ _
  .exact .no
 .rename_i g _
  have sE:Det (λR (k:St->O R)=>xg (σ.chain 40 g) σ λσ' a=>match a with
    |true=>run1 E X σ' (σ.chain 40 g) o k
    |false=>k (σ'.put o.dst (.one (.one .dead)))):=by
   refine(Det.bind (YX (σ.chain 40 g) σ) (g:=λx R k=>match x.2 with
    |true=>run1 E X x.1 (σ.chain 40 g) o k
    |false=>k (x.1.put o.dst (.one (.one .dead)))) λx=>?_).congr λR k=>rfl
   obtain⟨σ1,a⟩:=x;cases a with
   |true=>exact IQ hF hz _ _ _ _
   |false=>exact .val _
  dsimp only
  split
  .split
   .exact .cond _ (.val _) .no
   .exact sE
  .exact sE
theorem N2(hF:CFun E.C)(hz:E.nz=U):∀(l:H Ä)(σ:St),Det (λR (k:St->O R)=>qE E l σ k)
 |[],σ=> .val _
 |o::os,σ=>by
  simp only[qE];split
  .exact Det.bind (IQ hF hz U σ [] o) λσ'=>N2 hF hz os σ'
  .exact .no
theorem YY(hF:CFun E.C)(hz:E.nz=U)(ops:Ã Ä):∀(l:H Ä)(σ:St),Det (λR (k:St->O R)=>BR E ops l σ k)
 |[],σ=> .val _
 |o::os,σ=>by
  simp only[BR];split
  .exact Det.bind (jBC hF hz ops σ o) λσ'=>YY hF hz ops os σ'
  .exact .no
theorem jwG(hF:CFun E.C)(hz:E.nz=U)(ops:Ã Ä)(σ:St):Det (λR (k:St->O R)=>rJ E ops σ k):=by
 unfold rJ;split
 .exact N2 hF hz _ _
 .exact YY hF hz _ _ _
theorem YZ(hF:CFun E.C)(hz:E.nz=U)(σ:St)(o:Ä):Det (λR (k:St->O R)=>runK E σ o k):=by
 unfold runK;split
 .rename_i c σ' _;exact .cond c (.val σ') .no
 .exact IQ hF hz U σ [] o
theorem N3(hF:CFun E.C)(hz:E.nz=U):∀(l:H Ä)(σ:St),Det (λR (k:St->O R)=>vA E l σ k)
 |[],σ=> .val σ
 |[o],σ=>by
  simp only[vA];split
  .exact YZ hF hz σ o
  .exact .no
 |o::o2::os,σ=>by
  simp only[vA];split
  .split
   .split
    .exact .cond _ (N3 hF hz os _) .no
    .exact .no
   .exact Det.bind (YZ hF hz σ o) λσ'=>N3 hF hz (o2::os) σ'
  .exact .no
theorem jBD(hF:CFun E.C)(hz:E.nz=U)(ops:Ã Ä)(σ:St):Det (λR (k:St->O R)=>DV E ops σ k):=by
 unfold DV;split
 .exact N3 hF hz _ _
 .exact .no
theorem N4(hF:CFun E.C)(hz:E.nz=U)(M Ai:H G)(σ:St)(o:Ä):Det (λR (k:St->O R)=>runD E M Ai σ o k):=by
 unfold runD;refine Det.bind (YW σ o) λσ=>?_;split
 .exact .no
 .split
  .exact .cond _ (.val _) .no
  .exact .no
 .rename_i f args mk _;refine Det.bind (f:=λR k=>E.C f args R k) (hF f args) λret=>?_;split
  .split
   .exact .val _
   .exact .no
  .exact .no
theorem jzJ(hF:CFun E.C)(hz:E.nz=U)(ops:Ã Ä)(M Ai:H G)(σ:St)(o:Ä):Det (λR (k:St->O R)=>DY E ops M Ai σ o k):=by
 unfold DY;split
 .exact N4 hF hz _ _ _ _
 .split
  .split
   .exact .cond _ (.cond _ (N4 hF hz _ _ _ _) (.val _)) (.cond _ (.val _) (N4 hF hz _ _ _ _))
   .exact .val _
   .exact .no
  .exact .no
theorem Y0(hF:CFun E.C)(hz:E.nz=U)(ops:Ã Ä)(cl:H G)(A:H (H G)):∀(l:H Ä)(i:G)(σ:St),Det (λR (k:St->O R)=>BT E ops cl A l i σ k)
 |[],_,σ=> .val _
 |o::os,i,σ=>by
  simp only[BT];split
  .exact Det.bind (jzJ hF hz ops _ _ σ o) λσ'=>Y0 hF hz ops cl A os (i+1) σ'
  .exact .no
theorem juQ(hF:CFun E.C)(hz:E.nz=U)(ops:Ã Ä)(A:H (H G))(σ:St):Det (λR (k:St->O R)=>DZ E ops A σ k):=by
 unfold DZ;split
 .exact Y0 hF hz _ _ _ _ _ _
 .exact .no
theorem N5(np:G):∀(gs:H Gh)(σ:St),Det (λR (k:St->O R)=>zA np gs σ k)
 |[],σ=> .val _
 |g::gs,σ=>by
  simp only[zA];split
  .exact .cond _ (N5 np gs _) .no
  .exact .no
theorem Y1{f:(R:Type)->G->St->(Ex->St->O R)->O R}(hf:∀i σ,Det (λR (k:Ex×St->O R)=>f R i σ λe σ'=>k (e,σ'))):∀(n i:G)(σ:St),
  Det (λR (k:Ex×St->O R)=>xk (f R) n i σ λe σ'=>k (e,σ'))
 |0,_,σ=> .no
 |n+1,i,σ=>by
  refine(Det.bind (hf i σ) (g:=λz R k=>match z.1 with
   |.normal=>xk (f R) n (i+1) z.2 λe σ'=>k (e,σ')
   |e=>k (e,z.2)) λz=>?_).congr λR k=>by
    simp only[xk];congr 1;try (funext e σ';cases e<;>rfl)
  obtain⟨e,σ'⟩:=z;cases e with
  |normal=>exact Y1 hf n (i+1) σ'
  |exit i=>exact .val _
  |ret=>exact .val _
theorem jzK(hF:CFun E.C)(hz:E.nz=U)(hM:MFun E.M)(x y:Ô)(σ:St):Det (λR (k:Ex×St->O R)=>D6 E x y σ λe σ'=>k (e,σ')):=by
 unfold D6;exact .cond _ .no .no
theorem jsJ:∀(c:Ô){E:Env}(_:CFun E.C)(_:E.nz=U)(_:LFun E.L/\MFun E.M)(b:G)(σ:St),Det (λR (k:Ex×St->O R)=>fP E b c σ λe σ'=>k (e,σ')):=by
 intro c;induction c with
 |skip=>intro E hF hz hL b σ;exact .val _
 |region id ops draw=>
  intro E hF hz hL b σ;cases draw with
  |true=>exact Det.bind (N5 E.np (E.pre id) σ) λσ1=>Det.bind (juQ hF hz ops (E.dw id) σ1) λσ'=> .val (Ex.normal,σ')
  |false=>exact Det.bind (N5 E.np (E.pre id) σ) λσ1=> .cond _ (Det.bind (jBD hF hz ops σ1) λσ'=> .val (Ex.normal,σ')) (Det.bind (jwG hF hz ops σ1) λσ'=> .val (Ex.normal,σ'))
 |seq x y tB tC=>
  intro E hF hz hL b σ;simp only[fP];refine .cond _ (jzK hF hz hL.2 x y σ) ?_
  refine(Det.bind (tB hF hz hL b σ) (g:=λz R k=>match z.1 with
   |.normal=>fP E b y z.2 λe σ'=>k (e,σ')
   |e=>k (e,z.2)) λz=>?_).congr λR k=>by
    congr 1
    try (funext e σ';cases e<;>rfl)
  obtain⟨e,σ'⟩:=z;cases e with
  |normal=>exact tC hF hz hL b σ'
  |exit i=>exact .val _
  |ret=>exact .val _
 |cond c x y tB tC=>
  intro E hF hz hL b σ;simp only[fP];split
  .exact .cond _ (tB hF hz hL b _) (tC hF hz hL b _)
  .exact .no
 |block id c ih=>
  intro E hF hz hL b σ
  refine(Det.bind (ih hF hz hL id σ) (g:=λz R k=>match z.1 with
   |.exit i=>if i=id then k (.normal,z.2) else k (.exit i,z.2)
   |e=>k (e,z.2)) λz=>?_).congr λR k=>by
    simp only[fP];congr 1;try (funext e σ';cases e<;>rfl)
  obtain⟨e,σ'⟩:=z;cases e with
  |normal=>exact .val _
  |exit i=>
   dsimp only
   split
   .exact .val _
   .exact .val _
  |ret=>exact .val _
 |loop c ih=>
  intro E hF hz hL b σ;simp only[fP];refine .cond _ .no (.cond _ ?_ ?_)
  .exact Y1 (f:=λR i σ k=>fP (E.offR i) b c σ k) (λi σ=>ih (E:=E.offR i) hF hz hL b σ) (E.un b) 0 σ
  split
  .rename_i s _;obtain⟨o,ho⟩:=hL.1 b s;exact Det.bind (f:=λR k=>E.L b s R λe s'=>k (e,s')) ⟨o,λR k=>ho R _⟩ (g:=λz R k=>k (z.1,dz E.np (E.keepX b z.1) z.2)) λz=> .val _
  .exact .no
 |rangeFunc g ps x y _ _=>
  intro E hF hz hL b σ;simp only[fP];split
  .split
   .rename_i kd _;split
    .rename_i s _;obtain⟨o,ho⟩:=hL.1 b (.s (.one (.d (.int .i64) (D1 kd (List.length _))))::s);exact Det.bind (f:=λR k=>E.L b _ R λe s'=>k (e,s')) ⟨o,λR k=>ho R _⟩ (g:=λz R k=>k (z.1,dz E.np (E.keepX b z.1) z.2)) λz=> .val _
    .exact .no
   .exact .no
  .exact .no
 |scope c ih=>intro E hF hz hL b σ;exact ih hF hz hL b σ
 |label l=>intro E hF hz hL b σ;exact .val _
 |exit i=>intro E hF hz hL b σ;exact .val _
 |ret=>intro E hF hz hL b σ;exact .val _
 |_=>intro E hF hz hL b σ;exact .no
theorem Fz(hF:CFun E.C)(hz:E.nz=U)(hL:LFun E.L/\MFun E.M)(c:Ô)(b:G)(σ:St):Det (λR (k:Ex×St->O R)=>fP E b c σ λe σ'=>k (e,σ')):=jsJ c hF hz hL b σ
theorem jwH(hF:CFun E.C)(hz:E.nz=U)(hL:LFun E.L/\MFun E.M)(b:G)(g:Ö)(ps:Ã G)(x y:Ô)(s:Snap) :
  Det (λR (k:O (H Item)×Ex×St->O R)=>D7 E b g ps x y s λp e σ'=>k (p,e,σ')):=by
 unfold D7;split
 .rename_i n s0;split
  .split
   .rename_i kd _;refine .cond _ (.val _) (.cond _ ?_ .no)
    refine(Det.bind (Fz (E:=E.rnd ps x y) hF hz hL x 0 _) (g:=λz R k=>match z.1 with
     |.normal=>fP (E.rnd ps x y) 0 y z.2 λe σ'=>k (B [.s (.one (.d (.int .i64) (D2 kd n)))],e,σ')
     |_=>Â) λz=>?_).congr λR k=>by
      congr 1
      try (funext e σ';cases e<;>rfl)
    obtain⟨e,σ'⟩:=z;cases e with
    |normal=>exact Det.bind (Fz (E:=E.rnd ps x y) hF hz hL y 0 σ') λz=> .val (_,z)
    |exit i=>exact .no
    |ret=>exact .no
   .exact .no
  .exact .no
 .exact .no
theorem jzL(hF:CFun E.C)(hz:E.nz=U)(hL:LFun E.L/\MFun E.M)(b:G)(p:MrP)(m:G)(s:Snap)(v:Ty)(q:Ú)(z:v.den):Det (λR (k:Snap->O R)=>HQ E b p m s v q z k):=by
 unfold HQ;refine Det.bind (N2 (E:=E.mrE p.it m) hF hz _ _) λσ1=>?_
 refine(Det.bind (Fz (E:=E.mrE p.it m) hF hz hL p.rest p.b6 σ1) (g:=λz R k=>cond (mrNx p.b6 z.1) (match kX E.np (E.keep b) z.2 with
  |some s'=>k s'
  |none=>Â) Â) λz=> .cond _ ?_ .no).congr λR k=>rfl
 split
 .exact .val _
 .exact .no
theorem jzM(hF:CFun E.C)(hz:E.nz=U)(hL:LFun E.L/\MFun E.M)(fn:Func)(args:H Arg):Det (λR (k:Ret->O R)=>xo E fn args k):=by
 unfold xo;split
 .split
  .rename_i c _
   refine(Det.bind (Fz hF hz hL c 0 (St.init args)) (g:=λz R k=>match z.1 with
    |.exit _=>Â
    |_=>match vG E fn args z.2 with
     |some r=>k r
     |none=>Â) λz=>?_).congr λR k=>rfl
   obtain⟨e,σ'⟩:=z;cases e<;>dsimp only<;>(try split)<;>first|exact .no|exact .val _
  .exact .no
 .exact .no
end
end Go.Lft
