/- New variables; stores into variables. -/
import Derived.Test.YtlnljpfkgigljaaGreatPOLA
import Derived.MapKept
open Option renaming some->D,none->U,map_some->à,isNone_iff_eq_none->ø
open _root_ renaming List->F,Nat->H,Option->Â,Array->Î,Bool->ä
open Go renaming Value->G,Program->À,TypeId->Ç,World->É
open Go.Result renaming andThen_ok->I
open Bool renaming and_eq_true->J,false->M,true->Ã,or_eq_false_iff->ê
open List renaming replicate->O,take->W,take_of_length_le->Y,eq_nil_of_length_eq_zero->Å,length_append->È,drop_of_length_le->Ë,mem_cons_of_mem->Í,length_take->Ò,flatten_cons->Ö,take_append_drop->Ø,drop->Ù,mem_of_mem_take->Ú,filterMap_cons->Ý,length->ß,any_eq_false->ã,take_append->å,mem_append->ì,take_take->î,getElem?_drop->ï,mem_cons_self->ð,any_cons->ò,ext_getElem?->ô,getElem?_map->õ,getElem?_eq_getElem->û,length_drop->ü,getElem_cons_drop->þ,take_left'->ÿ
open Nat renaming mul_le_mul_right->Z,le_refl->Ì,add_mul->Ï,zero_le->Ñ,le_trans->â,min_eq_left->ë
open Go.Sem renaming run_bind->Á,run_pure->Ä
open Go.Addr renaming add_lit->Æ
open Go.Value.slice renaming injEq->Ê
open Array renaming length_toList->Ð,range->æ,getElem?_toList->é,ext'->ý
open Go.Instr renaming buildSlice->Ó,fill->Ü,build->ç,findNow->è,mapUpdate->í,sliceAt->ö
open Go.Builtin renaming append_->Ô,firstCells->á,copy_->ù
open Go.MapKept renaming run_getObj_map->Õ,run_findKey->Þ,bytes_beq->ú
open Go.World renaming cell?_of_block->Û,ownsRow_nil->ó
open Iff renaming rfl->ñ
set_option linter.unusedVariables false
namespace Go.Lft
section
variable{N:NT}{np:H}{S0:j09}{w0:É}{refs:Refs}{σ:St}{a:Go.Act}{w:É}{S:j09}{γ:H->G}
def gset(γ:H->G)(n:H)(v:G):H->Value:=λk=>if k=n then v else γ k
theorem j0r(γ:H->G)(n:H)(v:G):gset γ n v n=v:=by simp[gset]
theorem j0p(γ:H->G){n k:H}(v:G)(h:k≠n):gset γ n v k=γ k:=by simp[gset,h]
theorem j8L(hR:Rel N np S0 w0 refs σ a w S γ)(o:Obj):j3r S w S (w.alloc o):=
 λg i h=>⟨h,World.cell?_alloc_lt w o ⟨g,i,U⟩ (hR.here g i h)⟩
theorem j4T{bx:H->BS}{k:H}{b:Bx}(h:j2m S w γ bx k b){g:H}(hg:blk (γ k)=D g):g<w.heap.size:=by
 cases b with
 |cell ls frz=>obtain⟨g',cur,e,h1,h2,_⟩:=h;rw[h1]at hg;simp[blk]at hg;subst hg;exact(Array.getElem?_eq_some_iff.1 h2).1
 |lst e t xs frz=>exact h.1.lt hg
 |arr n t xs=>obtain⟨g',cur,e,h1,h2,_⟩:=h;rw[h1]at hg;simp[blk]at hg;subst hg;exact(Array.getElem?_eq_some_iff.1 h2).1
 |row e t n ls=>
  obtain⟨_,⟨cs,h1,_⟩,_⟩:=h;rcases h1.2 with⟨hn,_⟩|⟨g',cap,cur,hv,_,hh,_⟩
  .rw[hn]at hg;simp[blk]at hg
  .rw[hv]at hg;simp[blk]at hg;subst hg;exact(Array.getElem?_eq_some_iff.1 hh).1
theorem jnE(hR:Rel N np S0 w0 refs σ a w S γ){n:H}(hn:σ.bx n = .free){o:Obj}{b:Bx}{v:G}(hv:∀g,blk v=D g->g=w.heap.size)
  (hb:BxLe γ σ.bx (gset γ n v) (σ.setB n (.live b)).bx->j2m S (w.alloc o) (gset γ n v) (σ.setB n (.live b)).bx n b) :
  Rel N np S0 w0 refs (σ.setB n (.live b)) a (w.alloc o) S (gset γ n v)/\BxLe γ σ.bx (gset γ n v) (σ.setB n (.live b)).bx:=by
 have hle:BxLe γ σ.bx (gset γ n v) (σ.setB n (.live b)).bx:=by
  intro k hk;have hne:k≠n:=by rintro rfl;exact hk hn
  rw[j07 σ _ hne,j0p γ v hne];exact⟨hk,rfl,λb hb=>⟨b,hb,.refl b⟩⟩
 have hst:=j8L hR o
 refine⟨Rel.step (bx':=(σ.setB n (.live b)).bx) hR hst hle ?_ ?_ ?_ hR.new ?_ ?_ ?_ hR.os hR.tape hR.output (λg hg _ h=>⟨heap_alloc_old w o hg,λk b' hb' hbk=>by
  by_cases hk:k=n
  .subst hk;rw[j0r]at hbk;have:=hv g hbk;omega
  .rw[j07 σ _ hk]at hb';rw[j0p γ v hk]at hbk;exact h k b' hb' hbk⟩),hle⟩
 .intro k b' hb';by_cases hk:k=n
  .subst hk;rw[j0B]at hb';simp at hb';subst hb';exact hb hle
  .rw[j07 σ _ hk]at hb';refine j2m.keep hst hle (j0p γ v hk) (λg hg=>⟨?_,λ_=>ñ⟩) (hR.box k b' hb');exact heap_alloc_old w o (j4T (hR.box k b' hb') hg)
 .intro k b' g hb' hg;by_cases hk:k=n
  .subst hk;rw[j0r]at hg;exact .inl (.inl (by rw[hv g hg];exact hR.grow))
  .rw[j07 σ _ hk]at hb';rw[j0p γ v hk]at hg;exact hR.own k b' g hb' hg
 .intro k k' b1 b2 g hne h1 h2 hg hg';by_cases hk:k=n
  .subst hk;have hk':k'≠k:=λh=>hne h.symm;rw[j0r]at hg;rw[j07 σ _ hk']at h2;rw[j0p γ v hk']at hg';have:=j4T (hR.box k' b2 h2) hg';rw[hv g hg]at this;omega
  .by_cases hk':k'=n
   .subst hk';rw[j0r]at hg';rw[j07 σ _ hk]at h1;rw[j0p γ v hk]at hg;have:=j4T (hR.box k b1 h1) hg;rw[hv g hg']at this;omega
   .rw[j07 σ _ hk]at h1;rw[j07 σ _ hk']at h2;rw[j0p γ v hk]at hg;rw[j0p γ v hk']at hg';exact hR.apart k k' b1 b2 g hne h1 h2 hg hg'
 .intro g i h;have:=hR.here g i h;simp;omega
 .intro g hg hr;rw[heap_alloc_old w o (by have:=hR.grow;omega)];exact hR.below g hg hr
 .have:=hR.grow;simp;omega
theorem jdR(hR:Rel N np S0 w0 refs σ a w S γ)(o:H):¬S w.heap.size o:=λh=>by have:=hR.here _ _ h;omega
theorem jnF(hR:Rel N np S0 w0 refs σ a w S γ){n:H}(hn:σ.bx n = .free){ls:F Leaf}{cur:Î G}{e:Ç}
  (hl:All2 (j08 S w γ σ.bx) ls cur.toList)(h1:∀u∈cur.toList,One u) :
  Rel N np S0 w0 refs (σ.setB n (.live (.cell ls M))) a (w.alloc (.cells cur e)) S (gset γ n (.pointer (D ⟨w.heap.size,0,U⟩)))/\
   j0n S (w.alloc (.cells cur e)) (gset γ n (.pointer (D ⟨w.heap.size,0,U⟩))) (σ.setB n (.live (.cell ls M))).bx (.one (.bp n 0)) (.pointer (D ⟨w.heap.size,0,U⟩)):=by
 obtain⟨h,hle⟩:=jnE hR hn (o:= .cells cur e) (b:= .cell ls M) (v:= .pointer (D ⟨w.heap.size,0,U⟩)) (λg hg=>by simp[blk]at hg;exact hg.symm) (λhle=>
  ⟨w.heap.size,cur,e,j0r _ _ _,heap_alloc_new w _,by rw[Y (Nat.le_of_eq hl.length.symm)];exact hl.mono (λx u hx=>j08.keep (j8L hR _) hle hx),λu hu=>h1 u (Ú hu),λ_ o=>jdR hR o,smp_⟩)
 refine⟨h,⟨by rw[j0B];simp,rfl,λb _=>⟨w.heap.size,j0r _ _ _,rfl⟩⟩,λ_=>rfl⟩
theorem jv4(hR:Rel N np S0 w0 refs σ a w S γ){n m:H}(hn:σ.bx n = .free){t:Ty}{xs:F t.den}{cur:Î G}{e:Ç}
  (hl:Rep S w (.arr m t) xs cur.toList) :
  Rel N np S0 w0 refs (σ.setB n (.live (.arr m t xs))) a (w.alloc (.cells cur e)) S (gset γ n (.pointer (D ⟨w.heap.size,0,U⟩)))/\
   j0n S (w.alloc (.cells cur e)) (gset γ n (.pointer (D ⟨w.heap.size,0,U⟩))) (σ.setB n (.live (.arr m t xs))).bx (.one (.bp n 0)) (.pointer (D ⟨w.heap.size,0,U⟩)):=by
 obtain⟨h,hle⟩:=jnE hR hn (o:= .cells cur e) (b:= .arr m t xs) (v:= .pointer (D ⟨w.heap.size,0,U⟩)) (λg hg=>by simp[blk]at hg;exact hg.symm) (λ_=>
  ⟨w.heap.size,cur,e,j0r _ _ _,heap_alloc_new w _,Rep.keep (j8L hR _) _ _ _ hl,λo=>jdR hR o⟩)
 refine⟨h,⟨by rw[j0B];simp,rfl,λb _=>⟨w.heap.size,j0r _ _ _,rfl⟩⟩,λ_=>rfl⟩
theorem jaJ{bx:H->BS}:∀(t:Ty),All2 (j08 S w γ bx) (jhL t) (jdM t)
 |.int _=>⟨rfl,trivial⟩
 |.bool=>⟨rfl,trivial⟩
 |.str=>⟨rfl,trivial⟩
 |.unit=>trivial
 |.wrap a=>jaJ a
 |.pair a b=>(jaJ a).append (jaJ b)
 |.list _=>⟨rfl,trivial⟩
 |.arr n a=>by
  show All2 _ ((List.range n).flatMap λ_=>jhL a) ((O n (jdM a)).flatten);induction n with
  |zero=>simp[All2]
  |succ n ih=>rw[List.range_succ,List.flatMap_append,List.replicate_succ',List.flatten_append];refine ih.append ?_;simpa using jaJ a
theorem j8t:∀(t:Ty),Rep S w t t.dflt (jdM t)
 |.int _=>rfl
 |.bool=>rfl
 |.str=>rfl
 |.unit=>rfl
 |.wrap a=>j8t a
 |.pair a b=>⟨_,_,rfl,j8t a,j8t b⟩
 |.list _=>⟨U,0,rfl,Ì _,by simp[maxLen],λ_=>rfl,λb hb=>by simp at hb⟩
 |.arr n a=>by
  refine⟨List.length_replicate,O n (jdM a),?_,rfl⟩;have hz:=j8t a
  have:∀n,All2 (λx c=>Rep S w a x c) (O n a.dflt) (O n (jdM a)):=by
   intro n;induction n with
   |zero=>exact trivial
   |succ n ih=>exact⟨hz,ih⟩
  exact this n
theorem jdS(hR:Rel N np S0 w0 refs σ a w S γ){k:H}{b b':Bx}(hk:σ.bx k = .live b){g:H}(hg:blk (γ k)=D g)(hS:∀o,¬S g o)(hsh:j1X b b')
  {old new:Î G}{e:Ç}(hh:w.heap[g]? = D (.cells old e (0,0)))
  (hb:BxLe γ σ.bx γ (σ.setB k (.live b')).bx->j3r S w S (w.setRow g new)->j2m S (w.setRow g new) γ (σ.setB k (.live b')).bx k b') :
  Rel N np S0 w0 refs (σ.setB k (.live b')) a (w.setRow g new) S γ:=by
 have hle:BxLe γ σ.bx γ (σ.setB k (.live b')).bx:=by
  intro k' hk';by_cases hkk:k'=k
  .subst hkk;rw[j0B];exact⟨smp_,rfl,λb1 hb1=>by simp at hb1;subst hb1;exact⟨b,hk,hsh⟩⟩
  .rw[j07 σ _ hkk];exact⟨hk',rfl,λb hb=>⟨b,hb,.refl b⟩⟩
 have hst:j3r S w S (w.setRow g new):=by
  intro g' o h;refine⟨h,cell_setRow_other w g new ⟨g',o,U⟩ ?_⟩
  rintro rfl
  exact hS o h
 have live':∀k' b1,(σ.setB k (.live b')).bx k' = .live b1->∃b2,σ.bx k' = .live b2:=by
  intro k' b1 h1;by_cases hkk:k'=k
  .subst hkk;exact⟨b,hk⟩
  .rw[j07 σ _ hkk]at h1;exact⟨b1,h1⟩
 have hlt:=(Array.getElem?_eq_some_iff.1 hh).1
 refine Rel.step (bx':=(σ.setB k (.live b')).bx) hR hst hle ?_ ?_ ?_ hR.new ?_ ?_ ?_ hR.os hR.tape hR.output (λg' _ _ h=>⟨setRow_other w g g' new (λe=>h k b hk (e▸hg)),λk' b1 h1=>by
  obtain⟨b2,h2⟩:=live' k' b1 h1;exact h k' b2 h2⟩)
 .intro k' b1 h1;by_cases hkk:k'=k
  .subst hkk;rw[j0B]at h1;simp at h1;subst h1;exact hb hle hst
  .rw[j07 σ _ hkk]at h1;refine j2m.keep hst hle rfl (λg' hg'=>⟨?_,λ_=>ñ⟩) (hR.box k' b1 h1);exact setRow_other w g g' new (λh=>hR.apart k' k b1 b g hkk h1 hk (h▸hg') hg)
 .intro k' b1 g' h1 hg';obtain⟨b2,h2⟩:=live' k' b1 h1;exact hR.own k' b2 g' h2 hg'
 .intro k1 k2 b1 b2 g' hne h1 h2 hg';obtain⟨b1',h1'⟩:=live' k1 b1 h1;obtain⟨b2',h2'⟩:=live' k2 b2 h2;exact hR.apart k1 k2 b1' b2' g' hne h1' h2' hg'
 .intro g' o h;rw[size_setRow];exact hR.here g' o h
 .intro g' hg' hr;rw[setRow_other w g g' new ?_]
  .exact hR.below g' hg' hr
  .rintro rfl
   rcases hR.own k b _ hk hg with h|h
   .exact h.no omg_ hr
   .exact hr h.1
 .rw[size_setRow];exact hR.grow
theorem jdT{R:Leaf->G->Prop}{ls new:F Leaf}{cs zs:F G}{c:H}(h:All2 R ls cs)(h':All2 R new zs) :
  All2 R (jdI ls c new) (cs.take c++zs++cs.drop (c+zs.length)):=by
 unfold jdI;rw[h'.length];exact((h.take c).append h').append (h.drop _)
theorem jh7{X zs:F G}{c n:H}(h:c+zs.length<=n)(h':n<=X.length):(X.take c++zs++X.drop (c+zs.length)).take n=(X.take n).take c++zs++(X.take n).drop (c+zs.length):=by
 have e1:(X.take n).take c=X.take c:=by rw[î,ë omg_]
 have e2:(X.take c++zs).length=c+zs.length:=sqo_;rw[e1,å,Y (by rw[e2];exact h),e2,List.drop_take]
theorem jmN{bx:H->BS}{b:Ty}:∀{ys:F (F b.den)}{css:F (F G)},All2 (λx c=>Rep S w (.list b) x c) ys css->All2 (j08 S w γ bx) (ys.map λy=> .d (.list b) y) css.flatten
 |[],[],_=>trivial
 |[],_::_,h=>h.elim
 |_::_,[],h=>h.elim
 |y::ys,c::css,h=>by
  have h1:Rep S w (.list b) y c:=h.1;have h2:c.length=1:=Rep.length _ _ _ h1;match c,h2 with
  |[v],_=>exact⟨h1,jmN h.2⟩
theorem jmO{α β:Type}(f:α->β)(d:α)(ys:F α):((List.range ys.length).map λi=>f (List.getD ys i d))=ys.map f:=by
 refine List.ext_getElem smp_ λi h1 h2=>?_;have h3:i<ys.length:=by simpa using h2
 simp[List.getD,h3]
theorem jal{bx:H->BS}{c:Cel}{ls:F Leaf}{z:G}(h:c.leaves=D ls)(hc:j0n S w γ bx c z) :
  All2 (j08 S w γ bx) ls z.cells.toList/\∀u∈z.cells.toList,One u:=by
 unfold Cel.leaves at h;split at h
 .simp at h
 .rename_i l hd;simp at h;subst h;have h1:=hc.2 hd;rw[jdP h1];exact⟨⟨hc.1,trivial⟩,λu hu=>by simp at hu;subst hu;exact h1⟩
 .simp at h;subst h;obtain⟨cs,rfl,ha,h1⟩:=hc;exact⟨ha,h1⟩
 .rename_i n b ys;simp only[j5]at h;obtain⟨cs,rfl,hn,css,ha,hcs⟩:=hc;have h0:ß ys=n:=hn;subst h0;have e:ls=ys.map λy=> .d (.list b) y:=h.symm.trans (jmO (λy:F b.den=>Leaf.d (.list b) y) [] ys);have e2:(Value.agg cs).cells.toList=cs.toList:=rfl;rw[e,e2];refine⟨?_,Rep.one (.arr _ (.list b)) ys cs.toList ⟨rfl,css,ha,hcs⟩⟩;rw[hcs];exact jmN ha
 .simp at h
theorem jew{m:H}:∀{l:F (F G)},(∀c∈l,c.length=m)->l.flatten.length=l.length*m
 |[],_=>smp_
 |c::l,h=>by
  have h1:=h c smp_;have h2:=jew (l:=l) (λd hd=>h d (Í _ hd));simp only[Ö,È,List.length_cons,Ï,Nat.one_mul];omega
theorem j2L:∀(u:Ups)(σ:St){k:H},u.any (λy=>y.1==k)=M->(σ.upd u).bx k=σ.bx k
 |[],_,_,_=>rfl
 |e::u,σ,k,h=>by
  simp only[ò,ê,beq_eq_false_iff_ne]at h;show ((σ.setB e.1 e.2).upd u).bx k=_;rw[j2L u _ h.2,j07 σ _ (λhh=>h.1 hh.symm)]
theorem All2.all_len{t:Ty}{xs:F t.den}{css:F (F G)}(h:All2 (λx c=>Rep S w t x c) xs css):∀c∈css,c.length=t.size:=by
 intro c hc;obtain⟨x,_,hx⟩:=h.mem_right c hc;grind[Rep.length]
theorem jqz{cur:F G}{css:F (F G)}{m n i c:H}{ci zs:F G}(hm:∀c∈css,c.length=m)(hn:css.length=n)(hcur:cur.take (n*m)=css.flatten)
  (hi:css[i]? = D ci)(hc:c+zs.length<=m) :
  (cur.take (i*m+c)++zs++cur.drop (i*m+c+zs.length)).take (n*m)=(css.set i (ci.take c++zs++ci.drop (c+zs.length))).flatten:=by
 have hlt:i<css.length:=(List.getElem?_eq_some_iff.1 hi).1;have hci:css[i]=ci:=(List.getElem?_eq_some_iff.1 hi).2;have hcl:ci.length=m:=hm ci (List.mem_of_getElem? hi);obtain⟨A,B,hA,hB,hAB⟩:∃A B:F (F G),A.length=i/\A.length+1+B.length=n/\css=A++ci::B:=by refine⟨css.take i,css.drop (i+1),sqo_,sqo_,?_⟩;grind[þ,Ø]
 have hmA:∀c∈A,c.length=m:=λd hd=>hm d (by rw[hAB];simp[hd]);have hmB:∀c∈B,c.length=m:=λd hd=>hm d (by rw[hAB];simp[hd]);have lA:A.flatten.length=i*m:=by rw[jew hmA,hA]
 have lB:=jew hmB
 have hset:css.set i (ci.take c++zs++ci.drop (c+zs.length))=A++(ci.take c++zs++ci.drop (c+zs.length))::B:=by
  simp_all
 have hdec:cur=A.flatten++(ci++(B.flatten++cur.drop (n*m))):=by grind[Ø]
 have hsp:ci=ci.take c++((ci.drop c).take zs.length++ci.drop (c+zs.length)):=by grind[Ø,List.drop_drop]
 have lp:(ci.take c).length=c:=sqo_;have lq:((ci.drop c).take zs.length).length=zs.length:=sqo_;have lr:(ci.drop (c+zs.length)).length=m-(c+zs.length):=by simp[hcl]
 generalize ci.take c=p at *
 generalize (ci.drop c).take zs.length=q at *
 generalize ci.drop (c+zs.length)=r at *
 generalize cur.drop (n*m)=tl at *
 have e1:cur.take (i*m+c)=A.flatten++p:=by grind
 have e2:cur.drop (i*m+c+zs.length)=r++(B.flatten++tl):=by grind[List.drop_left']
 grind[ÿ,È]
theorem jc9{P:À}{T:H->Â TyI}(hT:j1L P T){t:Ç}{ti:TyI}(ht:T t=D ti){g o:H}{z:G}{cur:Î G}{e:Ç}
  (hh:w.heap[g]? = D (.cells cur e (0,0)))(hs:z.cells.toList.length=ti.size)(hl:o+z.cells.toList.length<=cur.size)(h1:∀u∈z.cells.toList,One u) :
  (Instr.storeAt t (.pointer (D ⟨g,o,U⟩)) z).run P w = .ok () (w.setRow g (cur.toList.take o++z.cells.toList++cur.toList.drop (o+z.cells.toList.length)).toArray):=by
 have hst:=run_storeCells_at P g o e z.cells.toList 0 cur w hh (by simpa using hl) h1;simp only[Nat.add_zero]at hst;have hne:¬z.cells.size≠ti.size:=by simpa using hs
 simp only[Instr.storeAt,Á,Instr.sureAddr,Ä,I,storeVar,j2J hT ht,Sem.run_ite,if_neg hne,hst]
theorem jtw{P:À}{E:Env}(hT:j1L P E.T)(hR:Rel N np S0 w0 refs σ a w S γ){rd rdf:H->BS}(hrd:RdOk σ rd)(hrdf:RdF np σ rdf){t:Ç}{ti:TyI}(ht:E.T t=D ti)
  {x:Leaf}{val:Cel}{u:Ups}{ux z:G}(h:jjG rd rdf ti.size val x=D u)(hx:j08 S w γ σ.bx x ux)(hz:j0n S w γ σ.bx val z) :
  ∃w' S',(Instr.storeAt t ux z).run P w = .ok () w'/\Rel N np S0 w0 refs (σ.upd u) a w' S' γ:=by
 unfold jjG at h;split at h
 .rename_i k c;split at h
  .rename_i ls hk;have hk:=hrd.live hk;split at h
   .rename_i new hnew;split at h
    .rename_i hc;simp only[j5]at h;subst h;obtain⟨hsz,hle⟩:=hc;obtain⟨ha,h1⟩:=jal hnew hz;obtain⟨g,hg,hu⟩:=hx.2.2 _ hk;obtain⟨g',cur,e,hg',hh,hcur,hc1,hS,_⟩:=hR.box k _ hk;rw[hg]at hg';simp at hg';subst hg';subst hu;have hlen:=ha.length;have hlc:=hcur.length;simp at hlc;refine⟨_,S,jc9 hT ht hh omg_ (by simp at hlen ⊢;omega) h1,?_⟩;refine jdS hR hk (by rw[hg];rfl) (hS rfl) (b':= .cell (jdI ls c new) M) trivial hh (λhle hst=>?_);refine⟨g,_,e,hg,setRow_heap w g cur _ e (0,0) hh,?_,?_,λ_=>hS rfl,smp_⟩
     .have:=jdT (c:=c) (hcur.mono (λx u hx=>j08.keep hst hle hx)) (ha.mono (λx u hx=>j08.keep hst hle hx));have hsl:(jdI ls c new).length=ls.length:=by simp[jdI];omega
      grind[jh7]
     .intro v hv;have hsl:(jdI ls c new).length=ls.length:=by simp[jdI];omega
      grind[jh7]
    .simp at h
   .simp at h
  .rename_i n el xs hk;have hk:=hrd.live hk;split at h
   .rename_i hc0;subst hc0;split at h
    .rename_i n' a' ys;split at h
     .rename_i ys' hto;split at h
      .rename_i hsz;simp only[j5]at h;subst h;have hto':=jgI hto;simp only[TV.mk.injEq,Ty.arr.injEq]at hto';obtain⟨⟨rfl,rfl⟩,hto'⟩:=hto';obtain rfl:=eq_of_heq hto';obtain⟨cs,rfl,hr⟩:=hz;obtain⟨g,hg,hu⟩:=hx.2.2 _ hk;obtain⟨g',cur,e,hg',hh,hrep,hS⟩:=hR.box k _ hk;rw[hg]at hg';simp at hg';subst hg';subst hu;have hl1:=Rep.length _ _ _ hr;have hl2:=Rep.length _ _ _ hrep;have e1:(Value.agg cs).cells.toList=cs.toList:=rfl;refine⟨_,S,jc9 hT ht hh (by rw[e1,hl1,hsz];rfl) (by simp_all) (by grind[Rep.one]),?_⟩;refine jdS hR hk (by rw[hg];rfl) hS (b':= .arr _ _ _) ⟨rfl,rfl⟩ hh (λhle hst=>?_);refine⟨g,_,e,hg,setRow_heap w g cur _ e (0,0) hh,?_,hS⟩;grind[Rep.keep]
      .simp at h
     .simp at h
    .simp at h
   .simp at h
  .simp at h
 .rename_i k i c;split at h
  .rename_i el at_ xs hk;have hnm:=hrd.nm hk;have hk:=hrd.live hk;split at h
   .rename_i new hnew;split at h
    .rename_i hc;obtain⟨hsz,hle⟩:=hc;split at h
     .rename_i en u1 hga;split at h
      .simp at h
      .rename_i hnk;simp only[j5]at h;subst h;obtain⟨ha,h1⟩:=jal hnew hz;have hlen:=ha.length;have hzz:z.cells.toList.length=z.cells.size:=Ð;obtain⟨_,hi,g,cap,hg,hu⟩:=hx.2.2 _ hk;obtain⟨css,hown,hall,hSk⟩:=j71 hnm (hR.box k _ hk);rcases hown.2 with⟨_,h0⟩|⟨g',cap',cur,hg',hb0,hh,hnc,hcm,hcs,htake⟩
       .omega
       rw[hg]at hg';simp at hg';obtain⟨rfl,rfl⟩:=hg';subst hu;obtain⟨ci,hci,hrep,hcell⟩:=jh6 (λx c hx=>Rep.length at_ x c hx) hall i at_.dflt hi;have hcl:=Rep.length _ _ _ hrep;have hsp:=jdT (c:=c) (j9g (j7N at_ _ ci hrep)) ha;obtain⟨hf,he,hp⟩:=jcV hrdf hR.box at_ hga hsp;obtain⟨S1,hR1,hst1,hfz,hsame⟩:=j4z u1 σ S hR hf;have hk1:(σ.upd u1).bx k = .live (.lst el at_ xs M):=by grind[j2L]
       obtain⟨css1,hown1,hall1,hS1⟩:=j71 hnm (hR1.box k _ hk1);have hnS:∀o,¬S1 g o:=(hS1 g (by rw[hg];rfl)).1 rfl;have him:i*at_.size+at_.size<=xs.length*at_.size:=by have:(i+1)*at_.size<=xs.length*at_.size:=Z _ omg_;grind
       have hmc:xs.length*at_.size<=cap*at_.size:=Z _ hnc;have hzl:c+z.cells.toList.length<=at_.size:=omg_;refine⟨_,S1,jc9 hT ht hh omg_ (by rw[hcs];omega) h1,?_⟩;rw[j6Z];refine jdS hR1 hk1 (by rw[hg];rfl) hnS (b':= .lst el at_ (xs.set i en) M) ⟨rfl,rfl,λ_=>smp_⟩ hh (λhle2 hst2=>?_);have hnewc:Rep S1 w at_ en (ci.take c++z.cells.toList++ci.drop (c+z.cells.toList.length)):=by grind[Y]
       refine jiT hnm ⟨css.set i (ci.take c++z.cells.toList++ci.drop (c+z.cells.toList.length)),⟨?_,.inr ⟨g,cap,_,?_,Ñ _,setRow_heap w g cur _ el (0,0) hh,by simpa using hnc,hcm,?_,?_⟩⟩,?_,λg' hg'=>?_⟩
       .rw[jew (m:=at_.size)]
        .simp[hall.length]
        grind[All2.all_len]
       .simpa using hg
       .grind
       .simp only[List.length_set];exact jqz (All2.all_len hall) hall.length.symm htake hci hzl
       .exact(hall.mono (λx c hx=>Rep.keep (hst1.trans hst2) _ _ _ hx)).set i _ _ (Rep.keep hst2 _ _ _ hnewc)
       simp_all
     .simp at h
    .simp at h
   .simp at h
  .rename_i n at_ xs hk;have hk:=hrd.live hk;split at h
   .rename_i new hnew;split at h
    .rename_i hc;obtain⟨hsz,hle⟩:=hc;split at h
     .rename_i en u1 hga;split at h
      .simp at h
      .rename_i hnk;simp only[j5]at h;subst h;obtain⟨ha,h1⟩:=jal hnew hz;have hlen:=ha.length;have hzz:z.cells.toList.length=z.cells.size:=Ð;obtain⟨hi,g,hg,hu⟩:=hx.2.2 _ hk;obtain⟨g',cur,e,hg',hh,⟨hn,css,hall,hcur⟩,hS⟩:=hR.box k _ hk;rw[hg]at hg';simp at hg';subst hg';subst hu;obtain⟨ci,hci,hrep,hcell⟩:=jh6 (λx c hx=>Rep.length at_ x c hx) hall i at_.dflt omg_;have hcl:=Rep.length _ _ _ hrep;have hsp:=jdT (c:=c) (j9g (j7N at_ _ ci hrep)) ha;obtain⟨hf,he,hp⟩:=jcV hrdf hR.box at_ hga hsp;obtain⟨S1,hR1,hst1,hfz,hsame⟩:=j4z u1 σ S hR hf;have hk1:(σ.upd u1).bx k = .live (.arr n at_ xs):=by grind[j2L]
       obtain⟨g1,cur1,e1,hg1,hh1,_,hnS⟩:=hR1.box k _ hk1;rw[hg]at hg1;simp at hg1;subst hg1;have hcl2:cur.toList.length=n*at_.size:=by rw[hcur,jew (All2.all_len hall),<-hall.length,hn]
       have him:i*at_.size+at_.size<=n*at_.size:=by have:(i+1)*at_.size<=n*at_.size:=Z _ omg_;grind
       have hzl:c+z.cells.toList.length<=at_.size:=omg_;refine⟨_,S1,jc9 hT ht hh omg_ (by grind) h1,?_⟩;rw[j6Z];refine jdS hR1 hk1 (by rw[hg];rfl) hnS (b':= .arr n at_ (xs.set i en)) ⟨rfl,rfl⟩ hh (λhle2 hst2=>?_);have hnewc:Rep S1 w at_ en (ci.take c++z.cells.toList++ci.drop (c+z.cells.toList.length)):=by grind[Y]
       refine⟨g,_,e,hg,setRow_heap w g cur _ e (0,0) hh,⟨?_,css.set i (ci.take c++z.cells.toList++ci.drop (c+z.cells.toList.length)),?_,?_⟩,hnS⟩
       .simp_all
       .exact(hall.mono (λx c hx=>Rep.keep (hst1.trans hst2) _ _ _ hx)).set i _ _ (Rep.keep hst2 _ _ _ hnewc)
       .have hrs:=jqz (cur:=cur.toList) (n:=n) (zs:=z.cells.toList) (All2.all_len hall) (by rw[<-hall.length,hn]) (by grind) hci hzl;rw[<-hrs];symm;refine(Y ?_).trans smp_;simp only[È,Ò,ü];omega
     .simp at h
    .simp at h
   .simp at h
  .rename_i e0 el n ls hk;have hk:=hrd.live hk;split at h
   .rename_i new hnew;split at h
    .rename_i hc;simp only[j5]at h;subst h;obtain⟨hsz,hle⟩:=hc;obtain⟨ha,h1⟩:=jal hnew hz;have hlen:=ha.length;have hzz:z.cells.toList.length=z.cells.size:=Ð;obtain⟨_,hi,g,cap,hg,hu⟩:=hx.2.2 _ hk;obtain⟨hnm,⟨cs,hown,hall,h1s⟩,hS⟩:=hR.box k _ hk;rcases hown.2 with⟨_,h0⟩|⟨g',cap',cur,hg',hb0,hh,hnc,hcm,hcs,htake⟩
     .omega
     rw[hg]at hg';simp at hg';obtain⟨rfl,rfl⟩:=hg';subst hu;have him:i*el.size+el.size<=n*el.size:=by have:(i+1)*el.size<=n*el.size:=Z _ omg_;grind
     have hmc:n*el.size<=cap*el.size:=Z _ hnc;have hcl:cur.toList.length=cap*el.size:=by rw[Ð,hcs]
     have hlcs:cs.length=n*el.size:=hown.1;have hsp:=jh7 (X:=cur.toList) (zs:=z.cells.toList) (c:=i*el.size+c) (n:=n*el.size) omg_ omg_;refine⟨_,S,jc9 hT ht hh omg_ (by rw[hcs];omega) h1,?_⟩;refine jdS hR hk (by rw[hg];rfl) (hS g (by rw[hg];rfl)) (b':= .row e0 el n (jdI ls (i*el.size+c) new)) ⟨rfl,rfl,rfl⟩ hh (λhle2 hst2=>?_);refine⟨hnm,⟨cs.take (i*el.size+c)++z.cells.toList++cs.drop (i*el.size+c+z.cells.toList.length),⟨?_,.inr ⟨g,cap,_,hg,Ñ _,setRow_heap w g cur _ e0 (0,0) hh,hnc,hcm,?_,?_⟩⟩,?_,?_⟩,λg' hg'=>hS g' hg'⟩
     .simp only[È,Ò,ü];omega
     .simp only[List.size_toArray,È,Ò,ü];omega
     .simp_all
     .exact jdT (hall.mono (λx u hx=>j08.keep hst2 hle2 hx)) (ha.mono (λx u hx=>j08.keep hst2 hle2 hx))
     grind
    .simp at h
   .simp at h
  .simp at h
 .simp at h
theorem jaK{m:H}:∀{l:F (F G)}(i:H),(∀c∈l,c.length=m)->(l.take i).flatten=l.flatten.take (i*m)
 |[],i,_=>smp_
 |c::l,0,_=>smp_
 |c::l,i+1,h=>by
  have hc:=h c smp_;have ih:=jaK (l:=l) i (λd hd=>h d (by simp[hd]));rw[List.take_succ_cons,Ö,ih,Ö,Nat.succ_mul,Nat.add_comm,å,hc];rw[Y (l:=c) omg_,show m+i*m-m=i*m by omega]
theorem jfw{m:H}:∀{l:F (F G)}(i:H),(∀c∈l,c.length=m)->(l.drop i).flatten=l.flatten.drop (i*m)
 |[],i,_=>smp_
 |c::l,0,_=>smp_
 |c::l,i+1,h=>by
  have hc:=h c smp_;have ih:=jfw (l:=l) i (λd hd=>h d (by simp[hd]));rw[List.drop_succ_cons,ih,Ö,Nat.succ_mul,Nat.add_comm,List.drop_append,hc];rw[Ë (l:=c) omg_,List.nil_append,show m+i*m-m=i*m by omega]
theorem jgl(hR:Rel N np S0 w0 refs σ a w S γ){k:H}{b:Bx}(hk:σ.bx k = .live b):Rel N np S0 w0 refs (σ.setB k .gone) a w S γ:=by
 have hle:BxLe γ σ.bx γ (σ.setB k .gone).bx:=by
  intro k' hk';by_cases hkk:k'=k
  .grind[j0B]
  .rw[j07 σ _ hkk];exact⟨hk',rfl,λb hb=>⟨b,hb,.refl b⟩⟩
 have live':∀k' b1,(σ.setB k .gone).bx k' = .live b1->σ.bx k' = .live b1:=by grind[j0B,j07]
 exact Rel.step (bx':=(σ.setB k .gone).bx) hR (.refl S w) hle (λk' b' h=>j2m.keep (.refl S w) hle rfl (λ_ _=>⟨rfl,λ_=>ñ⟩) (hR.box k' b' (live' k' b' h)))
  (λk' b' g h=>hR.own k' b' g (live' k' b' h)) (λk1 k2 b1 b2 g hne h1 h2=>hR.apart k1 k2 b1 b2 g hne (live' _ _ h1) (live' _ _ h2)) hR.new hR.here hR.below hR.grow hR.os hR.tape hR.output
  (λg _ _ h=>⟨rfl,λk' b' hb'=>h k' b' (live' k' b' hb')⟩)
theorem jBC(hR:Rel N np S0 w0 refs σ a w S γ){d:H}(hd:σ.bx d = .free){w':É}{v':G}{b:Bx}
  (hst:j3r S w S w')(hheap:∀g,g<w.heap.size->blk v'≠D g->w'.heap[g]? = w.heap[g]?)(hsz:w.heap.size<=w'.heap.size)
  (hv:∀g,blk v'=D g->Own w0 refs g/\(∀k b,σ.bx k = .live b->blk (γ k)≠D g)/\g<w'.heap.size)
  (os:w'.os=w.os)(tape:w'.tape=w.tape)(output:w'.output=w.output)
  (hb:BxLe γ σ.bx (gset γ d v') (σ.setB d (.live b)).bx->j2m S w' (gset γ d v') (σ.setB d (.live b)).bx d b)(hkw:∀g,blk v'=D g->refs.kw g=U) :
  Rel N np S0 w0 refs (σ.setB d (.live b)) a w' S (gset γ d v')/\BxLe γ σ.bx (gset γ d v') (σ.setB d (.live b)).bx:=by
 have hle:BxLe γ σ.bx (gset γ d v') (σ.setB d (.live b)).bx:=by
  intro k hk;have hne:k≠d:=by grind
  rw[j07 σ _ hne,j0p γ v' hne];exact⟨hk,rfl,λb hb=>⟨b,hb,.refl b⟩⟩
 refine⟨Rel.step (bx':=(σ.setB d (.live b)).bx) hR hst hle ?_ ?_ ?_ hR.new ?_ ?_ (â hR.grow hsz) (os.trans hR.os) (tape.trans hR.tape) (output.trans hR.output) (λg hg hkn h=>⟨hheap g hg (λhh=>hkn (hkw g hh)),λk b' hb' hbk=>by
  grind[j0r,j07,j0p]⟩),hle⟩
 .intro k b' hb';by_cases hk:k=d
  .grind[j0B]
  .rw[j07 σ _ hk]at hb';refine j2m.keep hst hle (j0p γ v' hk) (λg hg=>⟨?_,λ_=>ñ⟩) (hR.box k b' hb');exact hheap g (j4T (hR.box k b' hb') hg) (λhh=>(hv g hh).2.1 k b' hb' hg)
 .intro k b' g hb' hg;by_cases hk:k=d
  .grind[j0r]
  .rw[j07 σ _ hk]at hb';rw[j0p γ v' hk]at hg;exact hR.own k b' g hb' hg
 .intro k k' b1 b2 g hne h1 h2 hg hg';by_cases hk:k=d
  .grind[j0r,j07,j0p]
  .by_cases hk':k'=d
   .grind[j0r,j07,j0p]
   .rw[j07 σ _ hk]at h1;rw[j07 σ _ hk']at h2;rw[j0p γ v' hk]at hg;rw[j0p γ v' hk']at hg';exact hR.apart k k' b1 b2 g hne h1 h2 hg hg'
 .intro g o hs;have:=hR.here g o hs;omega
 .intro g hg hr;by_cases hb:blk v'=D g
  .exact((hv g hb).1.no hg hr).elim
  .rw[hheap g (by have:=hR.grow;omega) hb];exact hR.below g hg hr
theorem jgm(hR:Rel N np S0 w0 refs σ a w S γ){d:H}(hd:σ.bx d = .free){w':É}{S':j09}{v':G}{e:H}(hm:isM e=M){el:Ty}{zs:F el.den}{frz:ä}{css:F (F G)}
  (hst:j3r S w S' w')(hheap:∀g,g<w.heap.size->blk v'≠D g->w'.heap[g]? = w.heap[g]?)(hsz:w.heap.size<=w'.heap.size)
  (hv:∀g,blk v'=D g->Own w0 refs g/\(∀k b,σ.bx k = .live b->blk (γ k)≠D g)/\g<w'.heap.size)
  (hS:∀g o,S' g o->S g o\/blk v'=D g)(os:w'.os=w.os)(tape:w'.tape=w.tape)(output:w'.output=w.output)
  (hrow:w'.ownsRow 0 e el.size v' zs.length css.flatten)(hall:All2 (λx c=>Rep S' w' el x c) zs css)
  (hfrz:∀g,blk v'=D g->(frz=M->∀o,¬S' g o)/\(frz=Ã->∀o,S' g o↔o<zs.length*el.size))(hkw:∀g,blk v'=D g->refs.kw g=U) :
  Rel N np S0 w0 refs (σ.setB d (.live (.lst e el zs frz))) a w' S' (gset γ d v')/\
   j0n S' w' (gset γ d v') (σ.setB d (.live (.lst e el zs frz))).bx (.one (.ol d)) v':=by
 have hle:BxLe γ σ.bx (gset γ d v') (σ.setB d (.live (.lst e el zs frz))).bx:=by
  intro k hk;have hne:k≠d:=by grind
  rw[j07 σ _ hne,j0p γ v' hne];exact⟨hk,rfl,λb hb=>⟨b,hb,.refl b⟩⟩
 have hone:One v':=by rcases hrow.2 with⟨rfl,_⟩|⟨g,cap,cur,rfl,_⟩<;>rfl
 refine⟨Rel.step (bx':=(σ.setB d (.live (.lst e el zs frz))).bx) hR hst hle ?_ ?_ ?_ ?_ ?_ ?_ (â hR.grow hsz) (os.trans hR.os) (tape.trans hR.tape) (output.trans hR.output) (λg hg hkn h=>⟨hheap g hg (λhh=>hkn (hkw g hh)),λk b' hb' hbk=>by
  grind[j0r,j07,j0p]⟩),?_⟩
 .intro k b hb;by_cases hk:k=d
  .grind[j0B,jiT,j0r]
  .rw[j07 σ _ hk]at hb;refine j2m.keep hst hle (j0p γ v' hk) (λg hg=>?_) (hR.box k b hb);have hgl:=j4T (hR.box k b hb) hg;have hne:blk v'≠D g:=λhh=>(hv g hh).2.1 k b hb hg;exact⟨hheap g hgl hne,λo=>⟨λhs=>(hS g o hs).resolve_right hne,λhs=>(hst g o hs).1⟩⟩
 .intro k b g hb hg;by_cases hk:k=d
  .grind[j0r]
  .rw[j07 σ _ hk]at hb;rw[j0p γ v' hk]at hg;exact hR.own k b g hb hg
 .intro k k' b1 b2 g hne h1 h2 hg hg';by_cases hk:k=d
  .grind[j0r,j07,j0p]
  .by_cases hk':k'=d
   .grind[j0r,j07,j0p]
   .rw[j07 σ _ hk]at h1;rw[j07 σ _ hk']at h2;rw[j0p γ v' hk]at hg;rw[j0p γ v' hk']at hg';exact hR.apart k k' b1 b2 g hne h1 h2 hg hg'
 .intro g o hs;rcases hS g o hs with hs|hs
  .exact hR.new g o hs
  simp_all
 .intro g o hs;rcases hS g o hs with hs|hs
  .have:=hR.here g o hs;omega
  simp_all
 .intro g hg hr;by_cases hb:blk v'=D g
  .exact((hv g hb).1.no hg hr).elim
  .rw[hheap g (by have:=hR.grow;omega) hb];exact hR.below g hg hr
 .refine⟨⟨by rw[j0B];simp,hone,λb hb=>(j0r γ d v').symm⟩,λ_=>hone⟩
theorem jmP{P:À}{T:H->Â TyI}(hT:j1L P T){t ty:Ç}{ti:TyI}(ht:T t=D ti){el:Ty}(hty:ti.ty=D (.list el))
  {v:G}{n:H}{xs:F G}(hown:w.ownsRow 0 ti.elem el.size v n xs){ad:Â Addr}{m c:H}{news:F G}(hnil:ad=U->m=0/\c=0)(hl:news.length=m*el.size)
  (hnews:∀b,ad=D b->∀(j:H)(u:G),news[j]? = D u->w.cell? (b.add j)=D u)(h1:∀u∈news,One u)(hmax:n+m<=j02) :
  ∃v' w',(Ô #[t,t] ty #[v,.slice ad m c]).run P w = .ok v' w'/\w'.ownsRow 0 ti.elem el.size v' (n+m) (xs++news)/\w'.os=w.os/\w'.tape=w.tape/\w'.output=w.output/\w.heap.size<=w'.heap.size/\
   ((v'=v/\w'=w)\/(blk v'=blk v/\(∃g,blk v=D g)/\∀g,blk v≠D g->w'.heap[g]? = w.heap[g]?)\/(blk v'=D w.heap.size/\∀g,g<w.heap.size->w'.heap[g]? = w.heap[g]?)):=by
 obtain⟨hd,hpos,te,hte,htea⟩:=j6g hT ht hty;have hsz:=jbr hT hte htea;obtain⟨i,de,hi,hde,his,hib,_,_,hz⟩:=j5v hT hte;obtain⟨_,⟨z,hz,hzc⟩,_⟩:=hz el htea;have hsize:i.size=el.size:=omg_;have hzs:z.cells.size=el.size:=by have h:=Rep.length el el.dflt _ (j8t (S:=λ_ _=>False) (w:=w) el);grind
 have h63:n+m<=maxLen:=by grind[maxLen,j02]
 have hbytes:(n+m)*i.bytes<=140737488355328:=by have:(n+m)*i.bytes<=j02*32768:=Nat.mul_le_mul hmax hib;grind[j02]
 have hlen:(xs++news).length=(n+m)*el.size:=by rw[È,hown.1,hl,Ï]
 cases ad with
 |none=>obtain⟨rfl,rfl⟩:=hnil rfl;grind[run_append_owned_none]
 |some b=>
  have hnews:=hnews b rfl;rcases hown.2 with⟨rfl,rfl⟩|⟨g,cap,cur,rfl,_,hg,hnc,hcm,hcs,htake⟩
  .have hown':w.ownsRow w.heap.size ti.elem el.size (.slice U 0 0) 0 xs:=⟨hown.1,.inl ⟨rfl,rfl⟩⟩;obtain⟨v',w',hr,ho,hgr,hv⟩:=run_append_own (P:=P) w w.heap.size t ty ti.elem i z el.size i.bytes hd hi hz hsize rfl hzs hpos _ 0 xs hown' b m c news hl hnews h1 h63 hbytes (Ì _);refine⟨v',w',hr,⟨ho.1,ho.2.imp id (λ⟨g,cap,cur,h1,_,h3⟩=>⟨g,cap,cur,h1,Ñ _,h3⟩)⟩,hgr.os,hgr.tape,hgr.output,hgr.size,?_⟩;by_cases hm:m=0
   .subst hm;have hn0:news=[]:=Å (by simpa using hl);subst hn0;have:=run_append_own (P:=P) w w.heap.size t ty ti.elem i z el.size i.bytes hd hi hz hsize rfl hzs hpos _ 0 xs hown' b 0 c [] hl hnews h1 h63 hbytes (Ì _);left;have hx:(Ô #[t,t] ty #[.slice U 0 0,.slice (D b) 0 c]).run P w = .ok (.slice U 0 0) w:=by simp[Ô,run_underlying hd,sizeOf,typeInfo,hi,Builtin.lenOf,á,loadCells,loadCellsFrom]
    simp_all
   .have hr':=run_append_nil (P:=P) w t ty ti.elem i z hd hi hz b m c news (by rw[hsize];exact hl) hnews omg_ (by grind[maxLen]) (by grind);rw[hr']at hr;simp at hr;obtain⟨rfl,rfl⟩:=hr;exact .inr (.inr ⟨rfl,λg hg=>heap_alloc_old w.drew _ hg⟩)
  .by_cases hroom:n+m<=cap
   .have hfit:n*i.size+news.length<=cur.size:=by rw[hsize,hl,hcs,<-Ï];exact Z _ hroom
    have hr:=run_append_room (P:=P) w t ty ti.elem i hd hi g n cap cur hg b m c news (by rw[hsize];exact hl) hnews h1 hroom hfit;rw[hsize]at hr hfit;refine⟨_,_,hr,⟨hlen,.inr ⟨g,cap,_,rfl,Ñ _,setRow_heap w g cur _ ti.elem _ hg,hroom,hcm,?_,?_⟩⟩,rfl,rfl,rfl,by simp_all,.inr (.inl ⟨rfl,⟨g,rfl⟩,λg' hg'=>?_⟩)⟩
    .grind
    .grind
    .exact setRow_other w g g' _ (λh=>hg' (by rw[h];rfl))
   .have holds:∀(j:H)(u:G),xs[j]? = D u->w.cell? ((⟨g,0,U⟩:Addr).add j)=D u:=hown.cells (g:=g) rfl;have hr:=run_append_grow (P:=P) w t ty ti.elem i z hd hi hz ⟨g,0,U⟩ n cap xs (by grind) holds b m c news (by rw[hsize];exact hl) hnews omg_ (by grind[maxLen]) (growslice_fits omg_ hbytes);have hge:=grownCap_ge w (n+m) cap ti.elem;refine⟨_,_,hr,⟨hlen,.inr ⟨w.heap.size,_,_,rfl,Ñ _,heap_alloc_new w.drew _,hge,grownCap_le_maxLen w (n+m) cap ti.elem h63,?_,?_⟩⟩,rfl,rfl,rfl,smp_,.inr (.inr ⟨rfl,λg' hg'=>heap_alloc_old w.drew _ hg'⟩)⟩
    .simp only[Array.size_append,List.size_toArray,size_zeroCells,hzs,hown.1,hl,<-Ï];congr 1;omega
    grind
theorem jsa(hR:Rel N np S0 w0 refs σ a w S γ){rd:H->BS}(hrd:RdOk σ rd){el:Ty}{y:Leaf}{ys:F el.den}{z:G}(h:appX rd el y=D ys)(hy:j08 S w γ σ.bx y z) :
  ∃ad c css,z = .slice ad ys.length c/\(ad=U->ys.length=0/\c=0)/\All2 (λx c=>Rep S w el x c) ys css/\
   ∀b,ad=D b->∀(j:H)(u:G),css.flatten[j]? = D u->w.cell? (b.add j)=D u:=by
 unfold appX at h;split at h
 .rename_i k;split at h
  .rename_i e el' xs f hk;have:=jgI h;cases this;have hnm:=hrd.nm hk;have hk:=hrd.live hk;have hz:=hy.2.2 _ hk;obtain⟨css,hown,hall,_⟩:=j71 hnm (hR.box k _ hk);rcases hown.2 with⟨hg,h0⟩|⟨g,cap,cur,hg,_⟩
   .grind
   .refine⟨D ⟨g,0,U⟩,cap,css,by rw[hz,hg],smp_,hall,λb hb j u hu=>?_⟩;simp at hb;subst hb;exact hown.cells (g:=g) (by rw[hg];rfl) j u hu
  .simp at h
 .rename_i t xs;have:=jgI h;cases this;obtain⟨ad,cap,hz,hle,hcm,hn,hb⟩:=hy;simp at hz;cases ad with
  |none=>have h0:=hn rfl;have hl0:ß ys=0:=omg_;have:ys=[]:=Å hl0;subst this;exact⟨U,cap,[],hz,λ_=>⟨rfl,h0⟩,trivial,λb hb=>by simp at hb⟩
  |some b=>
   obtain⟨hsp,css,ha,hl⟩:=hb b rfl;refine⟨D b,cap,css,hz,smp_,ha,λb' hb' j u hu=>?_⟩;simp at hb';subst hb'
   have hsp:=hsp (λe=>by
    rw[e]at ha;cases css with
    |nil=>simp at hu
    |cons c cs=>exact ha)
   obtain⟨g,o,sp⟩:=b;simp at hsp;subst hsp;rw[Æ];exact(hl j u hu).2
 .simp at h;subst h;exact⟨U,0,[],hy,λ_=>⟨rfl,rfl⟩,trivial,λb hb=>by simp at hb⟩
 .rename_i k j;split at h
  .rename_i e el' xs f hk;split at h
   .rename_i xs' hto;have:=jgI hto;cases this;simp only[j5]at h;subst h;have hnm:=hrd.nm hk;have hk:=hrd.live hk;obtain⟨_,hj,ad,cap',hg',hu⟩:=hy.2.2 _ hk;obtain⟨css,hown,hall,_⟩:=j71 hnm (hR.box k _ hk);have hcl:=All2.all_len hall;have hlen:(Ù j xs').length=xs'.length-j:=smp_;rcases hown.2 with⟨hg,h0⟩|⟨g,cap,cur,hg,_,hh,hnc,_⟩
    .grind
    .rw[hg]at hg';simp only[Ê,true_and]at hg';obtain⟨rfl,rfl⟩:=hg';by_cases hc:cap=j
     .have hx0:Ù j xs'=[]:=Ë omg_;rw[hx0];rw[if_pos hc]at hu;exact⟨D ⟨g,0,U⟩,cap-j,[],by rw[hu];simp;omega,smp_,trivial,λb hb q v hq=>by simp at hq⟩
     .rw[if_neg hc]at hu;simp only[à,Æ,Nat.zero_add]at hu;refine⟨D ⟨g,j*el.size,U⟩,cap-j,css.drop j,by rw[hu,hlen],smp_,hall.drop j,λb hb q v hq=>?_⟩;simp at hb;subst hb;have hfd:(css.drop j).flatten=css.flatten.drop (j*el.size):=jfw j hcl;rw[hfd,ï]at hq;have:=hown.cells (g:=g) (by rw[hg];rfl) _ v hq;grind[Æ]
   .simp at h
  .simp at h
 .simp at h
theorem jtx{P:À}{E:Env}(hT:j1L P E.T)(hR:Rel N np S0 w0 refs σ a w S γ){rd rdf:H->BS}(hrd:RdOk σ rd)(hrdf:RdF np σ rdf){t ty:Ç}{ti:TyI}(ht:E.T t=D ti)
  {el:Ty}(hty:ti.ty=D (.list el)){x y:Leaf}{xs ys:F el.den}{frz:ä}{u:Ups}{d:H}{vx vy:G}(h1:appS rdf ti.elem el x=D (xs,frz,u))(h2:appX rd el y=D ys)
  (hd:σ.bx d = .free)(hmax:xs.length+ys.length<=j02)(hx:j08 S w γ σ.bx x vx)(hy:j08 S w γ σ.bx y vy) :
  ∃v' w' S' γ',(Ô #[t,t] ty #[vx,vy]).run P w = .ok v' w'/\Rel N np S0 w0 refs (σ.upd (u++[(d,.live (.lst ti.elem el (xs++ys) frz))])) a w' S' γ'/\
   j0n S' w' γ' (σ.upd (u++[(d,.live (.lst ti.elem el (xs++ys) frz))])).bx (.one (.ol d)) v':=by
 obtain⟨ad,c,cy,hvy,hnil,hcy,hcell⟩:=jsa hR hrd h2 hy;subst hvy;have hly:cy.flatten.length=ys.length*el.size:=All2.flatten_length (λx c hx=>Rep.length el x c hx) hcy;have h1y:∀u∈cy.flatten,One u:=by intro u hu;obtain⟨c,hc,huc⟩:=List.mem_flatten.1 hu;obtain⟨x,_,hx⟩:=hcy.mem_right c hc;grind[Rep.one]
 obtain⟨hdd,hpos,te,hte,htea⟩:=j6g hT ht hty
 have src:∃σ1,σ.upd u=σ1/\Rel N np S0 w0 refs σ1 a w S γ/\σ1.bx d = .free/\∃cx,w.ownsRow 0 ti.elem el.size vx xs.length cx.flatten/\All2 (λx c=>Rep S w el x c) xs cx/\
   ∀g,blk vx=D g->Own w0 refs g/\g<w.heap.size/\(∀k b,σ1.bx k = .live b->blk (γ k)≠D g)/\(frz=M->∀o,¬S g o)/\(frz=Ã->∀o,S g o↔o<xs.length*el.size)/\refs.kw g=none:=by
  unfold appS at h1;split at h1
  .rename_i k;split at h1
   .rename_i e' el' xs' f hk;split at h1
    .rename_i xs2 hto;split at h1
     .rename_i he;simp only[j5,j9]at h1;obtain⟨rfl,rfl,rfl⟩:=h1;have:=jgI hto;cases this;subst he;have hkp:=hrdf.par hk;have hnm:=hrdf.ok.nm hk;have hk:=hrdf.ok.live hk;have hz:=hx.2.2 _ hk;obtain⟨css,hown,hall,hS⟩:=j71 hnm (hR.box k _ hk);have hdk:d≠k:=by grind
      refine⟨σ.setB k .gone,rfl,jgl hR hk,by grind[j07],css,by rw[hz];exact hown,hall,λg hg=>?_⟩;rw[hz]at hg;refine⟨?_,j4T (hR.box k _ hk) hg,λk' b' hb' hg'=>?_,(hS g hg).1,(hS g hg).2,hR.kw_live hk hg⟩
      .rcases hR.own k _ g hk hg with h|h;all_goals simp_all
      .have hkk:k'≠k:=by grind[j0B]
       rw[j07 σ _ hkk]at hb';exact hR.apart k' k _ _ g hkk hb' hk hg' hg
     .simp at h1
    .simp at h1
   .simp at h1
  .simp only[j5,j9]at h1;obtain⟨rfl,rfl,rfl⟩:=h1;have hz:vx = .slice U 0 0:=hx;subst hz;exact⟨σ,rfl,hR,hd,[],ó w 0 ti.elem el.size,trivial,λg hg=>by simp[blk]at hg⟩
  .simp at h1
 obtain⟨σ1,hσ1,hR1,hd1,cx,hown,hcx,hblk⟩:=src;rw[j6Z,hσ1];obtain⟨v',w',hr,hrow,os,tape,output,hsz,hcase⟩:=jmP hT ht hty (ty:=ty) hown hnil hly hcell h1y hmax;have hlx:cx.flatten.length=xs.length*el.size:=hown.1;let S':j09:=λg o=>S g o\/(frz=Ã/\blk v'=D g/\o<(xs++ys).length*el.size)
 have hst:j3r S w S' w':=by
  intro g o hs;refine⟨.inl hs,?_⟩;rcases hcase with⟨rfl,rfl⟩|⟨hb,⟨g0,hg0⟩,hh⟩|⟨hb,hh⟩
  .rfl
  .by_cases hg:g=g0
   .subst hg;obtain⟨_,_,_,hf,ht',_⟩:=hblk g hg0;cases frz with
    |false=>simp_all
    |true=>
     have ho:=(ht' rfl o).1 hs;have hv':v'.ownBlock=D g:=by rw[hg0]at hb;rcases hrow.2 with⟨hn,_⟩|⟨g1,cap,cur,hn,_⟩;all_goals grind[blk,Value.ownBlock]
     have hvx:vx.ownBlock=D g:=by rcases hown.2 with⟨hn,_⟩|⟨g1,cap,cur,hn,_⟩;all_goals grind[blk,Value.ownBlock]
     have hget:(cx.flatten)[o]? = D (cx.flatten[o]'omg_):=û omg_;have e1:=hown.cells hvx o _ hget;have e2:=hrow.cells hv' o (cx.flatten[o]'omg_) (by grind);grind[Æ]
   grind[Û]
  .exact Û (a:=⟨g,o,U⟩) (hh g (hR.here g o hs))
 have hvb:∀g,blk v'=D g->Own w0 refs g/\(∀k b,σ1.bx k = .live b->blk (γ k)≠D g)/\g<w'.heap.size:=by
  intro g hg;have hlt:g<w'.heap.size:=by rcases hrow.2 with⟨hn,_⟩|⟨g1,cap,cur,hn,_,hh,_⟩;all_goals grind[blk]
  rcases hcase with⟨rfl,rfl⟩|⟨hb,⟨g0,hg0⟩,hh⟩|⟨hb,hh⟩
  .simp_all
  .simp_all
  .rw[hb]at hg;simp at hg;subst hg;exact⟨.inl hR.grow,λk b hk hg'=>by have:=j4T (hR1.box k b hk) hg';omega,hlt⟩
 obtain⟨hRn,hcn⟩:=jgm hR1 hd1 (hm:=jnB hT ht) (w':=w') (S':=S') (v':=v') (e:=ti.elem) (el:=el) (zs:=xs++ys) (frz:=frz) (css:=cx++cy) hst (λg hg hne=>by
   grind) hsz hvb (λg o hs=>hs.imp id (λh=>h.2.1)) os tape output (by simp_all)
  ((
   hcx.mono (λx c hx=>Rep.keep hst _ _ _ hx)).append (hcy.mono (λx c hx=>Rep.keep hst _ _ _ hx))) (λg hg=>by
   have hold:∀o,S g o->frz=Ã/\o<xs.length*el.size:=by
    intro o hs;rcases hcase with⟨rfl,rfl⟩|⟨hb,⟨g0,hg0⟩,hh⟩|⟨hb,hh⟩
    .grind
    .grind
    .rw[hb]at hg;simp at hg;subst hg;exact absurd hs (jdR hR o)
   grind[Ï]) (λg hg=>by
   rcases hcase with⟨rfl,rfl⟩|⟨hb,⟨g0,hg0⟩,hh⟩|⟨hb,hh⟩
   .simp_all
   .simp_all
   .rw[hb]at hg;simp at hg;subst hg;exact hR.kw_new (Ì _))
 exact⟨v',w',S',_,hr,hRn,hcn⟩
theorem jBD(L l:F G)(v:G)(n:H)(h:n<L.length) :
  (L.set n v).take (n+1)++l++(L.set n v).drop (n+1+l.length)=L.take n++v::l++L.drop (n+(l.length+1)):=by
 obtain⟨A,x,B,hA,rfl⟩:∃A x B,ß A=n/\L=A++x::B:=⟨L.take n,L[n],L.drop (n+1),sqo_,by rw[þ h,Ø]⟩;subst hA;rw[List.set_append_right _ _ (Ì _),Nat.sub_self,List.set_cons_zero];have e1:(A++v::B).take (A.length+1)=A++[v]:=by rw[show A++v::B=(A++[v])++B by simp];exact ÿ smp_
 have e2:(A++x::B).take A.length=A:=ÿ rfl;have e3:∀y,(A++y::B).drop (A.length+1+l.length)=B.drop l.length:=by intro y;rw[show A++y::B=(A++[y])++B by simp,<-List.drop_drop,List.drop_left' smp_]
 rw[e1,e2,e3,show A.length+(l.length+1)=A.length+1+l.length by omega,e3];simp
theorem jp6(off:H):∀(l:F G)(k:H)(cells:Î G),off+k+l.length<=cells.size->
  ((l.zipIdx k).foldl (λcs x=>cs.setIfInBounds (off+x.2) x.1) cells).toList=cells.toList.take (off+k)++l++cells.toList.drop (off+k+l.length)
 |[],k,cells,_=>smp_
 |v::l,k,cells,h=>by
  simp only[List.length_cons]at h;rw[List.zipIdx_cons,List.foldl_cons,jp6 off l (k+1) _ sqo_];simp only[Array.toList_setIfInBounds];rw[show off+(k+1)=off+k+1 by omega];exact jBD cells.toList l v (off+k) sqo_
theorem jnG(cells:Î G)(off:H)(zs:Î G)(h:off+zs.size<=cells.size) :
  (zs.zipIdx.foldl (λcs (x:G×H)=>cs.setIfInBounds (off+x.2) x.1) cells).toList=cells.toList.take off++zs.toList++cells.toList.drop (off+zs.size):=by
 rw[<-Array.foldl_toList,Array.toList_zipIdx];have:=jp6 off zs.toList 0 cells (by simpa using h);simpa using this
theorem jgM(z:F G):∀(n p:H),p<n*z.length->(O n z).flatten[p]? = z[p%z.length]?
 |0,p,h=>by simp at h
 |n+1,p,h=>by
  rw[List.replicate_succ,Ö];by_cases hp:p<z.length
  .rw[List.getElem?_append_left hp,Nat.mod_eq_of_lt hp]
  .rw[List.getElem?_append_right omg_,jgM z n (p-z.length) (by rw[Ï]at h;omega)];congr 1;exact(Nat.mod_eq_sub_mod omg_).symm
theorem jmQ(z:Î G)(n:H)(hz:0<z.size):((æ (n*z.size)).map (λi=>z[i%z.size]!)).toList=(O n z.toList).flatten:=by
 apply ô;intro p;by_cases hp:p<n*z.size
 .rw[jgM z.toList n p (by simpa using hp)];have hm:p%z.size<z.size:=Nat.mod_lt _ hz;simp[hp,hm]
 .rw[List.getElem?_eq_none sqo_,List.getElem?_eq_none (by rw[List.length_flatten];simp;omega)]
theorem jhT{t:Ty}{z:G}(h:z.cells.toList=jdM t):z.cells.size=t.size:=by
 have:=Rep.length t t.dflt _ (j8t (S:=λ_ _=>False) (w:=(default:É)) t);rw[<-h]at this;simpa using this
theorem jkc{t:Ty}{z:G}(h:z.cells.toList=jdM t):∀u∈z.cells.toList,One u:=by
 rw[h];exact Rep.one t t.dflt _ (j8t (S:=λ_ _=>False) (w:=(default:É)) t)
theorem jkL{P:À}{T:H->Â TyI}(hT:j1L P T){t:Ç}{ti:TyI}(ht:T t=D ti){ty:Ty}(hty:ti.ty=D ty) :
  ∃z:G,z.cells.toList=jdM ty/\(Instr.alloc t Ã (.tuple #[])).run P w = .ok (.pointer (D ⟨w.heap.size,0,U⟩)) (w.alloc (.cells z.cells t)):=by
 obtain⟨z,hz,hc⟩:=jet hT ht w hty;refine⟨z,hc,?_⟩;simp only[Instr.alloc,Á,hz,I,newVar,newRow,run_newObj,Ä,World.alloc_eq]
theorem jv5{P:À}(t:Ç)(v:G):(Instr.box t v).run P w = .ok (.pointer (D ⟨w.heap.size,0,U⟩)) (w.alloc (.cells v.cells t)):=by
 simp only[Instr.box,Á,newVar,newRow,run_newObj,I,Ä,World.alloc_eq]
theorem jsb{P:À}{α β:Type}(f:α->Sem β)(g:α->β):∀(l:F α),(∀x∈l,(f x).run P w = .ok (g x) w)->(l.mapM f).run P w = .ok (l.map g) w
 |[],_=>smp_
 |x::l,h=>by
  rw[List.mapM_cons];simp only[Á,h x smp_,I,jsb f g l (λy hy=>h y (by simp[hy])),Ä,List.map_cons]
theorem jsc{bx:H->BS}{ti:TyI}{sz:H->Â H}{place:H->Â (H×H)}(hp:∀i f n,ti.flds[i]? = D f->sz f.2=D n->place i=D (f.1,n)) :
  ∀(ps:F (H×Cel))(vs:F (H×G)){ls ls':F Leaf}{cells:Î G},All2 (λp v=>p.1=v.1/\j0n S w γ bx p.2 v.2) ps vs->jmE ti sz ls ps=D ls'->
   All2 (j08 S w γ bx) ls cells.toList->(∀u∈cells.toList,One u)->∃cells',Ü place cells vs=D cells'/\All2 (j08 S w γ bx) ls' cells'.toList/\∀u∈cells'.toList,One u
 |[],[],ls,ls',cells,_,h,ha,h1=>by
  simp[jmE]at h;subst h;exact⟨cells,rfl,ha,h1⟩
 |(i,c)::ps,(j,v)::vs,ls,ls',cells,⟨⟨hij,hc⟩,hps⟩,h,ha,h1=>by
  simp only at hij;subst hij;simp only[jmE]at h;split at h
  .rename_i f hf;split at h
   .rename_i new hnew;split at h
    .rename_i hcond;obtain⟨hsz,hle⟩:=hcond;obtain⟨hl,hl1⟩:=jal hnew hc;have hlen:=hl.length;have hlc:=ha.length;have hvs:v.cells.size=new.length:=by rw[hlen];simp
     have hcs:cells.size=ls.length:=by rw[hlc];simp
     have hfo:=jnG cells f.1 v.cells omg_;have hsp:=jdT (c:=f.1) ha hl
     obtain⟨cells',hfill,h2,h3⟩:=jsc hp ps vs (cells:=(v.cells.zipIdx.foldl (λcs (x:G×H)=>cs.setIfInBounds (f.1+x.2) x.1) cells)) hps h
      (by rw[hfo];simpa using hsp) (by
       rw[hfo];intro u hu;simp only[ì]at hu;rcases hu with (hu|hu)|hu
       .exact h1 u (Ú hu)
       .exact hl1 u hu
       .exact h1 u (List.mem_of_mem_drop hu))
     refine⟨cells',?_,h2,h3⟩;simp only[Ü,hp i f _ hf hsz];rw[if_neg (by simp[hvs];omega)];exact hfill
    .simp at h
   .simp at h
  .simp at h
 |[],_::_,_,_,_,h,_,_,_=>h.elim
 |_::_,[],_,_,_,h,_,_,_=>h.elim
theorem jty{P:À}{E:Env}(hT:j1L P E.T){bx:H->BS}{t:Ç}{ti:TyI}(ht:E.T t=D ti){ty:Ty}(hty:ti.ty=D ty)(hag:ty.agg=Ã)
  {ps:F (H×Cel)}{vs:Î (H×G)}{ls:F Leaf}(hps:All2 (λp v=>p.1=v.1/\j0n S w γ bx p.2 v.2) ps vs.toList)
  (h:jmE ti (λt=>(E.T t).map (·.size)) (jhL ty) ps=D ls) :
  ∃z,(ç t vs).run P w = .ok z w/\j0n S w γ bx (.st ls) z:=by
 obtain⟨z,hz,hzc⟩:=jet hT ht w hty;obtain⟨i,d,hi,hd,_,_,_,hfl,hdesc⟩:=j5v hT ht;have hdd:=(hdesc ty hty).2.2;cases d with
 |struct fs=>
  simp only[jp0,J,decide_eq_true_eq]at hfl;obtain⟨hf1,hf2⟩:=hfl
  have hplaces:(fs.mapM (λf=>do pure (f.offset,<-sizeOf f.type):Field->Sem (H×H))).run P w = .ok (fs.map λf=>(f.offset,((E.T f.type).map (·.size)).getD 0)) w:=by
   rw[Array.mapM_eq_mapM_toList]
   have:=jsb (P:=P) (w:=w) (λf=>(do pure (f.offset,<-sizeOf f.type):Sem (H×H))) (λf:Field=>(f.offset,((E.T f.type).map (·.size)).getD 0)) fs.toList (λf hf=>by
    have:=List.all_eq_true.1 hf2 f hf;split at this
    .rename_i tf htf;simp only[Á,j2J hT htf,I,Ä,htf,à,Option.getD_some]
    .simp at this)
   simp only[Sem.run_map,this,I];congr 1;apply ý;simp
  have hp:∀(i:H)(f:H×H)(n:H),ti.flds[i]? = D f->(E.T f.2).map (·.size)=D n->(fs.map λf=>(f.offset,((E.T f.type).map (·.size)).getD 0))[i]? = D (f.1,n):=by
   intro i f n hf hn;rw[<-hf1,õ]at hf;cases hq:fs.toList[i]? with
   |none=>simp[hq]at hf
   |some fl=>
    simp only[hq,à,j5]at hf;subst hf;have hq':fs[i]? = D fl:=by simpa using hq
    simp only at hn;simp[hq',hn]
  obtain⟨cells',hfill,ha,h1⟩:=jsc (S:=S) (w:=w) (γ:=γ) (place:=λi=>(fs.map λf=>(f.offset,((E.T f.type).map (·.size)).getD 0))[i]?) hp ps vs.toList (cells:=z.cells) hps h (by rw[hzc];exact jaJ ty) (jkc hzc);refine⟨.agg cells',?_,cells',rfl,ha,h1⟩;simp only[ç,Á,hz,I,run_underlying hd,hplaces,hfill,Ä]
 |_=>exfalso;revert hdd hag;cases ty<;>simp[j9f,Ty.agg]
theorem jmR{rd:H->BS}{el:Ty}:∀(ps:F (H×Cel)){xs xs':F el.den}{u u':Ups},ja5 rd el xs u ps=D (xs',u')->∃u2,u'=u++u2
 |[],_,_,u,u',h=>by simp[ja5]at h;exact⟨[],by simp[h.2]⟩
 |(i,c)::ps,xs,xs',u,u',h=>by
  simp only[ja5]at h;split at h
  .split at h
   .obtain⟨u2,hu⟩:=jmR ps h;exact⟨_,by rw[hu,List.append_assoc]⟩
   .simp at h
  .simp at h
theorem jiZ{rd:H->BS}(hrd:RdF np σ rd)(hB:jp4 S w γ σ.bx){el:Ty}(hpos:0<el.size):∀(ps:F (H×Cel))(vs:F (H×G)){xs xs':F el.den}{u u':Ups},
  All2 (λp v=>p.1=v.1/\j0n S w γ σ.bx p.2 v.2) ps vs->ja5 rd el xs u ps=D (xs',u')->FrzL np σ.bx u->
  FrzL np σ.bx u'/\∀S',j3r S w S' w->Froz σ.bx γ S' w u'->∀(css:F (F G))(cells:Î G),All2 (λx c=>Rep S' w el x c) xs css->cells.toList=css.flatten->
   ∃cells' css',Ü (λi=>D (i*el.size,el.size)) cells vs=D cells'/\All2 (λx c=>Rep S' w el x c) xs' css'/\cells'.toList=css'.flatten
 |[],[],xs,xs',u,u',_,h,hf=>by
  simp[ja5]at h;obtain⟨rfl,rfl⟩:=h;exact⟨hf,λS' _ _ css cells ha hc=>⟨cells,css,rfl,ha,hc⟩⟩
 |(i,c)::ps,(j,v)::vs,xs,xs',u,u',⟨⟨hij,hc⟩,hps⟩,h,hf=>by
  simp only at hij;subst hij;simp only[ja5]at h;split at h
  .rename_i x u1 hx;split at h
   .rename_i hi;obtain⟨hf1,hr1,hl1⟩:=jdQ hrd hB hx hc;obtain⟨hf',hrest⟩:=jiZ hrd hB hpos ps vs hps h (FrzL.app.2 ⟨hf,hf1⟩);obtain⟨u2,hu2⟩:=jmR ps h;refine⟨hf',λS' hst hfz css cells ha hcells=>?_⟩;have hrx:=(hr1 S' w hst (Froz.app.1 (Froz.app.1 (hu2▸hfz)).1).2).1;have hlcs:cells.size=xs.length*el.size:=by have:=All2.flatten_length (λx c hx=>Rep.length el x c hx) ha;rw[<-hcells]at this;simpa using this
    have him:i*el.size+el.size<=xs.length*el.size:=by have:(i+1)*el.size<=xs.length*el.size:=Z _ omg_;rwa[Nat.succ_mul]at this
    have hl1:v.cells.toList.length=el.size:=hl1;have hvs:v.cells.size=el.size:=by simpa using hl1
    have hzz:v.cells.toList.length=v.cells.size:=Ð;have hfo:=jnG cells (i*el.size) v.cells omg_;obtain⟨ci,hci⟩:∃ci,css[i]? = D ci:=⟨css[i]'(by rw[<-ha.length];exact hi),û _⟩;have hrs:=jqz (cur:=cells.toList) (n:=xs.length) (c:=0) (zs:=v.cells.toList) (All2.all_len ha) ha.length.symm (by rw[hcells,<-hcells];exact Y (by simp[hlcs])) hci omg_;have hcl:ci.length=el.size:=All2.all_len ha ci (List.mem_of_getElem? hci)
    have hnew:cells.toList.take (i*el.size)++v.cells.toList++cells.toList.drop (i*el.size+v.cells.size)=(css.set i v.cells.toList).flatten:=by
     have e1:ci.take 0++v.cells.toList++ci.drop (0+v.cells.toList.length)=v.cells.toList:=by rw[Ë omg_];simp
     rw[e1]at hrs;rw[<-hrs];symm;refine(Y ?_).trans ?_
     .simp;omega
     .simp
    obtain⟨cells',css',h1,h2,h3⟩:=hrest S' hst hfz (css.set i v.cells.toList) _ (ha.set i x v.cells.toList hrx) (hfo.trans hnew);refine⟨cells',css',?_,h2,h3⟩;simp only[Ü];rw[if_neg (by simp[hvs];omega)];exact h1
   .simp at h
  .simp at h
 |[],_::_,_,_,_,_,h,_,_=>h.elim
 |_::_,[],_,_,_,_,h,_,_=>h.elim
theorem jv6{P:À}{t e:Ç}(h:P.underlying t=D (.slice e)):P.elem t=e:=by simp[Program.elem,h]
def VB(d:H)(o:Â G)(i:H):Prop:=(o=U/\i=d)\/∃k,o=D (.int k (i:Int))
theorem jam{P:À}{w:É}{t:Ç}{e s:H}(hd:P.underlying t=D (.slice e))(hs:(sizeOf e).run P w = .ok s w){ad:Â Addr}{len cap i j:H}{lo hi:Â G}
  (hlo:VB 0 lo i)(hhi:VB len hi j)(hij:i<=j)(hj:j<=cap) :
  (ö t (.slice ad len cap) lo hi U).run P w = .ok (.slice (if cap=i then ad else ad.map (·.add (i*s))) (j-i) (cap-i)) w:=by
 have he:=jv6 hd;have hd':P.underlying t=D (.slice (P.elem t)):=by rw[he];exact hd
 rw[run_sliceAt_slice w t _ _ _ _ hd'];have hs':(sizeOf (P.elem t)).run P w = .ok s w:=by rw[he];exact hs
 rcases hlo with⟨rfl,rfl⟩|⟨kl,rfl⟩
 .rcases hhi with⟨rfl,rfl⟩|⟨kh,rfl⟩;all_goals grind[run_slice_all,Result.andThen,sliced,run_slice_h]
 .rcases hhi with⟨rfl,rfl⟩|⟨kh,rfl⟩;all_goals grind[run_slice_l,Result.andThen,sliced,run_slice_lh]
theorem jp7{el:Ty}{xs:F el.den}{ad:Â Addr}{cap:H}(h:Rep S w (.list el) xs [.slice ad (ß xs) cap]){i j:H}(hij:i<=j)(hj:j<=ß xs) :
  Rep S w (.list el) ((xs.take j).drop i) [.slice (if cap=i then ad else ad.map (·.add (i*el.size))) (j-i) (cap-i)]:=by
 obtain⟨ad',cap',he,hle,hcm,hn,hb⟩:=h;simp only[List.cons.injEq,Ê,and_true,true_and]at he;obtain⟨rfl,rfl⟩:=he;have hlen:((xs.take j).drop i).length=j-i:=sqo_;refine⟨_,_,by rw[hlen],by rw[hlen];omega,omg_,λh=>?_,λb hb'=>?_⟩
 .have:ad=none:=by
   split at h
   .exact h
   .simpa using h
  have:=hn this;omega
 .by_cases hc:cap=i
  .rw[if_pos hc]at hb';have hz:(xs.take j).drop i=[]:=Å omg_;rw[hz];exact⟨λh=>absurd rfl h,[],trivial,λj v hv=>by simp at hv⟩
  .rw[if_neg hc]at hb';cases ad with
   |none=>simp at hb'
   |some b0=>
    simp only[à,j5]at hb';subst hb';obtain⟨hsp,css,ha,hl⟩:=hb b0 rfl;by_cases hx:(xs.take j).drop i=[]
    .rw[hx];exact⟨λh=>absurd rfl h,[],trivial,λj v hv=>by simp at hv⟩
    .have hxs:xs≠[]:=λh=>hx (by rw[h];simp);obtain⟨g,o,sp⟩:=b0;have hsp:=hsp hxs;simp at hsp;subst hsp;have hadd:(⟨g,o,U⟩:Addr).add (i*el.size)=⟨g,o+i*el.size,U⟩:=Æ _ _ _;rw[hadd];refine⟨λ_=>rfl,(css.take j).drop i,(ha.take j).drop i,λq v hq=>?_⟩;have hcl:=All2.all_len ha;rw[jfw i (λc hc=>hcl c (Ú hc)),jaK j hcl,ï,List.getElem?_take]at hq;split at hq
     .have:=hl _ v hq;grind
     .simp at hq
def ORep(R:Leaf->G->Prop):Â Leaf->Â G->Prop
 |none,U=>True
 |some l,D v=>R l v
 |_,_=>False
theorem jex{d:H}{o:Â Leaf}{vo:Â G}{i:Int}{bx:H->BS}(h:bnd d o=D i)(ho:ORep (j08 S w γ bx) o vo)(hi:0<=i):VB d vo i.toNat:=by
 unfold bnd at h;split at h
 .cases vo with
  |none=>simp at h;exact .inl ⟨rfl,omg_⟩
  |some v=>exact ho.elim
 .cases vo with
  |none=>exact ho.elim
  |some v=>simp at h;rename_i k n;have hv:v = .int k n:=jak (S:=S) (w:=w) ho;refine .inr ⟨k,?_⟩;grind
 .simp at h
theorem jtz{P:À}{E:Env}(hT:j1L P E.T)(hR:Rel N np S0 w0 refs σ a w S γ){rd:H->BS}(hrd:RdOk σ rd){t:Ç}{ti:TyI}(ht:E.T t=D ti)
  {d:H}{x l:Leaf}{lo hi:Â Leaf}{vx:G}{vlo vhi:Â G}{u:Ups}(hfree:∀k,j6B (rd k)=Ã->σ.bx k = .free)(h:jmF (parK np) rd ti d x lo hi=D (Ã,l,u))
  (hx:j08 S w γ σ.bx x vx)(hlo:ORep (j08 S w γ σ.bx) lo vlo)(hhi:ORep (j08 S w γ σ.bx) hi vhi) :
  ∃v S' γ',(ö t vx vlo vhi U).run P w = .ok v w/\Rel N np S0 w0 refs (σ.upd u) a w S' γ'/\j0n S' w γ' (σ.upd u).bx (.one l) v:=by
 unfold jmF at h;split at h
 ·-- a datum
  rename_i el xs;split at h
  .rename_i hty;obtain⟨hd,_,te,hte,htea⟩:=j6g hT ht hty;have hsz:=jbr hT hte htea;split at h
   .rename_i i j hi' hj';simp only[j5,j9,J,decide_eq_true_eq]at h;obtain⟨⟨h0,h1,h2⟩,rfl,rfl⟩:=h;have hx':=hx;obtain⟨ad,cap,hv,hle,_⟩:=hx;simp at hv;subst hv;have hlen:((ß xs:H):Int)=Int.ofNat (ß xs):=rfl;refine⟨_,S,γ,jam hd (s:=el.size) ?_ (jex hi' hlo h0) (jex hj' hhi omg_) omg_ omg_,hR,jp7 hx' omg_ omg_,λ_=>rfl⟩;grind[j2J]
   .simp at h
  .simp at h
 .rename_i k;split at h
  ·-- the tail
   split at h
   .rename_i e el xs f hk;split at h
    .rename_i hty;obtain⟨hd,_,te,hte,htea⟩:=j6g hT ht hty;have hsz:=jbr hT hte htea;split at h
     .rename_i i hi';simp only[j5,j9,J,decide_eq_true_eq]at h;obtain⟨⟨h0,h1⟩,rfl,rfl⟩:=h;have hnm:=hrd.nm hk;have hk:=hrd.live hk;have hz:=hx.2.2 _ hk;obtain⟨css,hown,_⟩:=j71 hnm (hR.box k _ hk);obtain⟨ad,cap,hg,hcap⟩:∃ad cap,γ k = .slice ad xs.length cap/\xs.length<=cap:=by rcases hown.2 with⟨hg,hn⟩|⟨g,cap,cur,hg,_,_,hnc,_⟩;all_goals grind
      have hvh:VB xs.length vhi xs.length:=by
       cases vhi with
       |none=>exact .inl ⟨rfl,rfl⟩
       |some v=>exact hhi.elim
      subst hz;have hrun:=jam (ad:=ad) (w:=w) hd (s:=el.size) (by grind[j2J]) (jex hi' hlo h0) hvh omg_ hcap;rw[<-hg]at hrun;refine⟨_,S,γ,hrun,hR,⟨hx.1,rfl,λb hb=>?_⟩,λ_=>rfl⟩;rw[show (σ.upd []).bx k=σ.bx k from rfl,hk]at hb;grind
     .simp at h
    .simp at h
   .simp at h
  .rename_i hh;split at h
   .rename_i e el xs f hk;split at h
    .rename_i hty;obtain⟨hd,_,te,hte,htea⟩:=j6g hT ht hty;have hsz:=jbr hT hte htea;split at h
     .rename_i i j hi' hj';have hnm:=hrd.nm hk;have hk:=hrd.live hk;have hz:=hx.2.2 _ hk;split at h
      ·-- a parameter's: its head
       split at h
       .rename_i hln;simp only[ø]at hln;subst hln;simp only[j5,j9,J,decide_eq_true_eq]at h;obtain⟨⟨h0,h1⟩,rfl,rfl⟩:=h;obtain⟨css,hown,_⟩:=j71 hnm (hR.box k _ hk)
        have hvl:VB 0 vlo 0:=by
         cases vlo with
         |none=>exact .inl ⟨rfl,rfl⟩
         |some v=>exact hlo.elim
        have hvh:=jex hj' hhi h0;obtain⟨ad,cap,hg,hcap,had⟩:∃ad cap,γ k = .slice ad xs.length cap/\xs.length<=cap/\(if cap=0 then ad else ad.map (·.add (0*el.size)))=ad:=by rcases hown.2 with⟨hg,hn⟩|⟨g,cap,cur,hg,_,_,hnc,_⟩;all_goals grind[Æ]
        have hrun:=jam (ad:=ad) (w:=w) hd (s:=el.size) (by grind[j2J]) hvl hvh omg_ (show j.toNat<=cap by omega);rw[<-hg,had]at hrun;subst hz;refine⟨_,S,γ,hrun,hR,⟨hx.1,rfl,λb hb=>?_⟩,λ_=>rfl⟩;rw[show (σ.upd []).bx k=σ.bx k from rfl,hk]at hb;grind
       .simp at h
      rename_i hkp;have hkp:parK np k=false:=by simpa using hkp
      split at h
      ·-- cut short
       rename_i hlf;simp only[J,ø,Bool.not_eq_eq_eq_not,Bool.not_true]at hlf;obtain⟨rfl,rfl⟩:=hlf;split at h
       .rename_i hfr;simp only[j5,j9,J,decide_eq_true_eq]at h;obtain⟨⟨h0,h1⟩,rfl,rfl⟩:=h;have hdf:=hfree d hfr;have hdk:d≠k:=by grind
        obtain⟨css,hown,hall,hS⟩:=j71 hnm (hR.box k _ hk);have hcl:=All2.all_len hall
        have hvl:VB 0 vlo 0:=by
         cases vlo with
         |none=>exact .inl ⟨rfl,rfl⟩
         |some v=>exact hlo.elim
        have hvh:=jex hj' hhi h0;have hR1:=jgl hR hk;have hd1:(σ.setB k .gone).bx d = .free:=by grind[j07]
        have hjl:j.toNat<=xs.length:=omg_;have hcss:css.length=xs.length:=hall.length.symm
        have key:∃v',(ö t vx vlo vhi U).run P w = .ok v' w/\w.ownsRow 0 e el.size v' (W j.toNat xs).length (W j.toNat css).flatten/\blk v'=blk vx:=by
         rw[hz];have hlt:(W j.toNat xs).length=j.toNat:=sqo_;rcases hown.2 with⟨hg,hn⟩|⟨g,cap,cur,hg,_,hh,hnc,hcm,hcs,htake⟩
         .rw[hg];have hj0:j.toNat=0:=omg_;refine⟨_,jam hd (s:=el.size) (len:=0) (by grind[j2J]) hvl (by rw[hn]at hvh;exact hvh) omg_ omg_,?_,by simp;rfl⟩
          simp_all
         .rw[hg];refine⟨_,jam hd (s:=el.size) (by grind[j2J]) hvl hvh omg_ omg_,?_,?_⟩
          .refine⟨?_,.inr ⟨g,cap,cur,?_,Ñ _,hh,omg_,hcm,hcs,?_⟩⟩
           .rw[jaK _ hcl,Ò,hown.1,hlt]
            simp_all
           .grind[Æ]
           .rw[hlt,jaK _ hcl,<-htake,î,ë (Z _ hjl)]
          .by_cases hc:cap=0
           .simp[hc];rfl
           .simp[hc,Æ];rfl
        obtain⟨v',hrun,hrow,hblk⟩:=key
        have hfacts:∀g,blk v'=D g->Own w0 refs g/\(∀k' b,(σ.setB k .gone).bx k' = .live b->blk (γ k')≠D g)/\g<w.heap.size:=by
         intro g hg;rw[hblk,hz]at hg;refine⟨?_,λk' b' hb' hg'=>?_,j4T (hR.box k _ hk) hg⟩
         .rcases hR.own k _ g hk hg with h|h;all_goals simp_all
         .have hkk:k'≠k:=by grind[j0B]
          rw[j07 σ _ hkk]at hb';exact hR.apart k' k _ _ g hkk hb' hk hg' hg
        obtain⟨hRn,hcn⟩:=jgm hR1 hd1 (hm:=hnm) (w':=w) (S':=S) (v':=v') (e:=e) (el:=el) (zs:=W j.toNat xs) (frz:=M) (css:=W j.toNat css) (.refl S w) (λg hg hne=>rfl) (Ì _) hfacts
         (λg o hs=> .inl hs) rfl rfl rfl hrow (hall.take _) (λg hg=>⟨λ_=>(hS g (by simp_all)).1 rfl,smp_⟩) (λg hg=>hR.kw_live hk (by simp_all))
        exact⟨v',S,_,hrun,hRn,hcn⟩
       .simp at h
      ·-- shared
       simp only[j5,j9,J,decide_eq_true_eq]at h;obtain⟨⟨h0,h1,h2⟩,rfl,rfl⟩:=h;obtain⟨S',hR',hst,hrep⟩:=jiY hR hnm hk hkp;have hrep':=hrep;obtain⟨ad,cap,hv,hle,_⟩:=hrep;simp at hv;rw[hv]at hrep';refine⟨_,S',γ,by rw[hz,hv];exact jam hd (s:=el.size) (by grind[j2J]) (jex hi' hlo h0) (jex hj' hhi omg_) omg_ omg_,hR',jp7 hrep' omg_ omg_,λ_=>rfl⟩
     .simp at h
    .simp at h
   .simp at h
 ·-- of a head
  rename_i k m;split at h
  .rename_i e el xs f hk;split at h
   .rename_i hty;obtain⟨hty,hhs⟩:=hty;obtain⟨hd,_,te,hte,htea⟩:=j6g hT ht hty;have hsz:=jbr hT hte htea;split at h
    .rename_i i j hi' hj';simp only[j5,j9,J,decide_eq_true_eq]at h;obtain⟨⟨h0,h1,h2⟩,rfl,rfl⟩:=h;have hnm:=hrd.nm hk;have hk:=hrd.live hk;obtain⟨_,hm,ad,cap,hg,hz⟩:=hx.2.2 _ hk;obtain⟨css,hown,_⟩:=js7 hg (hR.box k _ hk);have hcap:xs.length<=cap:=by rcases hown.2 with⟨hg',hn⟩|⟨g,cap',cur,hg',_,_,hnc,_⟩;all_goals simp_all
     have hvh:VB m vhi xs.length:=by
      have:=jex hj' hhi omg_;rw[h2,j8]at this;rcases this with⟨h3,_⟩|h3
      .cases hi with
       |none=>simp at hhs
       |some y=>subst h3;exact hhi.elim
      .exact .inr h3
     have hrun:=jam (ad:=ad) (w:=w) hd (s:=el.size) (by grind[j2J]) (jex hi' hlo h0) hvh omg_ hcap;subst hz;refine⟨_,S,γ,hrun,hR,⟨hx.1,rfl,λb hb=>?_⟩,λ_=>rfl⟩;rw[show (σ.upd []).bx k=σ.bx k from rfl,hk]at hb;grind
    .simp at h
   .simp at h
  .simp at h
 .simp at h
theorem jtA{P:À}{E:Env}(hT:j1L P E.T)(hR:Rel N np S0 w0 refs σ a w S γ){rd:H->BS}(hrd:RdOk σ rd){t:Ç}{ti:TyI}(ht:E.T t=D ti)
  {x mx:Leaf}{lo hi:Â Leaf}{vx vm:G}{vlo vhi:Â G}(h:jmG rd ti x lo hi mx=D Ã)
  (hx:j08 S w γ σ.bx x vx)(hlo:ORep (j08 S w γ σ.bx) lo vlo)(hhi:ORep (j08 S w γ σ.bx) hi vhi)(hmx:j08 S w γ σ.bx mx vm) :
  ∃v,(ö t vx vlo vhi (D vm)).run P w = .ok v w:=by
 unfold jmG at h;split at h
 case h_2=>simp at h
 rename_i k k1 i k2 j k3 m;split at h
 case h_2=>simp at h
 rename_i e el xs f hk;split at h
 case isFalse=>simp at h
 rename_i hty;simp only[j5,J,decide_eq_true_eq]at h;obtain⟨h0,h1,h2,h3⟩:=h;obtain⟨hd,_,te,hte,htea⟩:=j6g hT ht hty;have hsz:=jbr hT hte htea;have hnm:=hrd.nm hk;have hk:=hrd.live hk;have hz:=hx.2.2 _ hk;cases vlo with
 |none=>exact hlo.elim
 |some vl=>
 cases vhi with
 |none=>exact hhi.elim
 |some vh=>
 have e1:vl = .int k1 i:=jak (S:=S) (w:=w) hlo;have e2:vh = .int k2 j:=jak (S:=S) (w:=w) hhi;have e3:vm = .int k3 m:=jak (S:=S) (w:=w) hmx;subst e1 e2 e3;obtain⟨css,hown,_⟩:=j71 hnm (hR.box k _ hk);have he:=jv6 hd;have hd':P.underlying t=D (.slice (P.elem t)):=by rw[he];exact hd
 rw[run_sliceAt_slice w t _ _ _ _ hd'];have hs':(sizeOf (P.elem t)).run P w = .ok el.size w:=by grind[j2J]
 have key:∀ad n cap,(m:Int)<=(cap:H)->∃v,(Instr.slice t (.slice ad n cap) (D (.int k1 i)) (D (.int k2 j)) (D (.int k3 m))).run P w = .ok v w:=by intro ad n cap hc;rw[run_slice_lhm w t ad n cap hd' _ _ _ _ _ _ h0 h1 h2 hc,hs'];exact⟨_,rfl⟩
 rcases hown.2 with⟨hg,hn⟩|⟨g,cap,cur,hg,_,hh,hnc,_⟩
 .simp_all
 .rw[hz,hg];exact key _ _ _ (Int.le_trans h3 omg_)
theorem jv7(hR:Rel N np S0 w0 refs σ a w S γ){x:Leaf}{k i e:H}{el:Ty}{xs:F el.den}{f:ä}{vx:G}(h:js3 x=D (k,i))(hnm:isM e=M)(hk:σ.bx k = .live (.lst e el xs f))
  (hx:j08 S w γ σ.bx x vx):i<=xs.length/\((xs.length=0/\vx = .slice U 0 0)\/
   ∃g cap,γ k = .slice (D ⟨g,0,U⟩) xs.length cap/\xs.length<=cap/\vx = .slice (D ⟨g,if cap=i then 0 else i*el.size,U⟩) (xs.length-i) (cap-i)):=by
 obtain⟨css,hown,hall,hS⟩:=j71 hnm (hR.box k _ hk);unfold js3 at h;split at h
 .simp only[j5,j9]at h;obtain⟨rfl,rfl⟩:=h;have hz:=hx.2.2 _ hk;refine⟨Ñ _,?_⟩;rcases hown.2 with⟨hg,hn⟩|⟨g,cap,cur,hg,_,hh,hnc,hcm,hcs,htake⟩;all_goals grind
 .rename_i k' i';simp only[j5,j9]at h;obtain⟨rfl,rfl⟩:=h;obtain⟨_,hi,ad,cap,hg',hv⟩:=hx.2.2 _ hk;refine⟨hi,?_⟩;rcases hown.2 with⟨hg,hn⟩|⟨g,cap',cur,hg,_,hh,hnc,hcm,hcs,htake⟩;all_goals grind[Æ]
 .simp at h
theorem jj0{P:À}(hR:Rel N np S0 w0 refs σ a w S γ){k i e g cap:H}{el:Ty}{xs zs:F el.den}(hk:σ.bx k = .live (.lst e el xs M))(hg:γ k = .slice (D ⟨g,0,U⟩) xs.length cap)
  {cz:F (F G)}(hz:All2 (λx c=>Rep S w el x c) zs cz)(hl:i+zs.length<=xs.length) :
  ∃w',(storeCells ⟨g,i*el.size,U⟩ cz.flatten).run P w = .ok () w'/\Rel N np S0 w0 refs (σ.setB k (.live (.lst e el (W i xs++(zs++Ù (i+zs.length) xs)) M))) a w' S γ:=by
 have hnm:=jD1 hg (hR.box k _ hk);obtain⟨css,hown,hall,hS⟩:=j71 hnm (hR.box k _ hk);have hlz:cz.flatten.length=zs.length*el.size:=All2.flatten_length (λx c hx=>Rep.length el x c hx) hz;have h1:∀u∈cz.flatten,One u:=by intro u hu;obtain⟨c,hc,huc⟩:=List.mem_flatten.1 hu;obtain⟨x,_,hx⟩:=hz.mem_right c hc;grind[Rep.one]
 rcases hown.2 with⟨hg',hn⟩|⟨g',cap',cur,hg',_,hh,hnc,hcm,hcs,htake⟩
 .simp_all
 rw[hg]at hg';simp only[Ê,j5,Addr.mk.injEq,and_true,true_and]at hg';obtain⟨rfl,rfl⟩:=hg';have hm1:i*el.size+zs.length*el.size<=xs.length*el.size:=by rw[<-Ï];exact Z _ hl
 have hm2:xs.length*el.size<=cap*el.size:=Z _ hnc;have hst:=run_storeCells_at P g (i*el.size) e cz.flatten 0 cur w hh (by rw[hlz,hcs];omega) h1;simp only[Nat.add_zero]at hst;refine⟨_,hst,?_⟩;have hcl:=All2.all_len hall;have hczl:=All2.all_len hz;have hnS:∀o,¬S g o:=(hS g (by rw[hg];rfl)).1 rfl;refine jdS hR hk (by rw[hg];rfl) hnS (b':= .lst e el _ M) ⟨rfl,rfl,λ_=>sqo_⟩ hh (λhle2 hst2=>?_);have hlen:(W i xs++(zs++Ù (i+zs.length) xs)).length=xs.length:=sqo_;refine jiT hnm ⟨css.take i++(cz++css.drop (i+zs.length)),⟨?_,.inr ⟨g,cap,_,?_,Ñ _,setRow_heap w g cur _ e (0,0) hh,by rw[hlen];exact hnc,hcm,?_,?_⟩⟩,?_,λg' hg'=>?_⟩
 .grind[jew,All2.length,È]
 .rw[hlen];exact hg
 .grind
 .rw[hlen];simp only[List.flatten_append,jaK i hcl,jfw _ hcl,<-htake];have hA:(cur.toList.take (i*el.size)).length=i*el.size:=sqo_;rw[List.append_assoc,å,hA,Y omg_,î,ë omg_];congr 1;rw[å,hlz,Y omg_,Ï];congr 1;grind[List.drop_take]
 .exact((hall.mono (λx c hx=>Rep.keep hst2 _ _ _ hx)).take _).append ((hz.mono (λx c hx=>Rep.keep hst2 _ _ _ hx)).append ((hall.mono (λx c hx=>Rep.keep hst2 _ _ _ hx)).drop _))
 simp_all
theorem jp8{σ:St}{k:H}{b:BS}(h:σ.bx k=b):σ.setB k b=σ:=by
 unfold St.setB;congr 1;grind
theorem jv8{P:À}{E:Env}(hT:j1L P E.T)(hR:Rel N np S0 w0 refs σ a w S γ){rd:H->BS}(hrd:RdOk σ rd){t ty:Ç}{ti:TyI}(ht:E.T t=D ti)
  {x y l:Leaf}{u:Ups}{vx vy:G}(h:jto rd ti.ty x y=D (l,u))(hx:j08 S w γ σ.bx x vx)(hy:j08 S w γ σ.bx y vy) :
  ∃v w',(ù #[t,t] ty #[vx,vy]).run P w = .ok v w'/\Rel N np S0 w0 refs (σ.upd u) a w' S γ/\j0n S w' γ (σ.upd u).bx (.one l) v:=by
 unfold jto at h;split at h
 .rename_i k i htl;split at h
  .rename_i e el xs hk;split at h
   .rename_i hty;split at h
    .rename_i ys hys;simp only[j5,j9]at h;obtain⟨rfl,rfl⟩:=h;have hnm:=hrd.nm hk;have hk:=hrd.live hk;obtain⟨hd,hpos,te,hte,htea⟩:=j6g hT ht hty;have hsz:=jbr hT hte htea;have hsize:(sizeOf ti.elem).run P w = .ok el.size w:=by grind[j2J]
     obtain⟨ad,c,cy,hvy,hnil,hcy,hcell⟩:=jsa hR hrd hys hy;subst hvy;obtain⟨hi,hcase⟩:=jv7 hR htl hnm hk hx;have hcyl:=All2.all_len hcy;have hyl:cy.length=ys.length:=hcy.length.symm;have hzl:(W (xs.length-i) ys).length=min ys.length (xs.length-i):=sqo_;have hov:over xs i ys=W i xs++(W (xs.length-i) ys++Ù (i+(W (xs.length-i) ys).length) xs):=by unfold over;grind[Ë]
     have hload:(á el.size (min ys.length (xs.length-i)) (.slice ad ys.length c)).run P w = .ok (W (xs.length-i) cy).flatten.toArray w:=by
      cases ad with
      |none=>
       have h0:=(hnil rfl).1
       simp_all[á]
      |some b=>
       have e1:(W (xs.length-i) cy).flatten.length=min ys.length (xs.length-i)*el.size:=by grind[jew,Ò]
       have:=run_loadCells_list (P:=P) w b (W (xs.length-i) cy).flatten (λj v hj=>by
        rw[jaK _ hcyl,List.getElem?_take]at hj;split at hj;all_goals simp_all)
       grind[á]
     have hrun:∀base dl dc w',vx = .slice base dl dc->dl=xs.length-i->(base=U->w'=w)->(∀ab,base=D ab->(storeCells ab (W (xs.length-i) cy).flatten).run P w = .ok () w')->
       (ù #[t,t] ty #[vx,.slice ad ys.length c]).run P w = .ok (goInt ((min ys.length (xs.length-i):H):Int)) w':=by
      intro base dl dc w' hv hdl hb1 hb2;subst hv hdl;have hmin:Nat.min ys.length (xs.length-i)=min ys.length (xs.length-i):=rfl;cases base with
      |none=>simp[ù,run_underlying hd,Builtin.lenOf,hsize,hmin,hload,hb1 rfl]
      |some ab=>simp[ù,run_underlying hd,Builtin.lenOf,hsize,hmin,hload,hb2 ab rfl]
     by_cases hn:min ys.length (xs.length-i)=0
     .have hz:W (xs.length-i) ys=[]:=Å (by rw[hzl];exact hn);have hzc:(W (xs.length-i) cy).flatten=[]:=by grind
      have hov':over xs i ys=xs:=by rw[hov,hz];simp
      refine⟨_,w,?_,?_,⟨rfl,λ_=>rfl⟩⟩
      .rcases hcase with⟨h0,hv⟩|⟨g,cap,hg,hcap,hv⟩
       .exact hrun U 0 0 w hv omg_ (λ_=>rfl) (λab hab=>by simp at hab)
       .refine hrun _ _ _ w hv rfl (λ_=>rfl) (λab hab=>?_);rw[hzc];rfl
      .show Rel N np S0 w0 refs (σ.setB k (.live (.lst e el (over xs i ys) M))) a w S γ;grind[jp8]
     .rcases hcase with⟨h0,hv⟩|⟨g,cap,hg,hcap,hv⟩
      .omega
      .have hci:cap≠i:=omg_;rw[if_neg hci]at hv;obtain⟨w',hst,hRn⟩:=jj0 (P:=P) hR hk hg (i:=i) (hcy.take (xs.length-i)) (by rw[hzl];omega);refine⟨_,w',hrun _ _ _ w' hv rfl (λh=>by simp at h) (λab hab=>?_),?_,⟨rfl,λ_=>rfl⟩⟩
       .simp_all
       .show Rel N np S0 w0 refs (σ.setB k (.live (.lst e el (over xs i ys) M))) a w' S γ;rw[hov];exact hRn
    .simp at h
   .simp at h
  .simp at h
 .simp at h
theorem jtB{P:À}{E:Env}(hT:j1L P E.T)(hR:Rel N np S0 w0 refs σ a w S γ){rd:H->BS}(hrd:RdOk σ rd){t ty:Ç}{ti:TyI}(ht:E.T t=D ti)
  {x:Leaf}{u:Ups}{vx:G}(h:jmH rd ti.ty x=D u)(hx:j08 S w γ σ.bx x vx) :
  ∃v w',(Builtin.clear_ #[t] ty #[vx]).run P w = .ok v w'/\Rel N np S0 w0 refs (σ.upd u) a w' S γ:=by
 unfold jmH at h;split at h
 .rename_i k i htl;split at h
  .rename_i e el xs hk;split at h
   .rename_i hty;simp only[j5]at h;subst h;have hnm:=hrd.nm hk;have hk:=hrd.live hk;obtain⟨hd,hpos,te,hte,htea⟩:=j6g hT ht hty;have hsz:=jbr hT hte htea;obtain⟨z,hz,hzc⟩:=jet hT hte w htea;obtain⟨hi,hcase⟩:=jv7 hR htl hnm hk hx;by_cases hn:xs.length-i=0
    .have hov:W i xs++O (xs.length-i) el.dflt=xs:=by grind[Y]
     refine⟨.tuple #[],w,?_,?_⟩
     .rcases hcase with⟨h0,hv⟩|⟨g,cap,hg,hcap,hv⟩;all_goals simp_all[Builtin.clear_,run_underlying]
     .show Rel N np S0 w0 refs (σ.setB k (.live (.lst e el (W i xs++O (xs.length-i) el.dflt) M))) a w S γ;grind[jp8]
    .rcases hcase with⟨h0,hv⟩|⟨g,cap,hg,hcap,hv⟩
     .omega
     .have hci:cap≠i:=omg_;rw[if_neg hci]at hv
      have hrl:All2 (λx c=>Rep S w el x c) (O (xs.length-i) el.dflt) (O (xs.length-i) (jdM el)):=by
       have h0:=j8t (S:=S) (w:=w) el
       have:∀n,All2 (λx c=>Rep S w el x c) (O n el.dflt) (O n (jdM el)):=by
        intro n;induction n with
        |zero=>exact trivial
        |succ n ih=>exact⟨h0,ih⟩
       exact this _
      obtain⟨w',hst,hRn⟩:=jj0 (P:=P) hR hk hg (i:=i) hrl sqo_;refine⟨.tuple #[],w',?_,?_⟩
      .have hzp:0<z.cells.size:=by have:=jhT hzc;omega
       have hcells:(Builtin.zeroCells z.cells (xs.length-i)).toList=(O (xs.length-i) (jdM el)).flatten:=by rw[<-hzc];exact jmQ z.cells (xs.length-i) hzp
       simp_all[Builtin.clear_,run_underlying]
      .show Rel N np S0 w0 refs (σ.setB k (.live (.lst e el (W i xs++O (xs.length-i) el.dflt) M))) a w' S γ
       simp_all
   .simp at h
  .simp at h
 .simp at h
theorem jyy{P:À}{E:Env}(hT:j1L P E.T)(hR:Rel N np S0 w0 refs σ a w S γ){rd:H->BS}(hrd:RdOk σ rd){t ty:Ç}{ti:TyI}(ht:E.T t=D ti){el:Ty}(hty:ti.ty=D (.list el))
  {s x v:Leaf}{u:Ups}{vs vx:G}(h:appH rd ti.elem el s x=D (Ã,v,u))(hs:j08 S w γ σ.bx s vs)(hx:j08 S w γ σ.bx x vx) :
  ∃z w',(Ô #[t,t] ty #[vs,vx]).run P w = .ok z w'/\Rel N np S0 w0 refs (σ.upd u) a w' S γ/\j08 S w' γ (σ.upd u).bx v z/\One z:=by
 unfold appH at h;split at h
 case h_2=>simp at h
 rename_i k i k' j;split at h
 case isFalse=>simp at h
 rename_i hkk;subst hkk;split at h
 case h_2=>simp at h
 rename_i e b xs hk;split at h
 case isFalse=>simp at h
 rename_i hb;obtain⟨hb,he⟩:=hb;subst hb;subst he;simp only[j5,j9,decide_eq_true_eq]at h;obtain⟨hij,rfl,rfl⟩:=h;obtain⟨hd,_,te,hte,htea⟩:=j6g hT ht hty;have hsz:=jbr hT hte htea;obtain⟨inf,d,hi,_,hs2,_⟩:=j5v hT hte;have hisz:inf.size=b.size:=by rw[hs2,<-hsz]
 have hnm:=hrd.nm hk;have hk:=hrd.live hk;obtain⟨_,hin,ad,cap,hg,hvs⟩:=hs.2.2 _ hk;obtain⟨_,hjn,ad',cap',hg',hvx⟩:=hx.2.2 _ hk;rw[hg]at hg';simp only[Ê,true_and]at hg';obtain⟨rfl,rfl⟩:=hg';obtain⟨css,hown,hall,hS⟩:=js7 hg (hR.box k _ hk);have hcl:=All2.all_len hall;have hlen':(W i xs++(Ù j xs++Ù (i+(xs.length-j)) xs)).length=xs.length:=sqo_;have hleaf:∀(w':É),j08 S w' γ (σ.setB k (.live (.lst ti.elem b (W i xs++(Ù j xs++Ù (i+(xs.length-j)) xs)) M))).bx (.hd k (i+(xs.length-j))) (.slice ad (i+(xs.length-j)) cap):=by intro w';refine⟨by rw[j0B];simp,rfl,λb' hb'=>?_⟩;grind[j0B]
 rcases hown.2 with⟨hg2,hn⟩|⟨g,cap2,cur,hg2,_,hh,hnc,hcm,hcs,htake⟩
 .rw[hg]at hg2;simp only[Ê]at hg2;obtain⟨rfl,_,rfl⟩:=hg2;have hx0:xs=[]:=Å hn;subst hx0;have hi0:i=0:=by simpa using hin
  have hj0:j=0:=by simpa using hjn
  subst hi0 hj0;have hrun:=run_append_owned_none (P:=P) w 0 t ty ti.elem inf b.size hd hi (.slice U 0 0) 0 [] (ó w 0 ti.elem b.size)
  have hid:σ.setB k (.live (.lst ti.elem b ([]:F b.den) M))=σ:=by
   show St.mk σ.sl _=σ;have:(λj=>if j=k then BS.live (.lst ti.elem b ([]:F b.den) M) else σ.bx j)=σ.bx:=by grind
   rw[this]
  refine⟨_,w,by simp_all,?_,hleaf w,rfl⟩;show Rel N np S0 w0 refs (σ.setB k (.live (.lst ti.elem b ([]:F b.den) M))) a w S γ;rw[hid];exact hR
 .rw[hg]at hg2;simp only[Ê,true_and]at hg2;obtain⟨rfl,rfl⟩:=hg2;obtain⟨w',hst,hRn⟩:=jj0 (P:=P) (i:=i) hR hk hg (hall.drop j) sqo_;have hlz:(css.drop j).flatten.length=(xs.length-j)*b.size:=by have:=All2.flatten_length (λx c hx=>Rep.length b x c hx) (hall.drop j);simpa using this
  have h1:∀u∈(css.drop j).flatten,One u:=by intro u hu;obtain⟨c,hc,huc⟩:=List.mem_flatten.1 hu;obtain⟨x,_,hx⟩:=(hall.drop j).mem_right c hc;grind[Rep.one]
  have hm1:i*b.size+(xs.length-j)*b.size<=xs.length*b.size:=by grind[Ï]
  have hm2:xs.length*b.size<=cap*b.size:=Z _ hnc;have hst2:=run_storeCells_at P g (i*b.size) _ (css.drop j).flatten 0 cur w hh (by rw[hlz,hcs];omega) h1;simp only[Nat.add_zero]at hst2
  have hw:w'=w.setRow g (cur.toList.take (i*b.size)++(css.drop j).flatten++cur.toList.drop (i*b.size+(css.drop j).flatten.length)).toArray:=by
   simp_all
  have hcells:∀q u,(css.drop j).flatten[q]? = D u->w.cell? ((⟨g,if cap=j then 0 else j*b.size,U⟩:Addr).add q)=D u:=by
   intro q u hq;have hql:q<(xs.length-j)*b.size:=by grind
   have hc:¬cap=j:=by grind
   rw[if_neg hc,Æ];rw[jfw j hcl,ï]at hq;have:=hown.cells (g:=g) (by rw[hg];rfl) _ u hq;grind[Æ]
  have hrun:=run_append_room (P:=P) w t ty ti.elem inf hd hi g i cap cur (by exact hh) ⟨g,if cap=j then 0 else j*b.size,U⟩ (xs.length-j) (cap-j) (css.drop j).flatten (by rw[hisz];exact hlz) hcells h1 omg_
   (by grind)
  have hvx':vx = .slice (D ⟨g,if cap=j then 0 else j*b.size,U⟩) (xs.length-j) (cap-j):=by grind[Æ]
  refine⟨_,w',by simp_all,?_,hleaf w',rfl⟩;have:(Ù j xs).length=xs.length-j:=smp_;rw[this]at hRn;exact hRn
theorem jyz(hR:Rel N np S0 w0 refs σ a w S γ){rdf:H->BS}(hrdf:RdF np σ rdf){e:H}{el:Ty}{s:Leaf}{m:H}{ls:F Leaf}{u:Ups}{vs:G}(h:rowS rdf e el s=D (m,ls,u))(hs:j08 S w γ σ.bx s vs) :
  ∃cs,w.ownsRow 0 e el.size vs m cs/\All2 (j08 S w γ σ.bx) ls cs/\(∀u∈cs,One u)/\Rel N np S0 w0 refs (σ.upd u) a w S γ/\BxLe γ σ.bx γ (σ.upd u).bx/\
   (∀k,σ.bx k = .free->(σ.upd u).bx k = .free)/\∀g,blk vs=D g->(∀o,¬S g o)/\Own w0 refs g/\refs.kw g=U/\g<w.heap.size/\∀k b,(σ.upd u).bx k = .live b->blk (γ k)≠D g:=by
 unfold rowS at h;split at h
 .simp only[j5,j9]at h;obtain⟨rfl,rfl,rfl⟩:=h;have hz:vs = .slice U 0 0:=hs;subst hz;exact⟨[],ó w 0 e el.size,trivial,smp_,hR,.refl _ _,λk h=>h,λg hg=>by simp[blk]at hg⟩
 .rename_i k;split at h
  case h_2=>simp at h
  rename_i e' a' m' ls' hk;split at h
  case isFalse=>simp at h
  rename_i hc;obtain⟨rfl,rfl⟩:=hc;simp only[j5,j9]at h;obtain⟨rfl,rfl,rfl⟩:=h;have hk':=hrdf.ok.live hk;have hz:vs=γ k:=hs.2.2 _ hk';subst hz;obtain⟨_,⟨cs,hown,hall,h1⟩,hS⟩:=hR.box k _ hk';refine⟨cs,hown,hall,h1,jgl hR hk',?_,?_,λg hg=>⟨hS g hg,?_,hR.kw_live hk' hg,j4T (hR.box k _ hk') hg,?_⟩⟩
  .intro k' hk2;show (σ.setB k .gone).bx k'≠_/\_;by_cases hkk:k'=k
   .subst hkk;exact⟨by rw[j0B];simp,rfl,λb hb=>by have hb:(σ.setB k' .gone).bx k' = .live b:=hb;grind[j0B]⟩
   .exact⟨by grind[j07],rfl,λb hb=>by have hb:(σ.setB k .gone).bx k' = .live b:=hb;rw[j07 _ _ hkk]at hb;exact⟨b,hb,.refl b⟩⟩
  .intro k' h;show (σ.setB k .gone).bx k'=_;grind[j07]
  .rcases hR.own k _ g hk' hg with h|h
   .exact h
   .rw[hrdf.par hk]at h;simp at h
  .intro k' b hb hg';have hb:(σ.setB k .gone).bx k' = .live b:=hb;by_cases hkk:k'=k
   .grind[j0B]
   .rw[j07 _ _ hkk]at hb;exact hR.apart k' k _ _ g hkk hb hk' hg' hg
 .simp at h
theorem jyA{P:À}{E:Env}(hT:j1L P E.T)(hR:Rel N np S0 w0 refs σ a w S γ){rd rdf:H->BS}(hrd:RdOk σ rd)(hrdf:RdF np σ rdf){t ty:Ç}{ti:TyI}(ht:E.T t=D ti){el:Ty}(hty:ti.ty=D (.list el)){n:H}
  {s x v:Leaf}{u:Ups}{vs vx:G}(h:appN rd rdf ti.elem el n s x=D (v,u))(hs:j08 S w γ σ.bx s vs)(hx:j08 S w γ σ.bx x vx) :
  ∃z w' γ',(Ô #[t,t] ty #[vs,vx]).run P w = .ok z w'/\Rel N np S0 w0 refs (σ.upd u) a w' S γ'/\j08 S w' γ' (σ.upd u).bx v z/\One z:=by
 unfold appN at h;split at h
 case h_2=>simp at h
 rename_i k;split at h
 case h_2=>simp at h
 rename_i e' a' m ls hk;split at h
 case h_2=>simp at h
 rename_i m0 ls0 u0 hrs;split at h
 case isFalse=>simp at h
 rename_i hc;obtain⟨⟨rfl,rfl⟩,hany,hmax,hfr⟩:=hc;simp only[j5,j9]at h;obtain⟨rfl,rfl⟩:=h;have hn:=hrd.free hfr;have hk':=hrdf.ok.live hk;have hz:vx=γ k:=hx.2.2 _ hk';subst hz;obtain⟨hnm,⟨cs,hown,hall,h1⟩,hSk⟩:=hR.box k _ hk';obtain⟨cs0,hown0,hall0,h10,hR1,hle1,hfree1,hvs⟩:=jyz hR hrdf hrs hs;have hk1:(σ.upd u0).bx k = .live (.row ti.elem a' m ls):=(j2L u0 σ hany).trans hk';have hR2:=jgl hR1 hk1;have hn2:((σ.upd u0).setB k .gone).bx n = .free:=by grind[j07]
 have hle2:BxLe γ σ.bx γ ((σ.upd u0).setB k .gone).bx:=by intro k' hk2;obtain⟨q1,q2,q3⟩:=hle1 k' hk2;grind[j0B,j07]
 obtain⟨ad,c,hgx,hnil,hnews⟩:∃ad c,γ k = .slice ad m c/\(ad=U->m=0/\c=0)/\∀b,ad=D b->∀(j:H)(u:G),cs[j]? = D u->w.cell? (b.add j)=D u:=by
  rcases hown.2 with⟨h2,h3⟩|⟨g,cap,cur,h2,_,hh,_,_,_,htake⟩
  .grind
  .exact⟨D ⟨g,0,U⟩,cap,h2,λh=>by simp at h,λb hb j u hu=>by
    simp at hb;subst hb;exact hown.cells (g:=g) (by rw[h2];rfl) j u hu⟩
 obtain⟨v',w',hr,hrow,os,tape,output,hsz,hcase⟩:=jmP (ty:=ty) hT ht hty hown0 (ad:=ad) (m:=m) (c:=c) (news:=cs) hnil hown.1 hnews h1 (by simp only[j02];omega)
 have hheap:∀g,g<w.heap.size->blk v'≠D g->w'.heap[g]? = w.heap[g]? := by
  grind
 have hlt':∀g,blk v'=D g->g<w'.heap.size:=λg hg=>by
  rcases hrow.2 with⟨h2,_⟩|⟨g2,cap2,cur2,h2,_,hh2,_⟩;all_goals grind[blk]
 have hv:∀g,blk v'=D g->(∀o,¬S g o)/\Own w0 refs g/\refs.kw g=U/\∀k' b,((σ.upd u0).setB k .gone).bx k' = .live b->blk (γ k')≠D g:=by
  intro g hg;have old:blk vs=D g->(∀o,¬S g o)/\Own w0 refs g/\refs.kw g=U/\∀k' b,((σ.upd u0).setB k .gone).bx k' = .live b->blk (γ k')≠D g:=by grind[j07]
  rcases hcase with⟨rfl,_⟩|⟨h2,_,_⟩|⟨h2,_⟩
  .exact old hg
  .simp_all
  .rw[hg]at h2;simp at h2;subst h2;exact⟨λo=>jdR hR o,.inl hR.grow,hR.kw_new (Ì _),λk' b hb hb'=>by have:=j4T (hR2.box k' b hb) hb';omega⟩
 have hst:j3r S w S w':=λg o h=>⟨h,Û (hheap g (hR.here g o h) (λhb=>(hv g hb).1 o h))⟩
 obtain⟨hRn,_⟩:=jBC hR2 hn2 (b:= .row ti.elem a' (m0+m) (ls0++ls)) hst hheap hsz (λg hg=>⟨(hv g hg).2.1,(hv g hg).2.2.2,hlt' g hg⟩) os tape output (λhle=>by
  have hle3:BxLe γ σ.bx (gset γ n v') (((σ.upd u0).setB k .gone).setB n (.live (.row ti.elem a' (m0+m) (ls0++ls)))).bx:=λk' hk2=>by
   obtain⟨q1,q2,q3⟩:=hle2 k' hk2;obtain⟨p1,p2,p3⟩:=hle k' q1
   exact⟨p1,p2.trans q2,λb' hb'=>by
    obtain⟨b1,hb1,hs1⟩:=p3 b' hb';obtain⟨b2,hb2,hs2⟩:=q3 b1 hb1;exact⟨b2,hb2,hs2.trans hs1⟩⟩
  refine⟨hnm,⟨cs0++cs,by rw[j0r];exact hrow,(hall0.append hall).mono (λx u hx=>j08.keep hst hle3 hx),λu hu=>(List.mem_append.1 hu).elim (h10 u) (h1 u)⟩,λg hg o=>?_⟩;grind[j0r]) (λg hg=>(hv g hg).2.2.1)
 have hone:One v':=by rcases hrow.2 with⟨h2,_⟩|⟨g2,cap2,cur2,h2,_⟩<;>rw[h2]<;>rfl
 refine⟨v',w',gset γ n v',by rw[hgx];exact hr,?_,?_,hone⟩
 .rw[j6Z];exact hRn
 .rw[j6Z];exact⟨by show (((σ.upd u0).setB k .gone).setB n _).bx n≠_;rw[j0B];simp,hone,λb _=>(j0r γ n v').symm⟩
theorem jyB(hR:Rel N np S0 w0 refs σ a w S γ){k d e m:H}{el:Ty}{xs:F el.den}(hk:σ.bx k = .live (.lst e el xs M))(hkp:parK np k=M)(hdf:σ.bx d = .free){ad:Â Addr}{cap:H}(hm:m<=xs.length)
  (hg:γ k = .slice ad xs.length cap) :
  ∃γ',Rel N np S0 w0 refs (σ.upd [(k,.gone),(d,.live (.lst e el (W m xs) M))]) a w S γ'/\j0n S w γ' (σ.upd [(k,.gone),(d,.live (.lst e el (W m xs) M))]).bx (.one (.ol d)) (.slice ad m cap):=by
 have hdk:d≠k:=by grind
 have hnm:=jD1 hg (hR.box k _ hk);obtain⟨css,hown,hall,hS⟩:=j71 hnm (hR.box k _ hk);have hcl:=All2.all_len hall;have hR1:=jgl hR hk;have hd1:(σ.setB k .gone).bx d = .free:=by grind[j07]
 have hlt:(W m xs).length=m:=sqo_;have hblk:blk (.slice ad m cap)=blk (γ k):=by rw[hg];cases ad<;>rfl
 have hrow:w.ownsRow 0 e el.size (.slice ad m cap) (W m xs).length (W m css).flatten:=by
  refine⟨?_,?_⟩
  .rw[jaK _ hcl,Ò,hown.1,hlt]
   simp_all
  .rcases hown.2 with⟨hg',hn⟩|⟨g,cap',cur,hg',_,hh,hnc,hcm,hcs,htake⟩
   .simp_all
   .rw[hg]at hg';simp only[Ê,true_and]at hg';obtain⟨rfl,rfl⟩:=hg';refine .inr ⟨g,cap,cur,by rw[hlt],Ñ _,hh,omg_,hcm,hcs,?_⟩;rw[hlt,jaK _ hcl,<-htake,î,ë (Z _ hm)]
 have hfacts:∀g,blk (.slice ad m cap)=D g->Own w0 refs g/\(∀k' b,(σ.setB k .gone).bx k' = .live b->blk (γ k')≠D g)/\g<w.heap.size:=by
  intro g hg;rw[hblk]at hg;refine⟨?_,λk' b' hb' hg'=>?_,j4T (hR.box k _ hk) hg⟩
  .rcases hR.own k _ g hk hg with h|h;all_goals simp_all
  .have hkk:k'≠k:=by grind[j0B]
   rw[j07 σ _ hkk]at hb';exact hR.apart k' k _ _ g hkk hb' hk hg' hg
 obtain⟨hRn,hcn⟩:=jgm hR1 hd1 (hm:=hnm) (w':=w) (S':=S) (v':= .slice ad m cap) (e:=e) (el:=el) (zs:=W m xs) (frz:=M) (css:=W m css) (.refl S w) (λg hg hne=>rfl) (Ì _) hfacts
  (λg o hs=> .inl hs) rfl rfl rfl hrow (hall.take _) (λg hg=>⟨λ_=>(hS g (by rw[<-hblk];exact hg)).1 rfl,smp_⟩) (λg hg=>hR.kw_live hk (by rw[<-hblk];exact hg))
 exact⟨_,hRn,hcn⟩
theorem jv9{el:Ty}{z:G}(hz:z.cells.toList=jdM el)(n:H)(hpos:0<el.size) :
  ∃css,All2 (λx c=>Rep S w el x c) (O n el.dflt) css/\((æ (n*z.cells.size)).map (λi=>z.cells[i%z.cells.size]!)).toList=css.flatten:=by
 refine⟨O n (jdM el),?_,?_⟩
 .have hz:=j8t (S:=S) (w:=w) el;induction n with
  |zero=>exact trivial
  |succ n ih=>exact⟨hz,ih⟩
 grind[jmQ,jhT]
theorem jmk{P:À}{E:Env}(hT:j1L P E.T)(hR:Rel N np S0 w0 refs σ a w S γ){rdf:H->BS}(hrdf:RdF np σ rdf){t:Ç}{ti:TyI}(ht:E.T t=D ti)
  {el:Ty}(hty:ti.ty=D (.list el)){len d:H}{ps:F (H×Cel)}{vs:Î (H×G)}{xs:F el.den}{u:Ups}(hlen:len*el.size<=16777216)
  (hps:All2 (λp v=>p.1=v.1/\j0n S w γ σ.bx p.2 v.2) ps vs.toList)(h:ja5 rdf el (O len el.dflt) [] ps=D (xs,u))(hd:σ.bx d = .free) :
  ∃v' w' S' γ',(Ó t len vs).run P w = .ok v' w'/\Rel N np S0 w0 refs (σ.upd (u++[(d,.live (.lst ti.elem el xs M))])) a w' S' γ'/\
   j0n S' w' γ' (σ.upd (u++[(d,.live (.lst ti.elem el xs M))])).bx (.one (.ol d)) v':=by
 obtain⟨hdd,hpos,te,hte,htea⟩:=j6g hT ht hty;have hsz:=jbr hT hte htea;obtain⟨hf,hrest⟩:=jiZ hrdf hR.box hpos ps vs.toList hps h .nil;obtain⟨S1,hR1,hst1,hfz,hsame⟩:=j4z u σ S hR hf;obtain⟨z,hz,hzc⟩:=jet hT hte w htea;have hzs:z.cells.size=el.size:=jhT hzc;obtain⟨css0,hall0,hc0⟩:=jv9 (S:=S1) (w:=w) hzc len hpos;obtain⟨cells',css',hfill,hall,hcells⟩:=hrest S1 hst1 hfz css0 _ hall0 hc0
 have hxl:xs.length=len:=by
  have key:∀(ps:F (H×Cel)){xs xs':F el.den}{u u':Ups},ja5 rdf el xs u ps=D (xs',u')->xs'.length=xs.length:=by intro ps;induction ps<;>grind[ja5]
  grind
 have hcs:cells'.size=len*el.size:=by grind[All2.flatten_length,Rep.length]
 have hzero:(if len*ti.size=0 then (Pure.pure #[]:Sem (Î G)) else (do pure (<-zeroValue ti.elem).cells))=(if len*ti.size=0 then Pure.pure #[] else (do pure (<-zeroValue ti.elem).cells)):=rfl
 have hrun:(Ó t len vs).run P w = .ok (.slice (D ⟨w.heap.size,0,U⟩) len len) (w.alloc (.cells cells' ti.elem)):=by
  have hno:¬len*te.size>2^24:=by rw[<-hsz];omega
  simp only[Ó,Á,run_underlying hdd,I,j2J hT hte,Sem.run_ite,if_neg hno];by_cases h0:len*te.size=0
  .have hl0:len=0:=by grind[Nat.mul_eq_zero]
   subst hl0;have hfill0:Ü (λi=>D (i*te.size,te.size)) ((æ (0*te.size)).map (λi=>(#[]:Î G)[i%(#[]:Î G).size]!)) vs.toList=D cells':=by grind
   simp_all[newRow]
  .have hfill1:Ü (λi=>D (i*te.size,te.size)) ((æ (len*te.size)).map (λi=>z.cells[i%z.cells.size]!)) vs.toList=D cells':=by
    simp_all
   simp_all[newRow]
 rw[j6Z];have hst:=j8L hR1 (.cells cells' ti.elem)
 obtain⟨hRn,hcn⟩:=jgm hR1 (hsame.free hd) (hm:=jnB hT ht) (w':=w.alloc (.cells cells' ti.elem)) (S':=S1) (v':= .slice (D ⟨w.heap.size,0,U⟩) len len) (e:=ti.elem) (el:=el) (zs:=xs) (frz:=M) (css:=css')
  hst (λg hg _=>heap_alloc_old w _ hg) smp_ (λg hg=>by
   simp[blk]at hg;subst hg;exact⟨.inl hR.grow,λk b hk hg'=>by have:=j4T (hR1.box k b hk) hg';omega,smp_⟩) (λg o hs=> .inl hs) rfl rfl rfl
  (by
   rw[hxl,<-hcells];have hle:len<=maxLen:=by have:len*1<=len*el.size:=Nat.mul_le_mul_left _ hpos;simp only[maxLen];omega
   grind[World.ownsRow_lit]) (hall.mono (λx c hx=>Rep.keep hst _ _ _ hx)) (λg hg=>by
   simp[blk]at hg;subst hg;exact⟨λ_ o=>jdR hR1 o,smp_⟩) (λg hg=>by simp[blk]at hg;subst hg;exact hR1.kw_new (Ì _))
 exact⟨_,_,S1,_,hrun,hRn,hcn⟩
theorem jyC{P:À}{E:Env}(hT:j1L P E.T)(hR:Rel N np S0 w0 refs σ a w S γ){t:Ç}{ti:TyI}(ht:E.T t=D ti)
  {el:Ty}(hty:ti.ty=D (.list el)){n len:H}{fr:ä}{ps:F (H×Cel)}{vs:Î (H×G)}{b:ä}{s:Slot}{u:Ups}(hn:fr=Ã->σ.bx n = .free)
  (hps:All2 (λp v=>p.1=v.1/\j0n S w γ σ.bx p.2 v.2) ps vs.toList)(h:one1 fr ti.elem el n len ps=D (.val b s u)) :
  b=Ã/\s = .one (.one (.ol n))/\∃v' w' γ',(Ó t len vs).run P w = .ok v' w'/\Rel N np S0 w0 refs (σ.upd u) a w' S γ'/\j0n S w' γ' (σ.upd u).bx (.one (.ol n)) v':=by
 unfold one1 at h;split at h
 case h_2=>simp at h
 rename_i c;split at h
 case h_2=>simp at h
 rename_i ls hls;split at h
 case isFalse=>simp at h
 rename_i hc;obtain⟨rfl,hln,hmax,hfr,hnm⟩:=hc;simp only[j5,Act.val.injEq]at h;obtain⟨rfl,rfl,rfl⟩:=h;refine⟨rfl,rfl,?_⟩
 obtain⟨⟨j,z⟩,hvs⟩:∃p,vs.toList=[p]:=by
  match hv:vs.toList,hps with
  |[p],_=>exact⟨p,rfl⟩
 rw[hvs]at hps;obtain⟨⟨hj,hcz⟩,_⟩:=hps;simp only at hj hcz;subst hj;obtain⟨ha,h1⟩:=jal hls hcz;have hzl:z.cells.toList.length=el.size:=by rw[<-ha.length,hln]
 have hzs:z.cells.size=el.size:=by simpa using hzl
 obtain⟨hdd,hpos,te,hte,htea⟩:=j6g hT ht hty;have hsz:=jbr hT hte htea;obtain⟨z0,hz0,hzc⟩:=jet hT hte w htea;have hz0s:z0.cells.size=el.size:=jhT hzc;have hfill:Ü (λi=>D (i*te.size,te.size)) ((æ (1*te.size)).map (λi=>z0.cells[i%z0.cells.size]!)) vs.toList=D z.cells:=by have hfo:=jnG ((æ (1*te.size)).map (λi=>z0.cells[i%z0.cells.size]!)) 0 z.cells sqo_;grind[Ü,ý,Ë]
 have hrun:(Ó t 1 vs).run P w = .ok (.slice (D ⟨w.heap.size,0,U⟩) 1 1) (w.alloc (.cells z.cells ti.elem)):=by
  have hno:¬1*te.size>2^24:=by rw[<-hsz];omega
  have h0:¬1*te.size=0:=omg_;simp only[Ó,Á,run_underlying hdd,I,j2J hT hte,Sem.run_ite,if_neg hno]
  simp_all[newRow]
 obtain⟨hRn,_⟩:=jnE hR (hn hfr) (o:= .cells z.cells ti.elem) (b:= .row ti.elem el 1 ls) (v:= .slice (D ⟨w.heap.size,0,U⟩) 1 1) (λg hg=>by grind[blk]) (λhle=>
  ⟨hnm,⟨z.cells.toList,by grind[j0r,World.ownsRow_lit,maxLen],ha.mono (λx u hx=>j08.keep (j8L hR _) hle hx),h1⟩,
   λg hg o=>by rw[j0r]at hg;simp[blk]at hg;subst hg;exact jdR hR o⟩)
 refine⟨_,_,_,hrun,hRn,⟨by show (σ.setB n _).bx n≠_;rw[j0B];simp,rfl,λb' hb'=>(j0r _ _ _).symm⟩,λ_=>rfl⟩
theorem jj1{rd:H->BS}(hrd:RdF np σ rd):∀{ls:F Leaf}{xs:F TV}{u:Ups}{zs:F G},tvs rd ls=D (xs,u)->All2 (j08 S w γ σ.bx) ls zs->
  FrzL np σ.bx u/\∀S' w',j3r S w S' w'->Froz σ.bx γ S' w' u->All2 (λx z=>Rep S' w' x.t x.v [z]) xs zs
 |[],xs,u,zs,h,ha=>by
  simp[tvs]at h;obtain⟨rfl,rfl⟩:=h;cases zs with
  |nil=>exact⟨.nil,λ_ _ _ _=>trivial⟩
  |cons _ _=>exact ha.elim
 |l::ls,xs,u,zs,h,ha=>by
  cases zs with
  |nil=>exact ha.elim
  |cons z zs=>
   simp only[tvs]at h;split at h
   .rename_i xs1 u1 h1;obtain⟨f1,p1⟩:=jj1 hrd h1 ha.2;split at h
    .rename_i t v;simp only[j5,j9]at h;obtain⟨rfl,rfl⟩:=h;exact⟨f1,λS' w' hk hf=>⟨Rep.keep hk _ _ _ ha.1,p1 S' w' hk hf⟩⟩
    .rename_i k;split at h
     .rename_i e t es f hk;simp only[j5,j9]at h;obtain⟨rfl,rfl⟩:=h;have hk':=hrd.ok.live hk;refine⟨λx hx=>?_,λS' w' hst hf=>⟨?_,p1 S' w' hst (λx hx=>hf x (Í _ hx))⟩⟩
      .rcases List.mem_cons.1 hx with rfl|hx
       .exact⟨hrd.par hk,e,t,es,f,hk',rfl,hrd.ok.nm hk⟩
       .exact f1 x hx
      .have:=hf (k,_) (ð ..) e t es f hk';rw[ha.1.2.2 _ hk'];exact this
     .simp at h
    .simp at h
   .simp at h
theorem jqA(hR:Rel N np S0 w0 refs σ a w S γ){k:H}{ls:F Leaf}{f:ä}(hk:σ.bx k = .live (.cell ls f))(hp:parK np k=M){xs:F TV}
  (hx:∀g cur e,γ k = .pointer (D ⟨g,0,U⟩)->w.heap[g]? = D (.cells cur e (0,0))->All2 (j08 S w γ σ.bx) ls (cur.toList.take ls.length)->All2 (λx z=>Rep S w x.t x.v [z]) xs (cur.toList.take ls.length)) :
  ∃S' g,Rel N np S0 w0 refs (σ.setB k (.live (.cell (xs.map TV.leaf) Ã))) a w S' γ/\j3r S w S' w/\γ k = .pointer (D ⟨g,0,U⟩)/\j8e S' w (.p xs) (.pointer (D ⟨g,0,U⟩)):=by
 obtain⟨g,cur,e,hg,hh,hcur,h1,hS1,hS2⟩:=hR.box k _ hk;have hxs:=hx g cur e hg hh hcur;let S':j09:=λg' o=>S g' o\/(g'=g/\o<cur.size)
 have hst:j3r S w S' w:=λg o h=>⟨.inl h,rfl⟩
 have hle:BxLe γ σ.bx γ (σ.setB k (.live (.cell (xs.map TV.leaf) Ã))).bx:=by
  intro k' hk';by_cases hkk:k'=k
  .subst hkk;rw[j0B];exact⟨smp_,rfl,λb hb=>by simp at hb;subst hb;exact⟨_,hk,trivial⟩⟩
  .rw[j07 σ _ hkk];exact⟨hk',rfl,λb hb=>⟨b,hb,.refl b⟩⟩
 have live':∀k' b,(σ.setB k (.live (.cell (xs.map TV.leaf) Ã))).bx k' = .live b->∃b',σ.bx k' = .live b':=by grind[j07]
 refine⟨S',g,Rel.step (bx':=(σ.setB k (.live (.cell (xs.map TV.leaf) Ã))).bx) hR hst hle ?_ ?_ ?_ ?_ ?_ hR.below hR.grow hR.os hR.tape hR.output (λg _ _ h=>⟨rfl,λk' b' hb'=>by grind⟩),hst,hg,?_⟩
 .intro k' b hb;by_cases hkk:k'=k
  .subst hkk;rw[j0B]at hb;simp at hb;subst hb;have hl:=jkb hcur hxs;exact⟨g,cur,e,hg,hh,by rw[List.length_map,hl];exact j9g (hxs.mono (λx z hz=>Rep.keep hst _ _ _ hz)),by simp_all,smp_,λ_ o ho=> .inr ⟨rfl,ho⟩⟩
  .rw[j07 σ _ hkk]at hb;refine j2m.keep hst hle rfl (λg' hg'=>⟨rfl,λo=>⟨λhs=>?_,.inl⟩⟩) (hR.box k' b hb);rcases hs with hs|hs
   .exact hs
   .exact absurd (by rw[hg,hs.1];rfl) (hR.apart k' k b _ g' hkk hb hk hg')
 .intro k' b g' hb hg';obtain⟨b',hb'⟩:=live' k' b hb;exact hR.own k' b' g' hb' hg'
 .intro k1 k2 b1 b2 g' hne h1 h2 hg';obtain⟨b1',h1'⟩:=live' k1 b1 h1;obtain⟨b2',h2'⟩:=live' k2 b2 h2;exact hR.apart k1 k2 b1' b2' g' hne h1' h2' hg'
 .intro g' o hs;rcases hs with hs|hs
  .exact hR.new g' o hs
  .rcases hR.own k _ g hk (by rw[hg];rfl) with h|h;all_goals simp_all
 .intro g' o hs;rcases hs with hs|hs
  .exact hR.here g' o hs
  grind
 .refine⟨g,0,cur.toList.take ls.length,rfl,hxs.mono (λx z hz=>Rep.keep hst _ _ _ hz),λj v hv=>?_⟩;grind[cell_of_row]
theorem jp9{rd:H->BS}(hrd:RdF np σ rd):∀{cs:F Cel}{l:F Cap}{u:Ups}{zs:F G},joM rd cs=D (l,u)->Rel N np S0 w0 refs σ a w S γ->All2 (j0n S w γ σ.bx) cs zs->
  ∃S',Rel N np S0 w0 refs (σ.upd u) a w S' γ/\j3r S w S' w/\All2 (j8e S' w) l zs/\(∀k e t xs f,σ.bx k = .live (.lst e t xs f)->∃f',(σ.upd u).bx k = .live (.lst e t xs f'))/\BxLe γ σ.bx γ (σ.upd u).bx/\∀k,σ.bx k = .free->(σ.upd u).bx k = .free
 |[],l,u,zs,h,hR,ha=>by
  simp[joM]at h;obtain⟨rfl,rfl⟩:=h;cases zs with
  |nil=>exact⟨S,hR,.refl S w,trivial,λk e t xs f h=>⟨f,h⟩,.refl _ _,λ_ h=>h⟩
  |cons _ _=>exact ha.elim
 |c::r,l,u,zs,h,hR,ha=>by
  cases zs with
  |nil=>exact ha.elim
  |cons z zs=>
   simp only[joM]at h;split at h
   .rename_i l1 u1 h1;obtain⟨S1,hR1,hst1,hc1,hl1,hle1,hfr1⟩:=jp9 hrd h1 hR ha.2;split at h
    .rename_i t v;split at h
     .rename_i hlf;simp only[j5,j9]at h;obtain⟨rfl,rfl⟩:=h;exact⟨S1,hR1,hst1,⟨⟨hlf,Rep.keep hst1 _ _ _ ha.1.1⟩,hc1⟩,hl1,hle1,hfr1⟩
     .simp at h
    .rename_i k;split at h
     .rename_i ls f hk;split at h
      .rename_i xs u2 h2;split at h
       .simp at h
       .rename_i hany;simp only[j5,j9]at h;obtain⟨rfl,rfl⟩:=h;have hkp:=hrd.par hk;have hk:=hrd.ok.live hk;have hany:(u1++u2).any (λy=>y.1==k)=false:=Bool.eq_false_iff.2 hany;rw[List.any_append,ê]at hany;obtain⟨g,cur,e,hg,hh,hcur,_⟩:=hR.box k _ hk;obtain⟨hf2,hp2⟩:=jj1 hrd h2 hcur;have hf2':FrzL np (σ.upd u1).bx u2:=by intro x hx;obtain⟨hpp,e',t',xs',f',hb',hx'⟩:=hf2 x hx;obtain⟨f2,h2⟩:=hl1 _ e' t' xs' f' hb';exact⟨hpp,e',t',xs',f2,h2,hx'⟩
        obtain⟨S2,hR2,hst2,hfz2,hsame2⟩:=j4z u2 (σ.upd u1) S1 hR1 hf2';have hfz2':Froz σ.bx γ S2 w u2:=by intro x hx e' t' xs' f' hb';obtain⟨f2,h2⟩:=hl1 _ e' t' xs' f' hb';exact hfz2 x hx e' t' xs' f2 h2
        have hk2:((σ.upd u1).upd u2).bx k = .live (.cell ls f):=by rw[j2L u2 _ hany.2,j2L u1 _ hany.1,hk]
        obtain⟨S3,g3,hR3,hst3,hg3,hcap⟩:=jqA hR2 hk2 hkp (xs:=xs) (λg' cur' e' hg' hh' _=>by
         rw[hg]at hg';simp at hg';subst hg';rw[hh]at hh';simp at hh';obtain⟨rfl,_⟩:=hh';exact hp2 S2 w (hst1.trans hst2) hfz2')
        have hz:z=γ k:=by obtain⟨g4,h4,h5⟩:=ha.1.1.2.2 _ hk;rw[h5,h4]
        rw[j6Z,j6Z];refine⟨S3,hR3,(hst1.trans hst2).trans hst3,⟨by rw[hz,hg3];exact hcap,hc1.mono (λx z hx=>j8e.keep (hst2.trans hst3) hx)⟩,λk' e' t' xs' f' hb'=>?_,?_,λk' hk'=>?_⟩
        .obtain⟨f2,h2⟩:=hl1 _ e' t' xs' f' hb';obtain⟨f3,h3⟩:=hsame2.lst h2;have hkk:k'≠k:=by rintro rfl;rw[hk2]at h3;simp at h3
         exact⟨f3,by show (((σ.upd u1).upd u2).setB k _).bx k'=_;rw[j07 _ _ hkk];exact h3⟩
        .have hle2:BxLe γ (σ.upd u1).bx γ ((σ.upd u1).upd u2).bx:=hsame2.le
         have hle3:BxLe γ ((σ.upd u1).upd u2).bx γ ((((σ.upd u1).upd u2)).setB k (.live (.cell (xs.map TV.leaf) Ã))).bx:=by
          intro k' hk';by_cases hkk:k'=k
          .subst hkk;rw[j0B];exact⟨smp_,rfl,λb hb=>by simp at hb;subst hb;exact⟨_,hk2,trivial⟩⟩
          .rw[j07 _ _ hkk];exact⟨hk',rfl,λb hb=>⟨b,hb,.refl b⟩⟩
         have tr:∀{b1 b2 b3:H->BS},BxLe γ b1 γ b2->BxLe γ b2 γ b3->BxLe γ b1 γ b3:=by intro b1 b2 b3 h12 h23 k' hk';obtain⟨q1,q2,q3⟩:=h12 k' hk';obtain⟨r1,r2,r3⟩:=h23 k' q1;refine⟨r1,rfl,λb hb=>?_⟩;obtain⟨b',hb',hs'⟩:=r3 b hb;obtain⟨b'',hb'',hs''⟩:=q3 b' hb';refine⟨b'',hb'',?_⟩;exact hs''.trans hs'
         exact tr (tr hle1 hle2) hle3
        .have h3:=hsame2.free (hfr1 k' hk');have hkk:k'≠k:=by rintro rfl;rw[hk]at hk';simp at hk'
         show (((σ.upd u1).upd u2).setB k _).bx k'=_;rw[j07 _ _ hkk];exact h3
      .simp at h
     .simp at h
    .simp at h
   .simp at h
section
variable(S:j09)(w:É)
def jpa(ls:F TV)(u:G):Prop:=
 ∃g cur e,u = .pointer (D ⟨g,0,U⟩)/\w.heap[g]? = D (.cells cur e (0,0))/\All2 (λx z=>Rep S w x.t x.v [z]) ls (cur.toList.take ls.length)/\∀o,¬S g o
def jjQ(e:H)(x:TV)(u:G):Prop:=
 ∃(a:Ty)(xs:F a.den),x=⟨.list a,xs⟩/\jfr S w e a xs u/\∀g,blk u=D g->∀o,¬S g o
def jca:Arg->G->Prop
 |.v x,u=>VRep S w x u
 |.ref ls,u=>jpa S w ls u
 |.rl e x,u=>jjQ S w e x u
 |.ip ls,u=>∃g o cs,u = .pointer (D ⟨g,o,U⟩)/\All2 (λx z=>Rep S w x.t x.v [z]) ls cs/\Lies S w g o cs
 |.clo f caps,u=>∃cv:Î G,u = .func (.func f) #[] cv/\All2 (j8e S w) caps cv.toList
 |.mv e x,u=>jjQ S w e x u/\isM e=M
def j8X:Arg->G->Â H
 |.ref _,u=>blk u
 |.rl _ _,u=>blk u
 |.mv _ _,u=>blk u
 |_,_=>U
def j1P:F Arg->F G->F H
 |a::as,u::us=>(j8X a u).toList++j1P as us
 |_,_=>[]
def mvOf:F Arg->F G->F H
 |.mv _ _::as,u::us=>(blk u).toList++mvOf as us
 |_::as,_::us=>mvOf as us
 |_,_=>[]
def jyD:RL->G->Prop
 |.d x,z=>One z/\Rep S w x.t x.v [z]
 |.own e x,z=>jjQ S w e x z
def jk4:RV->G->Prop
 |.v x,u=>VRep S w x u
 |.own e x,u=>jjQ S w e x u
 |.box ls,u=>jpa S w ls u
 |.hd _,u=>One u
 |.clo f caps,u=>∃cv:Î G,u = .func (.func f) #[] cv/\All2 (j8e S w) caps cv.toList
 |.so ls,u=>∃cs:Î G,u = .agg cs/\All2 (jyD S w) ls cs.toList
 |.raw _ _,_=>True
 |.vn x ns,u=>VRep S w x u/\∀cs,u = .agg cs->∀i∈ns,∀z,cs.toList[i]? = D z->z = .slice U 0 0
def jgJ:RV->G->Â H
 |.v _,_=>U
 |.hd _,_=>U
 |.vn _ _,_=>U
 |.clo _ _,_=>U
 |.so _,_=>U
 |.raw _ _,_=>U
 |_,u=>blk u
def jcW:F RL->F G->F H
 |.own _ _::ls,z::zs=>(blk z).toList++jcW ls zs
 |.d _::ls,_::zs=>jcW ls zs
 |_,_=>[]
def j9h:RV->G->F H
 |.so ls,u=>jcW ls u.cells.toList
 |r,u=>(jgJ r u).toList
def j85:F RV->F G->F H
 |r::rs,u::us=>j9h r u++j85 rs us
 |_,_=>[]
def j6h:F Arg->F G->F Out->Prop
 |[],[],[]=>True
 |.ref _::as,u::us,.ref ys::os=>jpa S w ys u/\j6h as us os
 |.rl e x::as,u::us,.rl y::os=>jjQ S w e y u/\y.t=x.t/\j6h as us os
 |.v _::as,_::us,os=>j6h as us os
 |.ip _::as,_::us,os=>j6h as us os
 |.clo _ _::as,_::us,os=>j6h as us os
 |.mv _ _::as,_::us,os=>j6h as us os
 |_,_,_=>False
end
def j7m(vs:F G):Value:=match vs with
 |[v]=>v
 |vs=> .tuple vs.toArray
def jkd:F Arg->F G->Â G
 |.ref _::_,u::_=>D u
 |.rl _ _::_,u::_=>D u
 |_::as,_::us=>jkd as us
 |_,_=>U
def emp:St:=⟨λ_=> .one (.one .dead),λ_=> .free⟩
def jBE(h0:H)(S:j09)(w:É)(ns:F H)(s:Snap)(v:G):Prop:=
 ∃γ zs,v=j7m zs/\All2 (j0n S w γ (emp.upd (rawU ns s)).bx) (rawC ns s) zs/\(∀k b,(emp.upd (rawU ns s)).bx k = .live b->j2m S w γ (emp.upd (rawU ns s)).bx k b)/\
  (∀k b g,(emp.upd (rawU ns s)).bx k = .live b->blk (γ k)=D g->h0<=g)/\
  ∀k k' b b' g,k≠k'->(emp.upd (rawU ns s)).bx k = .live b->(emp.upd (rawU ns s)).bx k' = .live b'->blk (γ k)=D g->blk (γ k')≠D g
structure jyE(w:É)(S:j09)(args:F Arg)(vals:F G)(ret:Ret)(v:G)(w':É)(S':j09)(vs:F G):Prop where
 val:v=j7m vs
 rep:All2 (jk4 S' w') ret.vals vs
 fresh:∀g∈j85 ret.vals vs,w.heap.size<=g\/g∈mvOf args vals
 apart:(j85 ret.vals vs).Nodup
 outs:j6h S' w' args vals ret.outs
 stays:j3r S w S' w'
 new:∀g o,S' g o->S g o\/w.heap.size<=g\/g∈mvOf args vals
 here:∀g o,S' g o->g<w'.heap.size
 below:∀g,g<w.heap.size->g∉j1P args vals->w'.heap[g]? = w.heap[g]?
 grow:w.heap.size<=w'.heap.size
 os:w'.os=w.os
 tape:w'.tape=w.tape
 output:w'.output=w.output
 raw:∀ns s,ret.vals=[.raw ns s]->jBE w.heap.size S' w' ns s v
 head:∀m,ret.vals=[.hd m]->∃ad len cap,jkd args vals=D (.slice ad len cap)/\m<=len/\vs=[.slice ad m cap]
def jyF(P:À)(f:H)(args:F Arg)(K:Ret->Prop):Prop:=
 ∀(w:É)(S:j09)(vals:F G),All2 (jca S w) args vals->(j1P args vals).Nodup->(∀g o,S g o->g<w.heap.size)->
  Calls P f vals.toArray w λe w'=>∃ret,K ret/\∃v S' vs,e = .returned v/\jyE w S args vals ret v w' S' vs
def Fun(P:À)(f:H):Prop:=
 ∃ fn, P.funcs[f]? = D fn ∧ fn.body.isNone = M ∧ (fn.name == "runtime.NumGoroutine") = M
def FnOK(P:À)(f:H)(c:F Arg->(R:Type)->(Ret->Â R)->Â R):Prop:=
 ∀(args:F Arg)(R:Type)(k:Ret->Â R)(r:R),c args R k=D r->Fun P f/\jyF P f args λret=>k ret=D r
def j82(P:À)(C:H->F Arg->(R:Type)->(Ret->Â R)->Â R):Prop:=∀f,FnOK P f (C f)
theorem jbA{S':j09}{w':É}:∀(t:Ty)(v:t.den)(cs:F G),t.flat=Ã->Rep S w t v cs->Rep S' w' t v cs
 |.int _,_,_,_,h=>h
 |.bool,_,_,_,h=>h
 |.str,_,_,_,h=>h
 |.unit,_,_,_,h=>h
 |.wrap a,v,cs,hf,h=>jbA a v cs hf h
 |.pair a b,_,_,hf,⟨c1,c2,e,h1,h2⟩=>by
  simp only[Ty.flat,J]at hf;exact⟨c1,c2,e,jbA a _ _ hf.1 h1,jbA b _ _ hf.2 h2⟩
 |.list _,_,_,hf,_=>by grind[Ty.flat]
 |.arr _ a,_,_,hf,⟨hn,css,ha,e⟩=>⟨hn,css,ha.mono (λx c hx=>jbA a x c hf hx),e⟩
def j9b(bx:H->BS)(γ:H->G):F Arg->F G->F Bk->Prop
 |[],[],[]=>True
 |.ref ls::as,u::us,.ref k::fs=>u=γ k/\(∃ls',bx k = .live (.cell ls' M))/\j9b bx γ as us fs
 |.rl e x::as,u::us,.rl k e' t::fs=>e=e'/\u=γ k/\(∃xs,bx k = .live (.lst e t xs M)/\x=⟨.list t,xs⟩)/\j9b bx γ as us fs
 |.v _::as,_::us,fs=>j9b bx γ as us fs
 |.ip _::as,_::us,fs=>j9b bx γ as us fs
 |.clo _ _::as,_::us,fs=>j9b bx γ as us fs
 |.mv e x::as,u::us,.mv k e' t::fs=>e=e'/\u=γ k/\(∃xs,bx k = .live (.lst e t xs M)/\x=⟨.list t,xs⟩)/\j9b bx γ as us fs
 |_,_,_=>False
theorem jva{rd rdf:H->BS}(hR:Rel N np S0 w0 refs σ a w S γ)(hrd:RdR σ rd)(hrdf:RdF np σ rdf){t:Â TyI}{mv rl:ä}{c:Cel}{arg:Arg}{u:Ups}{f:Â Bk}{z:G}
  (h:joN rd rdf t mv rl c=D (arg,u,f))(hc:j0n S w γ σ.bx c z) :
  FrzL np σ.bx u/\j9b σ.bx γ [arg] [z] f.toList/\∀S',j3r S w S' w->Froz σ.bx γ S' w u->(∀k b,f.toList.any (λy=>y.name==k)=Ã->σ.bx k = .live b->∀g,blk (γ k)=D g->∀o,¬S' g o)->jca S' w arg z:=by
 unfold joN at h;split at h
 .rename_i k;split at h
  .rename_i ls hk;split at h
   .rename_i xs u1 h1;simp only[j5,j9]at h;obtain⟨rfl,rfl,rfl⟩:=h;have hk:=hrd.live hk;obtain⟨g,hg,hz⟩:=hc.1.2.2 _ hk;obtain⟨g',cur,e,hg',hh,hcur,_,_,hS⟩:=hR.box k _ hk;rw[hg]at hg';simp at hg';subst hg';obtain⟨hf,hp⟩:=jj1 hrdf h1 hcur;refine⟨hf,trivial,λS' hst hfz _=>⟨g,0,cur.toList.take ls.length,hz,hp S' w hst hfz,λj v hv=>?_⟩⟩;have hv:cur.toList[j]? = D v:=by grind
    have hj:j<cur.size:=by grind
    rw[Nat.zero_add];refine⟨(hst _ _ (hS rfl j hj)).1,?_⟩;grind[cell_of_row]
   .simp at h
  .rename_i ls hk;split at h
   .rename_i xs u1 h1;simp only[j5,j9]at h;obtain⟨rfl,rfl,rfl⟩:=h;have hk:=hrd.live hk;obtain⟨g,hg,hz⟩:=hc.1.2.2 _ hk;obtain⟨g',cur,e,hg',hh,hcur,_⟩:=hR.box k _ hk;rw[hg]at hg';simp at hg';subst hg';obtain⟨hf,hp⟩:=jj1 hrdf h1 hcur;refine⟨hf,⟨hz.trans hg.symm,⟨ls,hk⟩,trivial⟩,λS' hst hfz hn=>⟨g,cur,e,hz,hh,by grind[jkb],?_⟩⟩;exact hn k _ (by simp[Bk.name]) hk g (by rw[hg];rfl)
   .simp at h
  .simp at h
 .simp only[j5,j9]at h;obtain⟨rfl,rfl,rfl⟩:=h;refine⟨.nil,trivial,λS' hst _ _=>?_⟩;obtain⟨g,o,cs,hz,ha,hl⟩:=hc.1;exact⟨g,o,cs,hz,ha.mono (λx z hx=>Rep.keep hst _ _ _ hx),hl.keep hst⟩
 .simp only[j5,j9]at h;obtain⟨rfl,rfl,rfl⟩:=h;refine⟨.nil,trivial,λS' hst _ _=>?_⟩;obtain⟨cv,hz,ha⟩:=hc.1;exact⟨cv,hz,ha.mono (λx z hx=>j8e.keep hst hx)⟩
 .rename_i k;split at h
  .cases mv with
   |true=>
    rw[j6]at h;split at h
    .rename_i e t xs hk;simp only[j5,j9]at h;obtain⟨rfl,rfl,rfl⟩:=h;have hnm:=hrdf.ok.nm hk;have hk:=hrdf.ok.live hk;have hz:=hc.1.2.2 _ hk;refine⟨.nil,⟨rfl,hz,⟨xs,hk,rfl⟩,trivial⟩,λS' hst _ hn=>?_⟩;have hbx:=(hR.box k _ hk).1;exact⟨⟨t,xs,rfl,by rw[hz];exact hbx.keep hst (λ_ _=>rfl),λg hg=>hn k _ (by simp[Bk.name]) hk g (by rw[<-hz];exact hg)⟩,hnm⟩
    .simp at h
   |false=>
   rw[j7]at h;split at h
   .rename_i e t xs hk;simp only[j5,j9]at h;obtain⟨rfl,rfl,rfl⟩:=h;have hk:=hrd.live hk;have hz:=hc.1.2.2 _ hk;refine⟨.nil,⟨rfl,hz,⟨xs,hk,rfl⟩,trivial⟩,λS' hst _ hn=>?_⟩;have hbx:=(hR.box k _ hk).1;exact⟨t,xs,rfl,by rw[hz];exact hbx.keep hst (λ_ _=>rfl),λg hg=>hn k _ (by simp[Bk.name]) hk g (by rw[<-hz];exact hg)⟩
   .simp at h
  .split at h
   .rename_i e t xs fz hk;simp only[j5,j9]at h;obtain⟨rfl,rfl,rfl⟩:=h;have hkp:=hrdf.par hk;have hnm:=hrdf.ok.nm hk;have hk:=hrdf.ok.live hk;have hz:=hc.1.2.2 _ hk;refine⟨λx hx=>?_,trivial,λS' hst hfz _=>?_⟩
    .simp_all
    .have h1:One z:=hc.2 smp_;have:=hfz (k,_) (List.mem_singleton.2 rfl) e t xs fz hk;rw[<-hz]at this;exact⟨by grind[jdP],by simp[jdL,Ty.agg],λ_=>h1⟩
   .simp at h
 .split at h
  .split at h
   .rename_i ty hty;split at h
    .rename_i x u1 hx;simp only[j5,j9]at h;obtain⟨rfl,rfl,rfl⟩:=h;obtain⟨hf,hp,_⟩:=jdQ hrdf hR.box hx hc;exact⟨hf,trivial,λS' hst hfz _=>hp S' w hst hfz⟩
    .simp at h
   .simp at h
  .simp at h
theorem j9b.app{bx:H->BS}{arg:Arg}{z:G}{f:F Bk}:j9b bx γ [arg] [z] f->∀{as:F Arg}{us:F G}{fs:F Bk},j9b bx γ as us fs->j9b bx γ (arg::as) (z::us) (f++fs):=by
 intro h as us fs h';cases arg with
 |v x=>cases f with|nil=>exact h'|cons _ _=>exact h.elim
 |ip x=>cases f with|nil=>exact h'|cons _ _=>exact h.elim
 |clo x y=>cases f with|nil=>exact h'|cons _ _=>exact h.elim
 |ref ls=>
  match f,h with
  |[.ref k],⟨h1,h2,_⟩=>exact⟨h1,h2,h'⟩
  |.ref k::_::_,⟨_,_,h3⟩=>exact h3.elim
 |rl e x=>
  match f,h with
  |[.rl k e' t],⟨h0,h1,h2,_⟩=>exact⟨h0,h1,h2,h'⟩
  |.rl k e' t::_::_,⟨_,_,_,h3⟩=>exact h3.elim
 |mv e x=>
  match f,h with
  |[.mv k e' t],⟨h0,h1,h2,_⟩=>exact⟨h0,h1,h2,h'⟩
  |.mv k e' t::_::_,⟨_,_,_,h3⟩=>exact h3.elim
theorem jmS{rd rdf:H->BS}(hR:Rel N np S0 w0 refs σ a w S γ)(hrd:RdR σ rd)(hrdf:RdF np σ rdf){T:H->Â TyI}{mv:ä}:∀{cs:F Cel}{ts:F H}{ms:F ä}{as:F Arg}{u:Ups}{fs:F Bk}{zs:F G},
  jf7 rd rdf T mv ts ms cs=D (as,u,fs)->All2 (j0n S w γ σ.bx) cs zs->
  FrzL np σ.bx u/\j9b σ.bx γ as zs fs/\∀S',j3r S w S' w->Froz σ.bx γ S' w u->(∀k b,fs.any (λy=>y.name==k)=Ã->σ.bx k = .live b->∀g,blk (γ k)=D g->∀o,¬S' g o)->All2 (jca S' w) as zs
 |[],ts,ms,as,u,fs,zs,h,ha=>by
  simp[jf7]at h;obtain⟨rfl,rfl,rfl⟩:=h;cases zs with
  |nil=>exact⟨.nil,trivial,λ_ _ _ _=>trivial⟩
  |cons _ _=>exact ha.elim
 |c::cs,ts,ms,as,u,fs,zs,h,ha=>by
  cases zs with
  |nil=>exact ha.elim
  |cons z zs=>
   simp only[jf7]at h;split at h
   .rename_i a1 u1 f1 h1;split at h
    .rename_i as' us' fs' h2;simp only[j5,j9]at h;obtain⟨rfl,rfl,rfl⟩:=h;obtain⟨p1,q1,r1⟩:=jva hR hrd hrdf h1 ha.1;obtain⟨p2,q2,r2⟩:=jmS hR hrd hrdf h2 ha.2;refine⟨FrzL.app.2 ⟨p1,p2⟩,q1.app q2,λS' hst hfz hn=>?_⟩;obtain⟨z1,z2⟩:=Froz.app.1 hfz;exact⟨r1 S' hst z1 (λk b hk=>hn k b (by rw[List.any_append,hk];rfl)),r2 S' hst z2 (λk b hk=>hn k b (by rw[List.any_append,hk];simp))⟩
    .simp at h
   .simp at h
theorem jvb:∀{cs:F Cap}{zs:F G},All2 (j8e S w) cs zs->All2 (jca S w) (cs.map jf8) zs
 |[],[],_=>trivial
 |c::cs,z::zs,h=>by
  refine⟨?_,jvb h.2⟩;cases c with
  |v x=>obtain⟨hl,hr⟩:=h.1;have h1:One z:=Rep.one _ _ _ hr z smp_;refine⟨by rw[jdP h1];exact hr,λhm=>?_,λ_=>h1⟩;exfalso;obtain⟨t,v⟩:=x;cases t<;>simp_all[Ty.leafy,jdL,Ty.agg]
  |p ls=>exact h.1
 |[],_::_,h=>h.elim
 |_::_,[],h=>h.elim
theorem jsd:∀(cs:F Cap)(zs:F G),j1P (cs.map jf8) zs=[]
 |[],_=>by cases ‹F G› <;> rfl
 |c::cs,[]=>rfl
 |c::cs,z::zs=>by cases c<;>simp[j1P,j8X,jf8,jsd cs zs]
theorem jmT:∀(as:F Arg)(us:F G)(bs:F Arg)(vs:F G),as.length=us.length->j1P (as++bs) (us++vs)=j1P as us++j1P bs vs
 |[],[],bs,vs,_=>rfl
 |a::as,u::us,bs,vs,h=>by simp[j1P,jmT as us bs vs (by simpa using h)]
 |[],_::_,_,_,h=>by simp at h
 |_::_,[],_,_,h=>by simp at h
theorem j8Y{bx:H->BS}:∀{as:F Arg}{us:F G}{fs:F Bk},j9b bx γ as us fs->j1P as us=fs.filterMap λf=>blk (γ f.name)
 |[],[],[],_=>rfl
 |.ref ls::as,u::us,.ref k::fs,⟨h1,_,h3⟩=>by
  simp only[j1P,j8X,Ý,Bk.name,h1,j8Y h3];cases blk (γ k)<;>rfl
 |.rl e x::as,u::us,.rl k e' t::fs,⟨_,h1,_,h3⟩=>by
  simp only[j1P,j8X,Ý,Bk.name,h1,j8Y h3];cases blk (γ k)<;>rfl
 |.mv e x::as,u::us,.mv k e' t::fs,⟨_,h1,_,h3⟩=>by
  simp only[j1P,j8X,Ý,Bk.name,h1,j8Y h3];cases blk (γ k)<;>rfl
 |.v _::as,_::us,fs,h=>by simp[j1P,j8X,j8Y (as:=as) (us:=us) (fs:=fs) h]
 |.ip _::as,_::us,fs,h=>by simp[j1P,j8X,j8Y (as:=as) (us:=us) (fs:=fs) h]
 |.clo _ _::as,_::us,fs,h=>by simp[j1P,j8X,j8Y (as:=as) (us:=us) (fs:=fs) h]
theorem jA6:∀{as:F Arg}{us:F G}{g:H},g∈mvOf as us->g∈j1P as us
 |[],_,g,h=>by simp[mvOf]at h
 |_::_,[],g,h=>by rename_i a _;cases a<;>simp[mvOf]at h
 |a::as,u::us,g,h=>by
  have ih:=jA6 (as:=as) (us:=us) (g:=g);cases a with
  |mv e x=>simp only[mvOf,j1P,j8X,ì]at h ⊢;exact h.imp id ih
  |_=>simp only[mvOf]at h;simp only[j1P,ì];exact .inr (ih h)
theorem jcX{bx:H->BS}:∀{as:F Arg}{us:F G}{fs:F Bk}{g:H},j9b bx γ as us fs->g∈mvOf as us->∃f∈fs,f.isMv=Ã/\blk (γ f.name)=D g
 |[],[],[],g,_,h=>by simp[mvOf]at h
 |.ref ls::as,u::us,.ref k::fs,g,⟨_,_,h3⟩,h=>by
  obtain⟨f,hf,h1⟩:=jcX (g:=g) h3 (by simpa only[mvOf]using h);exact⟨f,by simp[hf],h1⟩
 |.rl e x::as,u::us,.rl k e' t::fs,g,⟨_,_,_,h3⟩,h=>by
  obtain⟨f,hf,h1⟩:=jcX (g:=g) h3 (by simpa only[mvOf]using h);exact⟨f,by simp[hf],h1⟩
 |.mv e x::as,u::us,.mv k e' t::fs,g,⟨_,h1,_,h3⟩,h=>by
  simp only[mvOf,ì,Option.mem_toList]at h;rcases h with h|h
  .exact⟨.mv k e' t,smp_,rfl,by rw[<-h];show blk (γ k)=blk u;rw[h1]⟩
  .obtain⟨f,hf,h1⟩:=jcX (g:=g) h3 h;exact⟨f,by simp[hf],h1⟩
 |.v _::as,_::us,fs,g,hb,h=>jcX (as:=as) (us:=us) (fs:=fs) hb (by simpa only[mvOf]using h)
 |.ip _::as,_::us,fs,g,hb,h=>jcX (as:=as) (us:=us) (fs:=fs) hb (by simpa only[mvOf]using h)
 |.clo _ _::as,_::us,fs,g,hb,h=>jcX (as:=as) (us:=us) (fs:=fs) hb (by simpa only[mvOf]using h)
theorem jvc{rd rdf:H->BS}(hrdf:RdF np σ rdf){t:Â TyI}{mv rl:ä}{c:Cel}{arg:Arg}{u:Ups}{f:Â Bk}(h:joN rd rdf t mv rl c=D (arg,u,f)):∀x∈f.toList,x.isMv=Ã->parK np x.name=false:=by
 intro x hx hm;unfold joN at h;split at h
 .grind[Bk.isMv]
 .simp_all
 .simp_all
 .split at h
  .cases mv with
   |true=>
    rw[j6]at h;split at h
    .rename_i hk;simp only[j5,j9]at h;obtain⟨_,_,rfl⟩:=h;simp at hx;subst hx;exact hrdf.par hk
    .simp at h
   |false=>grind[Bk.isMv]
  grind
 grind
theorem jmU{rd rdf:H->BS}(hrdf:RdF np σ rdf){T:H->Â TyI}{mv:ä}:∀{cs:F Cel}{ts:F H}{ms:F ä}{as:F Arg}{u:Ups}{fs:F Bk},
  jf7 rd rdf T mv ts ms cs=D (as,u,fs)->∀x∈fs,x.isMv=Ã->parK np x.name=M
 |[],ts,ms,as,u,fs,h,x,hx,hm=>by
  simp[jf7]at h;obtain⟨rfl,rfl,rfl⟩:=h;simp at hx
 |c::cs,ts,ms,as,u,fs,h,x,hx,hm=>by
  simp only[jf7]at h;split at h
  .rename_i a1 u1 f1 h1;split at h
   .rename_i as' us' fs' h2;simp only[j5,j9]at h;obtain⟨rfl,rfl,rfl⟩:=h;rcases List.mem_append.1 hx with hx|hx
    .exact jvc hrdf h1 x hx hm
    .exact jmU hrdf h2 x hx hm
   .simp at h
  .simp at h
theorem jdB{bx:H->BS}:∀{as:F Arg}{us:F G}{fs:F Bk},j9b bx γ as us fs->∀f∈fs,∃b,bx f.name = .live b
 |[],[],[],_,f,hf=>by simp at hf
 |.ref ls::as,u::us,.ref k::fs,⟨_,⟨ls',h2⟩,h3⟩,f,hf=>by
  rcases List.mem_cons.1 hf with rfl|hf
  .exact⟨_,h2⟩
  .exact jdB h3 f hf
 |.rl e x::as,u::us,.rl k e' t::fs,⟨_,_,⟨xs,h2,_⟩,h3⟩,f,hf=>by
  rcases List.mem_cons.1 hf with rfl|hf
  .exact⟨_,h2⟩
  .exact jdB h3 f hf
 |.mv e x::as,u::us,.mv k e' t::fs,⟨_,_,⟨xs,h2,_⟩,h3⟩,f,hf=>by
  rcases List.mem_cons.1 hf with rfl|hf
  .exact⟨_,h2⟩
  .exact jdB h3 f hf
 |.v _::as,_::us,fs,h,f,hf=>jdB (as:=as) (us:=us) (fs:=fs) h f hf
 |.ip _::as,_::us,fs,h,f,hf=>jdB (as:=as) (us:=us) (fs:=fs) h f hf
 |.clo _ _::as,_::us,fs,h,f,hf=>jdB (as:=as) (us:=us) (fs:=fs) h f hf
theorem jan:∀{l:F H},jc7 l=Ã->l.Nodup
 |[],_=>List.nodup_nil
 |x::l,h=>by
  simp only[jc7,J,Bool.not_eq_true',List.contains_eq_mem,decide_eq_false_iff_not]at h;exact List.nodup_cons.2 ⟨h.1,jan h.2⟩
theorem jj2(hR:Rel N np S0 w0 refs σ a w S γ):∀{l:F H},l.Nodup->(∀k∈l,∃b,σ.bx k = .live b)->(l.filterMap λk=>blk (γ k)).Nodup
 |[],_,_=>smp_
 |k::l,h,hl=>by
  obtain⟨h1,h2⟩:=List.nodup_cons.1 h;have ih:=jj2 hR h2 (λk hk=>hl k (by simp[hk]));rw[Ý];cases hb:blk (γ k) with
  |none=>exact ih
  |some g=>refine List.nodup_cons.2 ⟨λhm=>?_,ih⟩;obtain⟨k',hk',hg'⟩:=List.mem_filterMap.1 hm;obtain⟨b,hb1⟩:=hl k smp_;obtain⟨b',hb2⟩:=hl k' (by simp[hk']);exact hR.apart k k' b b' g (by rintro rfl;exact h1 hk') hb1 hb2 hb hg'
theorem jmV:∀(u:Ups)(σ:St){k:H}{b:BS},(u.map (·.1)).Nodup->(k,b)∈u->(σ.upd u).bx k=b
 |[],_,_,_,_,h=>by simp at h
 |e::u,σ,k,b,hn,h=>by
  simp only[List.map_cons,List.nodup_cons]at hn;show ((σ.setB e.1 e.2).upd u).bx k=_;rcases List.mem_cons.1 h with h|h
  .subst h;rw[j2L u,j0B];simp only[ã,beq_iff_eq];intro x hx he;exact hn.1 (List.mem_map.2 ⟨x,hx,he⟩)
  .exact jmV u _ hn.2 h
theorem jyG{e:H}{m n n':H}{v:G}{w':É}{xs ys:F G}(h:w.ownsRow 0 e m v n xs)(h':w'.ownsRow 0 e m v n' ys):n=n':=by
 rcases h.2 with⟨e1,e2⟩|⟨g,cap,cur,e1,_⟩<;>rcases h'.2 with⟨f1,f2⟩|⟨g',cap',cur',f1,_⟩;all_goals simp_all
theorem jj3{bx:H->BS}{S':j09}{w':É}{ys:F TV}{k:H}{v:G}(hg:γ k=v)(h:jpa S' w' ys v):j2m S' w' γ bx k (.cell (ys.map TV.leaf) M):=by
 obtain⟨g,cur,e,hu,hh,hall,hS⟩:=h;exact⟨g,cur,e,hg.trans hu,hh,by grind[j9g],λu hu'=>by rw[List.length_map]at hu';obtain⟨x,_,hx⟩:=hall.mem_right u hu';grind[Rep.one],λ_=>hS,smp_⟩
theorem jbY{bx:H->BS}{S':j09}{w':É}{e:H}{t:Ty}{ys:F t.den}{k:H}{v:G}(hg:γ k=v)(h:jjQ S' w' e ⟨.list t,ys⟩ v):j2m S' w' γ bx k (.lst e t ys M):=by
 obtain⟨t',xs,hx,hrow,hS⟩:=h;cases hx;exact⟨by rw[hg];exact hrow,λg hg'=>⟨λ_=>hS g (by rw[<-hg];exact hg'),smp_⟩⟩
theorem jbB{S':j09}{w':É}(hR:Rel N np S0 w0 refs σ a w S γ):∀{as:F Arg}{zs:F G}{fs:F Bk}{os:F Out}{uo:Ups},j9b σ.bx γ as zs fs->jaG fs os=D uo->j6h S' w' as zs os->
  uo.map (·.1)=fs.map Bk.name/\∀x∈uo,∃b,σ.bx x.1 = .live b/\(x.2 = .gone\/∃b',x.2 = .live b'/\j1X b b'/\∀bx',j2m S' w' γ bx' x.1 b')
 |[],[],[],[],uo,_,h,_=>by simp[jaG]at h;subst h;simp
 |.ref ls::as,u::us,.ref k::fs,.ref ys::os,uo,⟨h1,⟨ls',h2⟩,h3⟩,h,⟨q1,q2⟩=>by
  simp only[jaG,jyj]at h;split at h
  .rename_i u' hu';simp only[j5]at h;subst h;obtain⟨i1,i2⟩:=jbB hR h3 hu' q2;refine⟨by simp[i1,Bk.name],λx hx=>?_⟩;rcases List.mem_cons.1 hx with rfl|hx
   .exact⟨_,h2,.inr ⟨_,rfl,trivial,λbx'=>jj3 h1.symm q1⟩⟩
   .exact i2 x hx
  .simp at h
 |.rl e x::as,u::us,.rl k e' t::fs,.rl y::os,uo,⟨h0,h1,⟨xs,h2,h2'⟩,h3⟩,h,⟨q1,q1',q2⟩=>by
  simp only[jaG,jyj]at h;split at h
  .rename_i y' hy';split at hy'
   .rename_i ys hys;simp only[j5]at hy';subst hy';split at h
    .rename_i u' hu';simp only[j5]at h;subst h;obtain⟨i1,i2⟩:=jbB hR h3 hu' q2;refine⟨by simp[i1,Bk.name],λx hx=>?_⟩;rcases List.mem_cons.1 hx with rfl|hx
     .have:=jgI hys;subst this;subst h0;refine⟨_,h2,.inr ⟨_,rfl,⟨rfl,rfl,λhm=>?_⟩,λbx'=>jbY h1.symm q1⟩⟩;obtain⟨css,hown,_⟩:=j71 hm (hR.box k _ h2);obtain⟨css',hrow,_⟩:=j71 (bx:=σ.bx) hm (jbY h1.symm q1);exact jyG hown hrow
     .exact i2 x hx
    .simp at h
   .simp at hy'
  .simp at h
 |.mv e x::as,u::us,.mv k e' t::fs,os,uo,⟨h0,h1,⟨xs,h2,h2'⟩,h3⟩,h,q=>by
  simp only[jaG]at h;split at h
  .rename_i u' hu';simp only[j5]at h;subst h;obtain⟨i1,i2⟩:=jbB hR h3 hu' (by simpa only[j6h]using q);refine⟨by simp[i1,Bk.name],λx hx=>?_⟩;rcases List.mem_cons.1 hx with rfl|hx
   .exact⟨_,h2,.inl rfl⟩
   .exact i2 x hx
  .simp at h
 |.v _::as,_::us,fs,os,uo,h,h',q=>jbB (as:=as) (zs:=us) (fs:=fs) hR h h' q
 |.ip _::as,_::us,fs,os,uo,h,h',q=>jbB (as:=as) (zs:=us) (fs:=fs) hR h h' q
 |.clo _ _::as,_::us,fs,os,uo,h,h',q=>jbB (as:=as) (zs:=us) (fs:=fs) hR h h' q
theorem jj4(hR:Rel N np S0 w0 refs σ a w S γ){mvb:F H}{S':j09}{w':É}(hst:j3r S w S' w')(hnew:∀g o,S' g o->S g o\/w.heap.size<=g\/g∈mvb)(hhere:∀g o,S' g o->g<w'.heap.size)
  {as:F Arg}{zs:F G}{fs:F Bk}{os:F Out}{uo:Ups}(hmvb:∀g∈mvb,g∈mvOf as zs)(hpar:∀f∈fs,f.isMv=Ã->parK np f.name=M)(hbk:j9b σ.bx γ as zs fs)(hnd:(fs.map Bk.name).Nodup)(ho:jaG fs os=D uo)(hq:j6h S' w' as zs os)
  (hbelow:∀g,g<w.heap.size->g∉j1P as zs->w'.heap[g]? = w.heap[g]?)(hgrow:w.heap.size<=w'.heap.size)(hos:w'.os=w.os)(htape:w'.tape=w.tape)(hout:w'.output=w.output) :
  Rel N np S0 w0 refs (σ.upd uo) a w' S' γ:=by
 obtain⟨hkeys,hboxes⟩:=jbB hR hbk ho hq;have hnk:(uo.map (·.1)).Nodup:=by rw[hkeys];exact hnd
 have hsl:σ.upd uo={ σ with bx:=(σ.upd uo).bx }:=by
  have:=jmM uo σ;cases h:σ.upd uo
  simp_all
 have hcase:∀k,(uo.any (λy=>y.1==k)=M/\(σ.upd uo).bx k=σ.bx k)\/(∃b,σ.bx k = .live b/\(σ.upd uo).bx k = .gone)\/(∃b b',σ.bx k = .live b/\(σ.upd uo).bx k = .live b'/\j1X b b'/\∀bx',j2m S' w' γ bx' k b'):=by grind[jmV,j2L]
 have hlive:∀k b,(σ.upd uo).bx k = .live b->∃b',σ.bx k = .live b':=by grind
 have hle:BxLe γ σ.bx γ (σ.upd uo).bx:=by
  intro k hk;rcases hcase k with⟨_,h⟩|⟨b1,h1,h2⟩|⟨b1,b2,h1,h2,h3,_⟩
  .rw[h];exact⟨hk,rfl,λb hb=>⟨b,hb,.refl b⟩⟩
  all_goals grind
 have hrefs:∀g,g∈j1P as zs->∃f∈fs,blk (γ f.name)=D g/\∃b,σ.bx f.name = .live b:=by intro g hg;rw[j8Y hbk]at hg;grind[jdB]
 rw[hsl]
 refine Rel.step hR hst hle ?_ ?_ ?_ ?_ hhere ?_ (â hR.grow hgrow) (hos.trans hR.os) (htape.trans hR.tape) (hout.trans hR.output) (λg hg _ h=>⟨hbelow g hg (λhm=>by
  grind),λk b hb=>by
  grind⟩)
 .intro k b hb;rcases hcase k with⟨hk,h⟩|⟨b1,h1,h2⟩|⟨b1,b2,h1,h2,h3,h4⟩
  case inr.inl=>grind
  .rw[h]at hb;refine j2m.keep hst hle rfl (λg hg=>?_) (hR.box k b hb);have hgl:=j4T (hR.box k b hb) hg;suffices hno:g∉j1P as zs from⟨hbelow g hgl hno,λo=>⟨λhs=>(hnew g o hs).resolve_right (λh=>h.elim (λh=>omg_) λh=>hno (jA6 (hmvb g h))),λhs=>(hst g o hs).1⟩⟩
   intro hm;obtain⟨f,hf,hfg,b',hb'⟩:=hrefs g hm;have hne:k≠f.name:=by grind[List.mem_map_of_mem]
   exact hR.apart k f.name b b' g hne hb hb' hg hfg
  grind
 .intro k b g hb hg;obtain⟨b',hb'⟩:=hlive k b hb;exact hR.own k b' g hb' hg
 .intro k k' b1 b2 g hne h1 h2 hg;obtain⟨b1',h1'⟩:=hlive k b1 h1;obtain⟨b2',h2'⟩:=hlive k' b2 h2;exact hR.apart k k' b1' b2' g hne h1' h2' hg
 .intro g o hs;rcases hnew g o hs with h|h|h
  .exact hR.new g o h
  .exact .inr (.inl (â hR.grow h))
  .obtain⟨f,hf,hfm,hfg⟩:=jcX hbk (hmvb g h);obtain⟨b',hb'⟩:=jdB hbk f hf;rcases hR.own f.name b' g hb' hfg with h|h;all_goals grind
 .intro g hg hr;rw[hbelow g (Nat.lt_of_lt_of_le hg hR.grow) (λhm=>?_)]
  .exact hR.below g hg hr
  .obtain⟨f,hf,hfg,b',hb'⟩:=hrefs g hm;rcases hR.own f.name b' g hb' hfg with h|h
   .exact h.no omg_ hr
   .exact hr h.1
theorem jkM(hR:Rel N np S0 w0 refs σ a w S γ){d:H}(hd:σ.bx d = .free){v':G}{b:Bx}
  (hv:∀g,blk v'=D g->(Own w0 refs g/\refs.kw g=U)/\∀k b,σ.bx k = .live b->blk (γ k)≠D g)(hb:j2m S w (gset γ d v') (σ.setB d (.live b)).bx d b) :
  Rel N np S0 w0 refs (σ.setB d (.live b)) a w S (gset γ d v')/\BxLe γ σ.bx (gset γ d v') (σ.setB d (.live b)).bx:=by
 have hle:BxLe γ σ.bx (gset γ d v') (σ.setB d (.live b)).bx:=by
  intro k hk;have hne:k≠d:=by grind
  rw[j07 σ _ hne,j0p γ v' hne];exact⟨hk,rfl,λb hb=>⟨b,hb,.refl b⟩⟩
 refine⟨Rel.step (bx':=(σ.setB d (.live b)).bx) hR (.refl S w) hle ?_ ?_ ?_ hR.new hR.here hR.below hR.grow hR.os hR.tape hR.output (λg _ hkn h=>⟨rfl,λk b' hb' hbk=>by
  grind[j0r,j07,j0p]⟩),hle⟩
 .intro k b' hb';by_cases hk:k=d
  .grind[j0B]
  .rw[j07 σ _ hk]at hb';exact j2m.keep (.refl S w) hle (j0p γ v' hk) (λg hg=>⟨rfl,λ_=>ñ⟩) (hR.box k b' hb')
 .intro k b' g hb' hg;by_cases hk:k=d
  .grind[j0r]
  .rw[j07 σ _ hk]at hb';rw[j0p γ v' hk]at hg;exact hR.own k b' g hb' hg
 .intro k k' b1 b2 g hne h1 h2 hg hg';by_cases hk:k=d
  .grind[j0r,j07,j0p]
  .by_cases hk':k'=d
   .grind[j0r,j07,j0p]
   .rw[j07 σ _ hk]at h1;rw[j07 σ _ hk']at h2;rw[j0p γ v' hk]at hg;rw[j0p γ v' hk']at hg';exact hR.apart k k' b1 b2 g hne h1 h2 hg hg'
theorem jey{bx:H->BS}{x:TV}{u:G}(h:VRep S w x u):j0n S w γ bx (jcT x.t x.v) u:=by
 obtain⟨t,v⟩:=x;obtain⟨h1,h2,h3⟩:=h;refine jiW t v _ u h1 (λhm=>?_) (λha hn=>?_)
 .have:jdL t=true:=by
   rcases hm with hm|⟨n,b,rfl⟩
   .cases t<;>simp_all[jdL,Ty.agg]
   .rfl
  obtain⟨cs,rfl⟩:=h2 this;simp[Value.cells]
 simp_all[jdL,jdP]
theorem jke:∀{ls:F RL}{n:H}{l:F Leaf}{u:Ups},soL n ls=D (l,u)->∀x∈u,n<=x.1/\x.1<n+ls.length
 |[],n,l,u,h=>by grind[soL]
 |.d x::r,n,l,u,h=>by
  simp only[soL]at h;split at h
  .rename_i l' u' h';simp only[j5,j9]at h;obtain⟨rfl,rfl⟩:=h;intro y hy;have:=jke h' y hy;grind
  .simp at h
 |.own e ⟨.list a,xs⟩::r,n,l,u,h=>by
  simp only[soL]at h;split at h
  .rename_i l' u' h';simp only[j5,j9]at h;obtain⟨rfl,rfl⟩:=h;intro y hy;rcases List.mem_cons.1 hy with rfl|hy
   .simp_all
   .have:=jke h' y hy;grind
  .simp at h
 |.own e ⟨.int _,xs⟩::r,n,l,u,h=>by simp[soL]at h
 |.own e ⟨.bool,xs⟩::r,n,l,u,h=>by simp[soL]at h
 |.own e ⟨.str,xs⟩::r,n,l,u,h=>by simp[soL]at h
 |.own e ⟨.unit,xs⟩::r,n,l,u,h=>by simp[soL]at h
 |.own e ⟨.wrap _,xs⟩::r,n,l,u,h=>by simp[soL]at h
 |.own e ⟨.pair _ _,xs⟩::r,n,l,u,h=>by simp[soL]at h
 |.own e ⟨.arr _ _,xs⟩::r,n,l,u,h=>by simp[soL]at h
theorem jmW{n:H}{r:RV}{c:Cel}{u:Ups}(h:jyk n r=D (c,u)):∀x∈u,n<=x.1/\x.1<n+rvW r:=by
 unfold jyk at h;split at h
 .simp_all
 .grind[rvW]
 .simp at h
 .grind[rvW]
 .simp at h
 .grind
 .simp_all
 .split at h
  .rename_i l u' h';simp only[j5,j9]at h;obtain⟨rfl,rfl⟩:=h;exact jke h'
  .simp at h
 .simp at h
theorem jkN:∀{n:H}{rs:F RV}{cs:F Cel}{u:Ups},jjH n rs=D (cs,u)->∀x∈u,n<=x.1
 |n,[],cs,u,h=>by grind[jjH]
 |n,r::rs,cs,u,h=>by
  simp only[jjH]at h;split at h
  .rename_i c u1 h1;split at h
   .rename_i cs2 u2 h2;simp only[j5,j9]at h;obtain⟨rfl,rfl⟩:=h;intro x hx;rcases List.mem_append.1 hx with hx|hx
    .exact(jmW h1 x hx).1
    .have:=jkN h2 x hx;omega
   .simp at h
  .simp at h
theorem jvd{bx:H->BS}{ns:F H}:∀(k:H){ls:F Leaf}{cs:F G},All2 (j08 S w γ bx) ls cs->(∀i∈ns,∀z,k<=i->cs[i-k]? = D z->z = .slice U 0 0)->
  All2 (j08 S w γ bx) ((ls.zipIdx k).map λy=>if ns.contains y.2 then .nil else y.1) cs
 |_,[],[],_,_=>trivial
 |k,l::ls,c::cs,h,hn=>by
  refine⟨?_,jvd (k+1) h.2 λi hi z hk hz=>hn i hi z omg_ ?_⟩
  .by_cases hc:ns.contains k=Ã
   .simp only[hc,if_true];exact hn k (by simpa using hc) c (Ì _) smp_
   .simp only[hc];exact h.1
  grind
 |_,[],_::_,h,_=>h.elim
 |_,_::_,[],h,_=>h.elim
theorem jve(hR:Rel N np S0 w0 refs σ a w S γ){h0:H}(hle0:w0.heap.size<=h0)(hlive:∀k b g,σ.bx k = .live b->blk (γ k)=D g->g<h0)(hkw:∀g,h0<=g->refs.kw g=U)
  {ns:F H}{s:Snap}{v:G}(hraw:jBE h0 S w ns s v)(hfree:∀x∈rawU ns s,σ.bx x.1 = .free)(hnd:((rawU ns s).map (·.1)).Nodup) :
  ∃γ',Rel N np S0 w0 refs (σ.upd (rawU ns s)) a w S γ'/\∃zs,v=j7m zs/\All2 (j0n S w γ' (σ.upd (rawU ns s)).bx) (rawC ns s) zs:=by
 obtain⟨γr,zs,hv,hc,hb,hge,hap⟩:=hraw;generalize rawU ns s=u at *;let γ':H->Value:=λk=>if u.any (λy=>y.1==k) then γr k else γ k
 have hin:∀k,u.any (λy=>y.1==k)=Ã->(σ.upd u).bx k=(emp.upd u).bx k/\γ' k=γr k/\σ.bx k = .free:=by grind[jmV]
 have hout:∀k,u.any (λy=>y.1==k)=M->(σ.upd u).bx k=σ.bx k/\(emp.upd u).bx k = .free/\γ' k=γ k:=by grind[j2L,emp]
 have le1:BxLe γr (emp.upd u).bx γ' (σ.upd u).bx:=by
  intro k hk;cases hu:u.any (λy=>y.1==k) with
  |false=>grind
  |true=>obtain⟨h1,h2,_⟩:=hin k hu;rw[h1];exact⟨hk,h2,λb hb=>⟨b,hb,.refl b⟩⟩
 have le2:BxLe γ σ.bx γ' (σ.upd u).bx:=by
  intro k hk;cases hu:u.any (λy=>y.1==k) with
  |true=>grind
  |false=>obtain⟨h1,_,h2⟩:=hout k hu;rw[h1];exact⟨hk,h2,λb hb=>⟨b,hb,.refl b⟩⟩
 have hsl:σ.upd u={ σ with bx:=(σ.upd u).bx }:=by
  have:=jmM u σ;cases h:σ.upd u
  simp_all
 refine⟨γ',?_,zs,hv,hc.mono λx z hx=>j0n.keep (.refl S w) le1 hx⟩;rw[hsl];refine Rel.step hR (.refl S w) le2 ?_ ?_ ?_ hR.new hR.here hR.below hR.grow hR.os hR.tape hR.output (λg _ hkn h=>⟨rfl,λk b hb hbk=>?_⟩)
 .intro k b hb';cases hu:u.any (λy=>y.1==k) with
  |true=>obtain⟨h1,h2,_⟩:=hin k hu;rw[h1]at hb';exact j2m.keep (.refl S w) le1 h2 (λg hg=>⟨rfl,λ_=>ñ⟩) (hb k b hb')
  |false=>obtain⟨h1,_,h2⟩:=hout k hu;rw[h1]at hb';exact j2m.keep (.refl S w) le2 h2 (λg hg=>⟨rfl,λ_=>ñ⟩) (hR.box k b hb')
 .intro k b g hb' hg;cases hu:u.any (λy=>y.1==k) with
  |true=>obtain⟨h1,h2,_⟩:=hin k hu;rw[h1]at hb';rw[h2]at hg;exact .inl (.inl (â hle0 (hge k b g hb' hg)))
  |false=>obtain⟨h1,_,h2⟩:=hout k hu;rw[h1]at hb';rw[h2]at hg;exact hR.own k b g hb' hg
 .intro k k' b b' g hne hb1 hb2 hg1 hg2;cases hu:u.any (λy=>y.1==k) with
  |true=>grind
  |false=>
   obtain⟨h1,_,h2⟩:=hout k hu;rw[h1]at hb1;rw[h2]at hg1;cases hu':u.any (λy=>y.1==k') with
   |true=>grind
   |false=>obtain⟨h3,_,h4⟩:=hout k' hu';rw[h3]at hb2;rw[h4]at hg2;exact hR.apart k k' b b' g hne hb1 hb2 hg1 hg2
 grind
theorem jvf:∀{ls:F RL}{zs:F G}{n:H}{l:F Leaf}{u:Ups}{σ:St}{γ:H->G},Rel N np S0 w0 refs σ a w S γ->soL n ls=D (l,u)->All2 (jyD S w) ls zs->
  (∀x∈u,σ.bx x.1 = .free)->(jcW ls zs).Nodup->(∀g∈jcW ls zs,(Own w0 refs g/\refs.kw g=U)/\∀k b,σ.bx k = .live b->blk (γ k)≠D g)->
  ∃γ',Rel N np S0 w0 refs (σ.upd u) a w S γ'/\BxLe γ σ.bx γ' (σ.upd u).bx/\All2 (j08 S w γ' (σ.upd u).bx) l zs/\(∀z∈zs,One z)/\
   ∀k b g,(σ.upd u).bx k = .live b->blk (γ' k)=D g->(∃b',σ.bx k = .live b'/\blk (γ k)=D g)\/g∈jcW ls zs
 |[],[],n,l,u,σ,γ,hR,h,_,_,_,_=>by
  simp[soL]at h;obtain⟨rfl,rfl⟩:=h;exact⟨γ,hR,.refl _ _,trivial,smp_,λk b g h1 h2=> .inl ⟨b,h1,h2⟩⟩
 |.d x::ls,z::zs,n,l,u,σ,γ,hR,h,ha,hfree,hnd,hblk=>by
  simp only[soL]at h;split at h
  .rename_i l' u' h';simp only[j5,j9]at h;obtain⟨rfl,rfl⟩:=h;obtain⟨γ',q1,q2,q3,q4,q5⟩:=jvf hR h' ha.2 hfree hnd hblk;exact⟨γ',q1,q2,⟨ha.1.2,q3⟩,λy hy=>(List.mem_cons.1 hy).elim (λe=>e▸ha.1.1) (q4 y),q5⟩
  .simp at h
 |.own e ⟨.list t,xs⟩::ls,z::zs,n,l,u,σ,γ,hR,h,ha,hfree,hnd,hblk=>by
  simp only[soL]at h;split at h
  .rename_i l' u' h';simp only[j5,j9]at h;obtain⟨rfl,rfl⟩:=h;have hown:jjQ S w e ⟨.list t,xs⟩ z:=ha.1;have hone:One z:=by obtain⟨t',ys,_,hrow,_⟩:=hown;exact hrow.one
   have hfn:σ.bx n = .free:=hfree _ (ð ..);simp only[jcW]at hnd hblk;obtain⟨hR1,hle⟩:=jkM hR hfn (v':=z) (b:= .lst e t xs M) (λg hg=>hblk g (by simp[hg])) (jbY (j0r _ _ _) hown);have hname:=jke h'
   obtain⟨γ',q1,q2,q3,q4,q5⟩:=jvf hR1 h' ha.2 (λx hx=>by
    have:=hname x hx;rw[j07 σ _ omg_];exact hfree x (by simp[hx])) (List.nodup_append.1 hnd).2.1 (λg hg=>by
    obtain⟨p1,p2⟩:=hblk g (by simp[hg]);refine⟨p1,λk b' hb' he=>?_⟩;by_cases hk:k=n
    .subst hk;rw[j0r]at he;exact(List.nodup_append.1 hnd).2.2 g (by simp[he]) g hg rfl
    .rw[j07 σ _ hk]at hb';rw[j0p γ z hk]at he;exact p2 k b' hb' he)
   refine⟨γ',q1,λk hk=>?_,⟨j08.keep (.refl S w) q2 ⟨by rw[j0B];simp,hone,λb _=>(j0r γ n z).symm⟩,q3⟩,λy hy=>(List.mem_cons.1 hy).elim (λe=>e▸hone) (q4 y),λk b g h1 h2=>?_⟩
   .obtain⟨a1,a2,a3⟩:=hle k hk;obtain⟨b1,b2,b3⟩:=q2 k a1;refine⟨b1,b2.trans a2,λb hb=>?_⟩;obtain⟨b',hb',hs'⟩:=b3 b hb;obtain⟨b'',hb'',hs''⟩:=a3 b' hb';exact⟨b'',hb'',hs''.trans hs'⟩
   .rcases q5 k b g h1 h2 with⟨b',hb',he⟩|h3
    .by_cases hk:k=n
     .subst hk;rw[j0r]at he;exact .inr (by simp[jcW,he])
     .rw[j07 σ _ hk]at hb';rw[j0p γ z hk]at he;exact .inl ⟨b',hb',he⟩
    .exact .inr (by simp[jcW,h3])
  .simp at h
 |.own e ⟨.int _,xs⟩::r,_,n,l,u,_,_,_,h,_,_,_,_=>by simp[soL]at h
 |.own e ⟨.bool,xs⟩::r,_,n,l,u,_,_,_,h,_,_,_,_=>by simp[soL]at h
 |.own e ⟨.str,xs⟩::r,_,n,l,u,_,_,_,h,_,_,_,_=>by simp[soL]at h
 |.own e ⟨.unit,xs⟩::r,_,n,l,u,_,_,_,h,_,_,_,_=>by simp[soL]at h
 |.own e ⟨.wrap _,xs⟩::r,_,n,l,u,_,_,_,h,_,_,_,_=>by simp[soL]at h
 |.own e ⟨.pair _ _,xs⟩::r,_,n,l,u,_,_,_,h,_,_,_,_=>by simp[soL]at h
 |.own e ⟨.arr _ _,xs⟩::r,_,n,l,u,_,_,_,h,_,_,_,_=>by simp[soL]at h
 |[],_::_,_,_,_,_,_,_,_,ha,_,_,_=>ha.elim
 |.d _::_,[],_,_,_,_,_,_,_,ha,_,_,_=>ha.elim
 |.own _ ⟨.list _,_⟩::_,[],_,_,_,_,_,_,_,ha,_,_,_=>ha.elim
theorem jse:∀{rs:F RV}{vs:F G}{n:H}{cs:F Cel}{un:Ups}{σ:St}{γ:H->G},Rel N np S0 w0 refs σ a w S γ->jjH n rs=D (cs,un)->All2 (jk4 S w) rs vs->
  (∀x∈un,σ.bx x.1 = .free)->(j85 rs vs).Nodup->(∀g∈j85 rs vs,(Own w0 refs g/\refs.kw g=U)/\∀k b,σ.bx k = .live b->blk (γ k)≠D g)->
  ∃γ',Rel N np S0 w0 refs (σ.upd un) a w S γ'/\BxLe γ σ.bx γ' (σ.upd un).bx/\All2 (j0n S w γ' (σ.upd un).bx) cs vs
 |[],[],n,cs,un,σ,γ,hR,h,_,_,_,_=>by
  simp[jjH]at h;obtain⟨rfl,rfl⟩:=h;exact⟨γ,hR,.refl _ _,trivial⟩
 |r::rs,u::us,n,cs,un,σ,γ,hR,h,ha,hfree,hnd,hblk=>by
  simp only[jjH]at h;split at h
  .rename_i c u1 h1;split at h
   .rename_i cs2 u2 h2;simp only[j5,j9]at h;obtain⟨rfl,rfl⟩:=h
    have hgo:∀(σ1:St)(γ1:H->G),Rel N np S0 w0 refs σ1 a w S γ1->σ1=σ.upd u1->BxLe γ σ.bx γ1 σ1.bx->j0n S w γ1 σ1.bx c u->(∀x∈u2,σ1.bx x.1 = .free)->
      (j85 rs us).Nodup->(∀g∈j85 rs us,(Own w0 refs g/\refs.kw g=U)/\∀k b,σ1.bx k = .live b->blk (γ1 k)≠D g)->
      ∃γ',Rel N np S0 w0 refs (σ.upd (u1++u2)) a w S γ'/\BxLe γ σ.bx γ' (σ.upd (u1++u2)).bx/\All2 (j0n S w γ' (σ.upd (u1++u2)).bx) (c::cs2) (u::us):=by
     intro σ1 γ1 hR1 he hle hc hf hn hb;obtain⟨γ',q1,q2,q3⟩:=jse (σ:=σ1) (γ:=γ1) hR1 h2 ha.2 hf hn hb;subst he;rw[j6Z];refine⟨γ',q1,?_,j0n.keep (.refl S w) q2 hc,q3⟩;intro k hk;obtain⟨a1,a2,a3⟩:=hle k hk;obtain⟨b1,b2,b3⟩:=q2 k a1;refine⟨b1,b2.trans a2,λb hb=>?_⟩;obtain⟨b',hb',hs'⟩:=b3 b hb;obtain⟨b'',hb'',hs''⟩:=a3 b' hb';refine⟨b'',hb'',?_⟩;exact hs''.trans hs'
    have hname:=jmW h1;have hname2:=jkN h2
    have hnew:∀(v':G)(b:Bx),j9h r u=(blk v').toList->rvW r=1->u1=[(n,.live b)]->(∀bx',j2m S w (gset γ n v') bx' n b)->(∀bx',(bx' n = .live b)->j0n S w (gset γ n v') bx' c u)->
      ∃γ',Rel N np S0 w0 refs (σ.upd (u1++u2)) a w S γ'/\BxLe γ σ.bx γ' (σ.upd (u1++u2)).bx/\All2 (j0n S w γ' (σ.upd (u1++u2)).bx) (c::cs2) (u::us):=by
     intro v' b hv' hw1 hu1 hbox hcel;subst hu1;rw[hw1]at hname2;have hfn:σ.bx n = .free:=hfree (n,.live b) smp_;simp only[j85,hv']at hnd hblk;obtain⟨hR1,hle⟩:=jkM hR hfn (v':=v') (b:=b) (λg hg=>hblk g (by simp[hg])) (hbox _);refine hgo _ _ hR1 rfl hle (hcel _ (j0B _ _ _)) (λx hx=>?_) ?_ (λg hg=>?_)
     .have:=hname2 x hx;rw[j07 σ _ omg_];exact hfree x (by simp[hx])
     .exact(List.nodup_append.1 hnd).2.1
     .obtain⟨p1,p2⟩:=hblk g (by simp[hg]);refine⟨p1,λk b' hb' he=>?_⟩;by_cases hk:k=n
      .subst hk;rw[j0r]at he;have:=(List.nodup_append.1 hnd).2.2 g (by simp[he]) g hg;exact this rfl
      .rw[j07 σ _ hk]at hb';rw[j0p γ v' hk]at he;exact p2 k b' hb' he
    unfold jyk at h1;split at h1
    .rename_i x;simp only[j5,j9]at h1;obtain⟨rfl,rfl⟩:=h1;refine hgo σ γ hR rfl (.refl _ _) (jey ha.1) (λx hx=>hfree x (by simp[hx])) ?_ ?_
     .simpa[j85,jgJ,j9h]using hnd
     .simpa[j85,jgJ,j9h]using hblk
    .rename_i e el xs;simp only[j5,j9]at h1;obtain⟨rfl,rfl⟩:=h1;have hown:jjQ S w e ⟨.list el,xs⟩ u:=ha.1;have hone:One u:=by obtain⟨t',ys,_,hrow,_⟩:=hown;exact hrow.one
     exact hnew u _ rfl rfl rfl (λbx'=>jbY (j0r _ _ _) hown) (λbx' hb=>⟨⟨by rw[hb];simp,hone,λb _=>(j0r γ n u).symm⟩,λ_=>hone⟩)
    .simp at h1
    .rename_i ls;simp only[j5,j9]at h1;obtain⟨rfl,rfl⟩:=h1;have href:jpa S w ls u:=ha.1;obtain⟨g,cur,e,hu,_⟩:=id href;have hone:One u:=by rw[hu];rfl
     exact hnew u _ rfl rfl rfl (λbx'=>jj3 (j0r _ _ _) href) (λbx' hb=>⟨⟨by rw[hb];simp,hone,λb _=>⟨g,by rw[j0r,hu],hu⟩⟩,λ_=>hone⟩)
    .simp at h1
    .rename_i x ns;have hv:VRep S w x u/\∀cs,u = .agg cs->∀i∈ns,∀z,cs.toList[i]? = D z->z = .slice U 0 0:=ha.1;have hcr:j0n S w γ σ.bx (jcT x.t x.v) u:=jey hv.1
     have hc:j0n S w γ σ.bx c u/\u1=[]:=by
      split at h1
      .rename_i ls he;simp only[j5,j9]at h1;obtain⟨rfl,rfl⟩:=h1;rw[he]at hcr;obtain⟨cs,hu,hall,hone⟩:=hcr;exact⟨⟨cs,hu,jvd 0 hall λi hi z _ hz=>hv.2 cs hu i hi z (by simpa using hz),hone⟩,rfl⟩
      .simp only[j5,j9]at h1;obtain⟨rfl,rfl⟩:=h1;exact⟨hcr,rfl⟩
     obtain⟨hc,rfl⟩:=hc;refine hgo σ γ hR rfl (.refl _ _) hc (λx hx=>hfree x (by simp[hx])) ?_ ?_
     .simpa[j85,jgJ,j9h]using hnd
     .simpa[j85,jgJ,j9h]using hblk
    .rename_i f caps;simp only[j5,j9]at h1;obtain⟨rfl,rfl⟩:=h1;obtain⟨cv,hu,hall⟩:∃cv:Î G,u = .func (.func f) #[] cv/\All2 (j8e S w) caps cv.toList:=ha.1;refine hgo σ γ hR rfl (.refl _ _) ⟨⟨cv,hu,hall⟩,λ_=>by rw[hu];rfl⟩ (λx hx=>hfree x (by simp[hx])) ?_ ?_
     .simpa[j85,jgJ,j9h]using hnd
     .simpa[j85,jgJ,j9h]using hblk
    .rename_i ls;split at h1
     .rename_i l us' hl;simp only[j5,j9]at h1;obtain⟨rfl,rfl⟩:=h1;obtain⟨cs',hu,hall⟩:∃cs:Î G,u = .agg cs/\All2 (jyD S w) ls cs.toList:=ha.1;subst hu;have hbl:j9h (.so ls) (.agg cs')=jcW ls cs'.toList:=rfl;simp only[j85,hbl]at hnd hblk;obtain⟨γ1,q1,q2,q3,q4,q5⟩:=jvf hR hl hall (λx hx=>hfree x (by simp[hx])) (List.nodup_append.1 hnd).1 (λg hg=>hblk g (by simp[hg]));refine hgo _ γ1 q1 rfl q2 ⟨cs',rfl,q3,q4⟩ (λx hx=>?_) (List.nodup_append.1 hnd).2.1 (λg hg=>?_)
      .have h2:=hname2 x hx;rw[j2L us' σ]
       .exact hfree x (by simp[hx])
       .rw[ã];intro y hy he;simp only[beq_iff_eq]at he;have:=hname y hy;omega
      .obtain⟨p1,p2⟩:=hblk g (by simp[hg]);refine⟨p1,λk b' hb' he=>?_⟩;rcases q5 k b' g hb' he with⟨b2,hb2,he2⟩|h3
       .exact p2 k b2 hb2 he2
       .exact(List.nodup_append.1 hnd).2.2 g h3 g hg rfl
     .simp at h1
    .simp at h1
   .simp at h
  .simp at h
 |[],_::_,_,_,_,_,_,_,_,ha,_,_,_=>ha.elim
 |_::_,[],_,_,_,_,_,_,_,ha,_,_,_=>ha.elim
theorem jkO{S':j09}{w':É}:∀(cs:F Cap)(cv:F G)(os:F Out),j6h S' w' (cs.map jf8) cv os->os=[]
 |[],[],[],_=>rfl
 |[],[],_::_,h=>h.elim
 |[],_::_,_,h=>h.elim
 |c::cs,[],_,h=>by cases c<;>exact h.elim
 |.v _::cs,_::cv,os,h=>jkO cs cv os h
 |.p _::cs,_::cv,os,h=>jkO cs cv os h
theorem jez{S':j09}{w':É}{cs:F Cap}{cv:F G}:∀{as:F Arg}{zs:F G}{os:F Out},as.length=zs.length->
  j6h S' w' (as++cs.map jf8) (zs++cv) os->j6h S' w' as zs os
 |[],[],os,_,h=>by
  have:=jkO cs cv os h;subst this;trivial
 |.ref ls::as,u::us,.ref ys::os,hl,⟨h1,h2⟩=>⟨h1,jez (by simpa using hl) h2⟩
 |.rl e x::as,u::us,.rl y::os,hl,⟨h1,h2,h3⟩=>⟨h1,h2,jez (by simpa using hl) h3⟩
 |.v _::as,_::us,os,hl,h=>jez (as:=as) (zs:=us) (by simpa using hl) h
 |.ip _::as,_::us,os,hl,h=>jez (as:=as) (zs:=us) (by simpa using hl) h
 |.clo _ _::as,_::us,os,hl,h=>jez (as:=as) (zs:=us) (by simpa using hl) h
 |.mv _ _::as,_::us,os,hl,h=>jez (as:=as) (zs:=us) (by simpa using hl) h
 |[],_::_,_,hl,_=>by simp at hl
 |_::_,[],_,hl,_=>by simp at hl
 |.ref _::_,_::_,[],_,h=>h.elim
 |.ref _::_,_::_,.rl _::_,_,h=>h.elim
 |.rl _ _::_,_::_,[],_,h=>h.elim
 |.rl _ _::_,_::_,.ref _::_,_,h=>h.elim
theorem j9b.congr{bx bx':H->BS}:∀{as:F Arg}{us:F G}{fs:F Bk},(∀f∈fs,bx' f.name=bx f.name)->j9b bx γ as us fs->j9b bx' γ as us fs
 |[],[],[],_,_=>trivial
 |.ref ls::as,u::us,.ref k::fs,hc,⟨h1,⟨ls',h2⟩,h3⟩=>
  ⟨h1,⟨ls',(hc (.ref k) smp_).trans h2⟩,j9b.congr (λf hf=>hc f (by simp[hf])) h3⟩
 |.rl e x::as,u::us,.rl k e' t::fs,hc,⟨h0,h1,⟨xs,h2,hx⟩,h3⟩=>
  ⟨h0,h1,⟨xs,(hc (.rl k e' t) smp_).trans h2,hx⟩,j9b.congr (λf hf=>hc f (by simp[hf])) h3⟩
 |.mv e x::as,u::us,.mv k e' t::fs,hc,⟨h0,h1,⟨xs,h2,hx⟩,h3⟩=>
  ⟨h0,h1,⟨xs,(hc (.mv k e' t) smp_).trans h2,hx⟩,j9b.congr (λf hf=>hc f (by simp[hf])) h3⟩
 |.v _::as,_::us,fs,hc,h=>j9b.congr (as:=as) (us:=us) hc h
 |.ip _::as,_::us,fs,hc,h=>j9b.congr (as:=as) (us:=us) hc h
 |.clo _ _::as,_::us,fs,hc,h=>j9b.congr (as:=as) (us:=us) hc h
theorem jdU{S1 S':j09}{w':É}(hsub:∀g o,S g o->S' g o):∀{as:F Arg}{zs:F G}{os:F Out},os.all Out.flat=Ã->j6h S' w' as zs os->j6h S w' as zs os
 |[],[],[],_,_=>trivial
 |.ref ls::as,u::us,.ref ys::os,hf,⟨⟨g,cur,e,h1,h2,h3,h4⟩,h5⟩=>by
  simp only[List.all_cons,J,Out.flat]at hf;refine⟨⟨g,cur,e,h1,h2,?_,λo hs=>h4 o (hsub g o hs)⟩,jdU (S1:=S1) hsub hf.2 h5⟩;have hl:=hf.1;clear h1 h2 hf h4 h5;generalize cur.toList.take ys.length=l at h3;induction ys generalizing l with
  |nil=>cases l with|nil=>trivial|cons _ _=>exact h3.elim
  |cons y ys ih=>
   cases l with
   |nil=>exact h3.elim
   |cons z l=>simp only[List.all_cons,J]at hl;exact⟨jbA _ _ _ hl.1 h3.1,ih hl.2 l h3.2⟩
 |.rl e x::as,u::us,.rl y::os,hf,⟨⟨t,xs,h1,_⟩,_,_⟩=>by
  grind[Out.flat,Ty.flat]
 |.v _::as,_::us,os,hf,h=>jdU (S1:=S1) (as:=as) (zs:=us) hsub hf h
 |.ip _::as,_::us,os,hf,h=>jdU (S1:=S1) (as:=as) (zs:=us) hsub hf h
 |.clo _ _::as,_::us,os,hf,h=>jdU (S1:=S1) (as:=as) (zs:=us) hsub hf h
 |.mv _ _::as,_::us,os,hf,h=>jdU (S1:=S1) (as:=as) (zs:=us) hsub hf h
theorem jyH{S S':j09}{w:É}{e:H}{a:Ty}{xs:F a.den}{u:G}(hf:a.flat=Ã)(h:jfr S' w e a xs u):jfr S w e a xs u:=by
 rcases h with⟨hm,css,h1,h2⟩|⟨hm,h1⟩
 .exact .inl ⟨hm,css,h1,h2.mono λx c hx=>jbA _ _ _ hf hx⟩
 .refine .inr ⟨hm,?_⟩;revert hf h1;cases a with
  |pair k b=>intro hf h1;simp only[Ty.flat,J]at hf;obtain⟨g,es,clock,hu,hh,ha,hq⟩:=h1;exact⟨g,es,clock,hu,hh,ha.mono λx e hx=>⟨jbA _ _ _ hf.1 hx.1,jbA _ _ _ hf.2 hx.2.1,hx.2.2⟩,hq⟩
  |_=>intro _ h1;exact h1.elim
theorem jpb{S':j09}{w':É}(hsub:∀g o,S g o->S' g o):∀{rs:F RV}{vs:F G},rs.all RV.flat=Ã->All2 (jk4 S' w') rs vs->All2 (jk4 S w') rs vs
 |[],[],_,_=>trivial
 |r::rs,v::vs,hf,h=>by
  simp only[List.all_cons,J]at hf;have i1:=jpb hsub hf.2 h.2;cases r with
  |v x=>obtain⟨h1,h2,h3⟩:=h.1;exact⟨⟨jbA _ _ _ hf.1 h1,h2,h3⟩,i1⟩
  |own e x=>obtain⟨a,xs,rfl,h1,h2⟩:=h.1;exact⟨⟨a,xs,rfl,jyH hf.1 h1,λg hg o hs=>h2 g hg o (hsub g o hs)⟩,i1⟩
  |so ls=>simp[RV.flat]at hf
  |box ls=>simp[RV.flat]at hf
  |hd n=>simp[RV.flat]at hf
  |vn x ns=>simp[RV.flat]at hf
  |clo f cs=>simp[RV.flat]at hf
  |raw ns s=>simp[RV.flat]at hf
 |[],_::_,_,h=>h.elim
 |_::_,[],_,h=>h.elim
theorem jyI{rd:H->BS}(hrd:RdOk σ rd){un:Ups}(h:un.all (λe=>j6B (rd e.1))=Ã):∀x∈un,σ.bx x.1 = .free:=
 λx hx=>hrd.free (List.all_eq_true.1 h x hx)
theorem All2.len{α β:Type}{R:α->β->Prop}{as:F α}{bs:F β}(h:All2 R as bs):as.length=bs.length:=h.length
theorem jvg{γ':H->G}{bx:H->BS}{S':j09}{w':É}{tmv:H->G}{cs:F Cel}{vs:F G}(h:All2 (j0n S' w' γ' bx) cs vs) :
  j4q S' w' γ' bx tmv (jhO cs) (j7m vs):=by
 match cs,vs,h with
 |[c],[v],h=>exact h.1
 |[],[],h=>exact⟨#[],rfl,trivial⟩
 |c::c'::cs,v::v'::vs,h=>exact⟨(v::v'::vs).toArray,rfl,by simpa using h⟩
 |[c],v::v'::vs,h=>exact h.2.elim
 |c::c'::cs,[v],h=>exact h.2.elim
 |[],v::vs,h=>exact h.elim
 |c::cs,[],h=>exact h.elim
theorem jeA{bx:H->BS}{k e:H}{t:Ty}:∀{as:F Arg}{us:F G}{fs:F Bk},j9b bx γ as us (.rl k e t::fs)->∀(bs:F Arg)(vs:F G),jkd (as++bs) (us++vs)=D (γ k)
 |.rl e x::as,u::us,fs,⟨_,h1,_,_⟩,bs,vs=>by rw[<-h1];rfl
 |.v _::as,_::us,fs,h,bs,vs=>jeA (as:=as) (us:=us) (fs:=fs) h bs vs
 |.ip _::as,_::us,fs,h,bs,vs=>jeA (as:=as) (us:=us) (fs:=fs) h bs vs
 |.clo _ _::as,_::us,fs,h,bs,vs=>jeA (as:=as) (us:=us) (fs:=fs) h bs vs
 |[],[],fs,h,_,_=>h.elim
 |.ref _::as,_::us,fs,h,_,_=>h.elim
 |.mv _ _::as,_::us,fs,h,_,_=>h.elim
 |[],_::_,fs,h,_,_=>h.elim
 |_::_,[],fs,h,_,_=>by cases ‹Arg› <;> exact h.elim
theorem jkP{α β:Type}:∀(l:F α)(l':F β),List.Sublist ((l.zip l').map (·.1)) l
 |[],_=>smp_
 |_::_,[]=>smp_
 |x::l,y::l'=>by simpa using jkP l l'
theorem jsf:∀(as:F Arg)(us:F G)(bs:F Arg)(vs:F G),as.length=us.length->mvOf (as++bs) (us++vs)=mvOf as us++mvOf bs vs
 |[],[],bs,vs,_=>rfl
 |a::as,u::us,bs,vs,h=>by
  have ih:=jsf as us bs vs (by simpa using h);cases a<;>simp[mvOf,ih]
 |[],_::_,_,_,h=>by simp at h
 |_::_,[],_,_,h=>by simp at h
theorem jvh:∀(cs:F Cap)(zs:F G),mvOf (cs.map jf8) zs=[]
 |[],_=>by cases ‹F G› <;> rfl
 |c::cs,[]=>by cases c<;>rfl
 |c::cs,z::zs=>by cases c<;>simp[mvOf,jf8,jvh cs zs]
theorem jnH:∀{fs:F Bk}{os:F Out}{uo:Ups}{f:Bk},jaG fs os=D uo->f∈fs->f.isMv=Ã->(f.name,BS.gone)∈uo
 |[],os,uo,f,_,hf,_=>by simp at hf
 |.mv k e a::fs,os,uo,f,h,hf,hm=>by
  simp only[jaG]at h;split at h
  .rename_i u' hu';simp only[j5]at h;subst h;rcases List.mem_cons.1 hf with rfl|hf
   .exact ð
   .exact Í _ (jnH hu' hf hm)
  .simp at h
 |.ref k::fs,[],uo,f,h,hf,hm=>by simp[jaG]at h
 |.rl k e a::fs,[],uo,f,h,hf,hm=>by simp[jaG]at h
 |.ref k::fs,o::os,uo,f,h,hf,hm=>by
  simp only[jaG]at h;split at h
  .split at h
   .rename_i u' hu';simp only[j5]at h;subst h;rcases List.mem_cons.1 hf with rfl|hf
    .simp[Bk.isMv]at hm
    .exact Í _ (jnH hu' hf hm)
   .simp at h
  .simp at h
 |.rl k e a::fs,o::os,uo,f,h,hf,hm=>by
  simp only[jaG]at h;split at h
  .split at h
   .rename_i u' hu';simp only[j5]at h;subst h;rcases List.mem_cons.1 hf with rfl|hf
    .simp[Bk.isMv]at hm
    .exact Í _ (jnH hu' hf hm)
   .simp at h
  .simp at h
theorem jtC{P:À}(hR:Rel N np S0 w0 refs σ a w S γ){rw rd rdf:H->BS}(hrw:RdR σ rw)(hrd:RdOk σ rd)(hrdf:RdF np σ rdf){T:H->Â TyI}{ts:F H}{ms:F ä}{cs:F Cel}{as:F Arg}{us:Ups}{fs:F Bk}{zs:F G}
  {mv:ä}(h:jf7 rw rdf T mv ts ms cs=D (as,us,fs))(ha:All2 (j0n S w γ σ.bx) cs zs)(hok:bkOk us fs=Ã)
  {caps:F Cap}{cv:F G}(hcv:All2 (j8e S w) caps cv){g:H}{K:Ret->Prop}
  (hspec:jyF P g (as++caps.map jf8) K)(n:H) :
  Calls P g (zs++cv).toArray w λe w'=>∃ret,K ret/\∀s u,jqo rd rdf n us fs ret=D (s,u)->∃v S' γ',e = .returned v/\Rel N np S0 w0 refs (σ.upd u) a w' S' γ'/\j4q S' w' γ' (σ.upd u).bx (tm a) s v:=by
 obtain⟨hfl,hbk,hdata⟩:=jmS hR hrw hrdf h ha;simp only[bkOk,J]at hok;obtain⟨hnd,hsep⟩:=hok;have hnd:=jan hnd
 have hlen:as.length=zs.length:=by
  have:∀{as:F Arg}{us:F G}{fs:F Bk},j9b σ.bx γ as us fs->as.length=us.length:=by
   intro as;induction as with
   |nil=>intro us fs hh;cases us with|nil=>rfl|cons _ _=>exact hh.elim
   |cons a as ih=>
    intro us fs hh;cases us with
    |nil=>cases a<;>exact hh.elim
    |cons u us=>
     cases a with
     |v x=>have:=ih (us:=us) (fs:=fs) hh;simp[this]
     |ip x=>have:=ih (us:=us) (fs:=fs) hh;simp[this]
     |clo x y=>have:=ih (us:=us) (fs:=fs) hh;simp[this]
     |ref ls=>match fs,hh with|.ref k::fs,⟨_,_,h3⟩=>grind
     |rl e x=>match fs,hh with|.rl k e' t::fs,⟨_,_,_,h3⟩=>grind
     |mv e x=>match fs,hh with|.mv k e' t::fs,⟨_,_,_,h3⟩=>grind
  exact this hbk
 obtain⟨S1,hR1,hst1,hfz1,hsame⟩:=j4z us σ S hR hfl;have hsepk:∀k,k∈fs.map Bk.name->us.any (λy=>y.1==k)=false:=by grind
 have hsame1:∀f∈fs,(σ.upd us).bx f.name=σ.bx f.name:=λf hf=>j2L us σ (hsepk _ (List.mem_map_of_mem hf));have hbk1:=hbk.congr hsame1
 have hnoS:∀k b,fs.any (λy=>y.name==k)=Ã->σ.bx k = .live b->∀g,blk (γ k)=D g->∀o,¬S1 g o:=by
  intro k b hk hb g hg o;obtain⟨f,hf,he⟩:=List.any_eq_true.1 hk;have he:f.name=k:=by simpa using he
  subst he;have hb1:(σ.upd us).bx f.name = .live b:=(hsame1 f hf).trans hb;have hbox:=hR1.box f.name b hb1
  have hkind:(∃ls',b = .cell ls' M)\/(∃e t xs,b = .lst e t xs M):=by
   have:∀{as:F Arg}{us:F G}{fs:F Bk},j9b σ.bx γ as us fs->f∈fs->(∃ls',σ.bx f.name = .live (.cell ls' M))\/(∃e t xs,σ.bx f.name = .live (.lst e t xs M)):=by
    intro as;induction as with
    |nil=>intro us fs hh hm;match us,fs,hh with|[],[],_=>simp at hm
    |cons a as ih=>
     intro us fs hh hm;cases us with
     |nil=>cases a<;>exact hh.elim
     |cons u us=>
      cases a with
      |v x=>exact ih (us:=us) (fs:=fs) hh hm
      |ip x=>exact ih (us:=us) (fs:=fs) hh hm
      |clo x y=>exact ih (us:=us) (fs:=fs) hh hm
      |ref ls=>
       match fs,hh with
       |.ref k::fs,⟨_,⟨ls',h2⟩,h3⟩=>
        rcases List.mem_cons.1 hm with rfl|hm
        .exact .inl ⟨ls',h2⟩
        .exact ih h3 hm
      |rl e x=>
       match fs,hh with
       |.rl k e' t::fs,⟨_,_,⟨xs,h2,_⟩,h3⟩=>
        rcases List.mem_cons.1 hm with rfl|hm
        .exact .inr ⟨_,t,xs,h2⟩
        .exact ih h3 hm
      |mv e x=>
       match fs,hh with
       |.mv k e' t::fs,⟨_,_,⟨xs,h2,_⟩,h3⟩=>
        rcases List.mem_cons.1 hm with rfl|hm
        .exact .inr ⟨_,t,xs,h2⟩
        .exact ih h3 hm
   grind
  rcases hkind with⟨ls',rfl⟩|⟨e,t,xs,rfl⟩
  .obtain⟨g',cur,e,hg',_,_,_,hS,_⟩:=hbox;grind[blk]
  .exact(hbox.2 g hg).1 rfl o
 have hargs:All2 (jca S1 w) as zs:=hdata S1 hst1 hfz1 hnoS;have hcaps:All2 (jca S1 w) (caps.map jf8) cv:=jvb (hcv.mono (λx z hx=>j8e.keep hst1 hx));have hrefs:j1P (as++caps.map jf8) (zs++cv)=j1P as zs:=by grind[jmT,jsd]
 have hrefsnd:(j1P as zs).Nodup:=by rw[j8Y hbk];have:=jj2 hR hnd (λk hk=>by grind[jdB]);grind
 refine(hspec w S1 (zs++cv) (hargs.append hcaps) (by rw[hrefs];exact hrefsnd) hR1.here).mono ?_
 rintro e w' ⟨ret,hK,v,S',vs,rfl,hret⟩
 refine⟨ret,hK,λs u hmk=>?_⟩;obtain⟨hval,hrep,hfresh,hapart,houts,hstays,hnew,hhere,hbelow,hgrow,hos,htape,hout,hraw,hhead⟩:=hret;rw[hrefs]at hbelow;have hmvs:mvOf (as++caps.map jf8) (zs++cv)=mvOf as zs:=by grind[jsf,jvh]
 rw[hmvs]at hfresh hnew;have hpar:∀f∈fs,f.isMv=Ã->parK np f.name=false:=jmU hrdf h;have houts:=jez hlen houts;refine⟨v,?_⟩;unfold jqo at hmk;split at hmk
 ·-- the list handed first,cut short
  rename_i m hvm;unfold mkHd at hmk;generalize hro:ret.outs=ro at hmk houts;split at hmk
  .rename_i k e el fs' y os' _;split at hmk
   .rename_i uo ys huo hys;split at hmk
    .rename_i hcond;simp only[J]at hcond;simp only[j5,j9]at hmk;obtain⟨rfl,rfl⟩:=hmk;have hR2:=jj4 hR1 hstays hnew hhere (λ_ h=>h) hpar hbk1 hnd huo houts hbelow hgrow hos htape hout;obtain⟨hkeys,hobox⟩:=jbB hR1 hbk1 huo houts;have hnk:(uo.map (·.1)).Nodup:=by rw[hkeys];exact hnd
     have huo':(k,BS.live (.lst e el ys M))∈uo:=by grind[jaG,jyj]
     have hk2:=jmV uo (σ.upd us) hnk huo';obtain⟨bl,hbl⟩:=jdO hcond.2;have hkp:=hrdf.par hbl;have h0:=hrd.free hcond.1;have h1:(σ.upd us).bx n = .free:=hsame.free h0;have hfree2:((σ.upd us).upd uo).bx n = .free:=by grind[j2L]
     obtain⟨ad,len,cap,hfr,hml,hvs⟩:=hhead m hvm;have hgk:γ k = .slice ad len cap:=by grind[jeA]
     have hlen':len=ys.length:=by obtain⟨css,hown,_⟩:=js7 hgk (hR2.box k _ hk2);rcases hown.2 with⟨hg',hn⟩|⟨g,cap',cur,hg',_⟩;all_goals simp_all
     obtain⟨γ',hRn,hcn⟩:=jyB hR2 hk2 hkp hfree2 (m:=m) omg_ (by rw[hgk,hlen']);refine⟨S',γ',rfl,by grind[j6Z],?_⟩;rw[hval,hvs,j6Z,j6Z];exact hcn
    .simp at hmk
   .simp at hmk
  .simp at hmk
 ·-- the results as they lie
  rename_i ns sn hvm;unfold jyl at hmk;generalize hro:ret.outs=ro at hmk houts;split at hmk
  case h_2=>simp at hmk
  split at hmk
  case isFalse=>simp at hmk
  rename_i hcond;simp only[J]at hcond;simp only[j5,j9]at hmk;obtain⟨rfl,rfl⟩:=hmk;have hR2:=jj4 hR1 hstays hnew hhere (λ_ h=>h) hpar hbk1 hnd (uo:=[]) rfl houts hbelow hgrow hos htape hout;have hsub:∀x∈rawU ns sn,x.1∈ns:=λx hx=>(List.of_mem_zip hx).1
  obtain⟨γ',hR3,zs',hv',hc'⟩:=jve (h0:=w.heap.size) hR2 hR.grow (λk b g hb hg=>j4T (hR1.box k b hb) hg) (λg hg=>hR.kw_new hg) (hraw ns sn hvm)
   (λx hx=>hsame.free (hrd.free (List.all_eq_true.1 hcond.2 x.1 (hsub x hx)))) (by
    exact List.Nodup.sublist (jkP _ _) (jan hcond.1))
  refine⟨S',γ',rfl,by rw[j6Z];exact hR3,?_⟩;rw[hv',j6Z];exact jvg hc'
 split at hmk
 .rename_i uo huo;split at hmk
  .rename_i cs' un hun;split at hmk
   .rename_i hfree;have hfree:=jyI hrd hfree
    have hfin:∀(usx:Ups)(Sx Sy:j09),(usx=us\/usx=[])->Rel N np S0 w0 refs (σ.upd usx) a w Sx γ->j3r Sx w Sy w'->(∀g o,Sy g o->Sx g o\/w.heap.size<=g\/g∈mvOf as zs)->(∀g o,Sy g o->g<w'.heap.size)->
      j6h Sy w' as zs ret.outs->All2 (jk4 Sy w') ret.vals vs->
      ∃S' γ',Rel N np S0 w0 refs (σ.upd (usx++uo++un)) a w' S' γ'/\All2 (j0n S' w' γ' (σ.upd (usx++uo++un)).bx) cs' vs:=by
     intro usx Sx Sy husx hRx hstx hnewx hherex houtx hvalx
     have hbkx:j9b (σ.upd usx).bx γ as zs fs:=by
      rcases husx with rfl|rfl
      .exact hbk1
      .exact hbk
     have hR2:=jj4 hRx hstx hnewx hherex (λ_ h=>h) hpar hbkx hnd huo houtx hbelow hgrow hos htape hout;obtain⟨hkeys,hobox⟩:=jbB hRx hbkx huo houtx;have hlive2:∀k b,((σ.upd usx).upd uo).bx k = .live b->∃b',(σ.upd usx).bx k = .live b':=by grind[j2L]
     have hfree2:∀x∈un,((σ.upd usx).upd uo).bx x.1 = .free:=by
      intro x hx;have h0:=hfree x hx
      have h1:(σ.upd usx).bx x.1 = .free:=by
       rcases husx with rfl|rfl
       .exact hsame.free h0
       .exact h0
      rw[j2L uo,h1];rw[ã];intro y hy he;simp only[beq_iff_eq]at he;grind
     obtain⟨γ',hR3,_,hcel⟩:=jse hR2 hun hvalx hfree2 hapart (λg hg=>by
      rcases hfresh g hg with hge|hgm
      .refine⟨⟨.inl (â hR.grow hge),hR.kw_new hge⟩,λk b hb he=>?_⟩;obtain⟨b',hb'⟩:=hlive2 k b hb;have:=j4T (hRx.box k b' hb') he;omega
      .obtain⟨f,hf,hfm,hfg⟩:=jcX hbkx hgm;obtain⟨bf,hbf⟩:=jdB hbkx f hf;refine⟨⟨?_,hRx.kw_live hbf hfg⟩,λk b hb he=>?_⟩
       .rcases hRx.own f.name bf g hbf hfg with h|h;all_goals grind
       .obtain⟨b',hb'⟩:=hlive2 k b hb
        have hkf:k≠f.name:=by
         rintro rfl
         have hgone:=jnH huo hf hfm;grind[jmV]
        exact hRx.apart k f.name b' bf g hkf hb' hbf he hfg)
     grind[j6Z]
    have hcase:∃usx,(usx=us\/usx=[])/\usx=(if ret.vals.all RV.flat&&ret.outs.all Out.flat then [] else us)/\
      ∃S' γ',Rel N np S0 w0 refs (σ.upd (usx++uo++un)) a w' S' γ'/\All2 (j0n S' w' γ' (σ.upd (usx++uo++un)).bx) cs' vs:=by
     by_cases hflat:(ret.vals.all RV.flat&&ret.outs.all Out.flat)=Ã
     .refine⟨[],.inr rfl,by rw[if_pos hflat],?_⟩;obtain⟨hf1,hf2⟩:=Bool.and_eq_true_iff.1 hflat;have hsub:∀g o,S g o->S' g o:=λg o hs=>(hstays g o (hst1 g o hs).1).1
      refine hfin [] S S (.inr rfl) hR (λg o hs=>⟨hs,(hstays g o (hst1 g o hs).1).2⟩) (λg o hs=> .inl hs) (λg o hs=>Nat.lt_of_lt_of_le (hR.here g o hs) hgrow)
       (jdU (S1:=S1) hsub hf2 houts) (jpb hsub hf1 hrep)
     grind
    obtain⟨usx,_,husx,S2,γ2,hR2,hcel2⟩:=hcase
    have hs:s=jhO cs'/\u=(if ret.vals.all RV.flat&&ret.outs.all Out.flat then [] else us)++uo++un:=by
     clear hcel2 hfin hR2 hun;revert hmk;match cs' with
     |[c]=>simp only[j5,j9];rintro⟨rfl,rfl⟩;exact⟨rfl,rfl⟩
     |[]=>simp only[j5,j9];rintro⟨rfl,rfl⟩;exact⟨rfl,rfl⟩
     |c::c'::r=>simp only[j5,j9];rintro⟨rfl,rfl⟩;exact⟨rfl,rfl⟩
    grind[jvg]
   .simp at hmk
  .simp at hmk
 .simp at hmk
theorem jkf{P:À}{f:H}(hf:Fun P f){o:Oper}{cl:Call}(ho:o.op = .call cl){x:Operand}(hc:cl.callee = .value x){cv:Î G}(hx:a.eval x = .func (.func f) #[] cv) :
  (execOp a.eval o).run P w = .ok (.enter f (cl.args.map a.eval++cv)) w:=by
 obtain⟨fn,h1,h2,h3⟩:=hf;have h2':¬fn.body=none:=λhn=>by simp_all
 have h3' : ¬ fn.name = "runtime.NumGoroutine" := by simpa using h3
 simp[execOp,ho,resolve,hc,Deferred.ofValue,hx,invoke,callFunc,h1,h2',h3']
def keyV:(k:Ty)->k.den->G
 |.int q,n=> .int q n
 |.str,s=> .string s
 |_,_=>undef
theorem jj5:∀{k:Ty}{x:k.den}{u:G},k.isKey=Ã->(Rep S w k x [u]↔u=keyV k x)
 |.int q,x,u,_=>by simp[Rep,keyV]
 |.str,x,u,_=>by simp[Rep,keyV]
 |.bool,_,_,h=>by simp[Ty.isKey]at h
 |.unit,_,_,h=>by simp[Ty.isKey]at h
 |.wrap _,_,_,h=>by simp[Ty.isKey]at h
 |.pair _ _,_,_,h=>by simp[Ty.isKey]at h
 |.list _,_,_,h=>by simp[Ty.isKey]at h
 |.arr _ _,_,_,h=>by simp[Ty.isKey]at h
def keyD:Ty->TypeDesc
 |.int q=> .int q
 |_=> .string
theorem jyJ{P:À}{T:H->Â TyI}(hT:j1L P T){n:H}{ti:TyI}(hn:T n=D ti){k:Ty}(hty:ti.ty=D k)(hk:k.isKey=Ã):P.underlying n=D (keyD k):=by
 cases k with
 |int q=>exact jqu hT hn hty
 |str=>exact jqx hT hn hty
 |_=>simp[Ty.isKey]at hk
theorem jA7{k:Ty}(hk:k.isKey=Ã)(x:k.den):MapKept.IsKey (keyD k) (keyV k x):=by
 cases k with
 |int q=>rfl
 |str=>trivial
 |_=>simp[Ty.isKey]at hk
theorem jnI{k:Ty}(hk:k.isKey=Ã)(x y:k.den):Instr.sameNow (keyD k) (keyV k x) (keyV k y)=D (@BEq.beq _ k.keq x y):=by
 cases k with
 |int q=>simp[keyD,keyV,Instr.sameNow]
 |str=>simp[keyD,keyV,Instr.sameNow]
 |_=>simp[Ty.isKey]at hk
theorem jD2{k:Ty}(hk:k.isKey=Ã){x y:k.den}(h:@BEq.beq _ k.keq x y=Ã):x=y:=by
 cases k with
 |int q=>simpa[Ty.keq]using h
 |str=>exact(ú x y).1 h
 |_=>simp[Ty.isKey]at hk
theorem jsg{k:Ty}(hk:k.isKey=Ã)(x:k.den):Instr.sameBits 10000 (keyV k x) (keyV k x)=true:=by
 cases k with
 |int q=>simp[keyV,Instr.sameBits]
 |str=>simp only[keyV,Instr.sameBits];exact(ú x x).2 rfl
 |_=>simp[Ty.isKey]at hk
def jkQ(S:j09)(w:É)(k v:Ty)(x:k.den×v.den)(e:MapEntry):Prop:=Rep S w k x.1 [e.key]/\VRep S w ⟨v,x.2⟩ e.val
theorem jnJ{k v:Ty}(hk:k.isKey=Ã)(q:k.den):∀{xs:F (k.den×v.den)}{es:F MapEntry},All2 (jkQ S w k v) xs es->∀i:H,
  (@j1W _ _ k.keq xs q=Ã/\∃j e,è (keyD k) (keyV k q) es i=D (D (i+j,e.val))/\es[j]? = D e/\e.key=keyV k q/\VRep S w ⟨v,@j1r _ _ k.keq v.dflt xs q⟩ e.val/\
   ∀(z:v.den)(e':MapEntry),e'.key=keyV k q->VRep S w ⟨v,z⟩ e'.val->All2 (jkQ S w k v) (@j28 _ _ k.keq xs q z) (es.set j e'))\/
  (@j1W _ _ k.keq xs q=M/\è (keyD k) (keyV k q) es i=D U/\@j1r _ _ k.keq v.dflt xs q=v.dflt/\∀z,@j28 _ _ k.keq xs q z=xs++[(q,z)])
 |[],[],_,i=> .inr ⟨rfl,rfl,rfl,λ_=>rfl⟩
 |x::xs,e::es,h,i=>by
  have hek:e.key=keyV k x.1:=(jj5 hk).1 h.1.1;have hs:=jnI hk q x.1;rw[<-hek]at hs;cases hb:@BEq.beq _ k.keq q x.1 with
  |true=>
   rw[hb]at hs;have hqx:=jD2 hk hb;refine .inl ⟨by simp[j1W,hb],0,e,by simp[è,hs],rfl,by rw[hek,hqx],?_,λz e' h1 h2=>?_⟩
   .simp only[j1r,hb,j6];exact h.1.2
   .simp only[j28,hb,j6,List.set_cons_zero];exact⟨⟨(jj5 hk).2 h1,h2⟩,h.2⟩
  |false=>
   rw[hb]at hs;rcases jnJ hk q h.2 (i+1) with⟨h1,j,e',h2,h3,h4,h5,h6⟩|⟨h1,h2,h3,h4⟩
   .refine .inl ⟨by simp only[j1W,ò,hb,Bool.false_or];exact h1,j+1,e',by simp only[è,hs,h2];congr 3;omega,by simpa using h3,h4,?_,λz e2 g1 g2=>?_⟩
    .simp only[j1r,hb,j7];exact h5
    .simp only[j28,hb,j7,List.set_cons_succ];exact⟨h.1,h6 z e2 g1 g2⟩
   .refine .inr ⟨by simp only[j1W,ò,hb,Bool.false_or];exact h1,by simp only[è,hs,h2],?_,λz=>?_⟩
    .simp only[j1r,hb,j7];exact h3
    .simp only[j28,hb,j7,h4 z];rfl
 |[],_::_,h,_=>h.elim
 |_::_,[],h,_=>h.elim
theorem jA8{k v:Ty}(hk:k.isKey=Ã){q:k.den}:∀{xs:F (k.den×v.den)}{es:F MapEntry},All2 (jkQ S w k v) xs es->@j1W _ _ k.keq xs q=M->∀e∈es,e.key≠keyV k q
 |[],[],_,_=>smp_
 |x::xs,e::es,h,hn=>by
  simp only[j1W,ò,ê]at hn;intro e' he';rcases List.mem_cons.1 he' with rfl|he'
  .intro hq;have hek:=(jj5 hk).1 h.1.1;have hs:=jnI hk q x.1;rw[<-hek,hq,jnI hk q q,hn.1]at hs;simp only[j5]at hs;have:=jsg hk q;cases k with
   |int z=>simp at hs
   |str=>have:=(ú q q).2 rfl;exact absurd (hs.symm.trans this) smp_
   |_=>simp[Ty.isKey]at hk
  .exact jA8 hk h.2 hn.2 e' he'
 |[],_::_,h,_=>h.elim
 |_::_,[],h,_=>h.elim
theorem jnK{P:À}{T:H->Â TyI}(hT:j1L P T){t:H}{k v:Ty}(h:jkz T t=D (k,v)) :
  ∃kt vt tv,P.underlying t=D (.map kt vt)/\P.underlying kt=D (keyD k)/\k.isKey=Ã/\T vt=D tv/\tv.ty=D v:=by
 unfold jkz at h;split at h
 .rename_i ti hti;split at h
  .rename_i k0 v0 hmp;split at h
   .rename_i tk tv htk htv;split at h
    .rename_i k1 v1 hk1 hv1;split at h
     .rename_i hik;simp only[j5,j9]at h;obtain⟨rfl,rfl⟩:=h;exact⟨k0,v0,tv,jBv hT hti hmp,jyJ hT htk hk1 hik,hik,htv,hv1⟩
     .simp at h
    .simp at h
   .simp at h
  .simp at h
 .simp at h
theorem jvi{rw:H->BS}(hrw:RdR σ rw){t:H}{k v:Ty}{x y:Leaf}{b:H}{ys:F (k.den×v.den)}{q:k.den}(h:mapC rw t k v x y=D (b,ys,q)) :
  x = .ol b/\y = .d k q/\σ.bx b = .live (.lst (4294967296+t) (.pair k v) ys M):=by
 unfold mapC at h;split at h
 .rename_i b0 tk key;split at h
  .rename_i e a0 xs hb;split at h
   .rename_i he;split at h
    .rename_i ys' q' h1 h2;simp only[j5,j9]at h;obtain⟨rfl,rfl,rfl⟩:=h;have e1:=jgI h1;have e2:=jgI h2;cases e1;cases e2;subst he;exact⟨rfl,rfl,hrw.live hb⟩
    .simp at h
   .simp at h
  .simp at h
 .simp at h
theorem jhU(t:H):isM (4294967296+t)=true:=by
 unfold isM;rw[Nat.ble_eq];exact Nat.le_add_right _ _
theorem jvj(hR:Rel N np S0 w0 refs σ a w S γ){b t:H}{k v:Ty}{ys:F (k.den×v.den)}{f:ä}(hb:σ.bx b = .live (.lst (4294967296+t) (.pair k v) ys f)) :
  ∃g es clock,γ b = .map (D g)/\w.heap[g]? = D (.map es clock)/\All2 (jkQ S w k v) ys es.toList/\jjO es clock:=by
 have h:=(hR.box b _ hb).1;rcases h with⟨hm,_⟩|⟨_,g,es,clock,h1,h2,h3,h4⟩
 .rw[jhU]at hm;simp at hm
 .exact⟨g,es,clock,h1,h2,h3,h4⟩
theorem jvk{P:À}{T:H->Â TyI}(hT:j1L P T){n:H}{ti:TyI}(hn:T n=D ti){t:Ty}(hty:ti.ty=D t):∃z,(zeroValue n).run P w = .ok z w/\VRep S w ⟨t,t.dflt⟩ z:=by
 obtain⟨i,d,hi,hd,hs,_,ha,_,h⟩:=j5v hT hn;obtain⟨_,⟨z,hz,hc⟩,hdo⟩:=h t hty;have hzo:=jyq hT hn hi hd;refine⟨z,by simp[zeroValue,typeInfo,hi,hz],?_,?_,?_⟩
 .rw[hc];exact j8t t
 .intro hm;have:aggD d=true:=by cases d<;>cases t<;>simp_all[j9f,jdL,aggD,Ty.agg]
  simp only[zOk,hz]at hzo;cases z<;>simp_all
 .intro hm;have:aggD d=false:=by cases d<;>cases t<;>simp_all[j9f,jdL,aggD,Ty.agg]
  simp only[zOk,hz]at hzo;cases z<;>first|rfl|simp_all
theorem jqB{P:À}{E:Env}(hT:j1L P E.T)(hR:Rel N np S0 w0 refs σ a w S γ){rw:H->BS}(hrw:RdR σ rw){t:H}{k v:Ty}(ht:jkz E.T t=D (k,v)){x y:Leaf}{b:H}{ys:F (k.den×v.den)}{q:k.den}
  (h:mapC rw t k v x y=D (b,ys,q)){zx zy:G}(hx:j08 S w γ σ.bx x zx)(hy:j08 S w γ σ.bx y zy) :
  ∃z,VRep S w ⟨v,@j1r _ _ k.keq v.dflt ys q⟩ z/\∀ok,(Instr.lookup t zx zy ok).run P w = .ok (if ok then .tuple #[z,.bool (@j1W _ _ k.keq ys q)] else z) w:=by
 obtain⟨kt,vt,tv,hund,hkd,hik,htv,htvy⟩:=jnK hT ht;obtain⟨rfl,rfl,hb⟩:=jvi hrw h;obtain⟨g,es,clock,hg,hh,ha,_⟩:=jvj hR hb;have hzx:zx = .map (D g):=(hx.2.2 _ hb).trans hg;have hzy:zy=keyV k q:=(jj5 hik).1 hy;subst hzx;subst hzy;have hck:=MapKept.run_checkKey (w:=w) hkd (jA7 hik q) es.isEmpty 9999;rcases jnJ hik q ha 0 with⟨h1,j,e,h2,h3,h4,h5,h6⟩|⟨h1,h2,h3,h4⟩
 .refine⟨e.val,h5,λok=>?_⟩;have hf:=Þ (w:=w) hkd h2;simp only[Instr.lookup,Á,run_underlying hund,I,Õ hh,Ä,hck,hf,h1]
 .obtain⟨z,hz,hzv⟩:=jvk (S:=S) (w:=w) hT htv htvy;refine⟨z,by rw[h3];exact hzv,λok=>?_⟩;have hf:=Þ (w:=w) hkd h2;simp only[Instr.lookup,Á,run_underlying hund,I,Õ hh,Ä,hck,hf,h1,hz]
theorem jvl(hR:Rel N np S0 w0 refs σ a w S γ){k:H}{b b':Bx}(hk:σ.bx k = .live b){g:H}(hg:blk (γ k)=D g)(hS:∀o,¬S g o)(hsh:j1X b b')
  {w':É}(hoth:∀i,i≠g->w'.heap[i]? = w.heap[i]?)(hsz:w'.heap.size=w.heap.size)(hos:w'.os=w.os)(htp:w'.tape=w.tape)(hout:w'.output=w.output)
  (hb:BxLe γ σ.bx γ (σ.setB k (.live b')).bx->j3r S w S w'->j2m S w' γ (σ.setB k (.live b')).bx k b') :
  Rel N np S0 w0 refs (σ.setB k (.live b')) a w' S γ:=by
 have hle:BxLe γ σ.bx γ (σ.setB k (.live b')).bx:=by
  intro k' hk';by_cases hkk:k'=k
  .subst hkk;rw[j0B];exact⟨smp_,rfl,λb1 hb1=>by simp at hb1;subst hb1;exact⟨b,hk,hsh⟩⟩
  .rw[j07 σ _ hkk];exact⟨hk',rfl,λb hb=>⟨b,hb,.refl b⟩⟩
 have hst:j3r S w S w':=by
  intro g' o h;refine⟨h,Û (hoth g' ?_)⟩
  rintro rfl
  exact hS o h
 have live':∀k' b1,(σ.setB k (.live b')).bx k' = .live b1->∃b2,σ.bx k' = .live b2:=by
  intro k' b1 h1;by_cases hkk:k'=k
  .subst hkk;exact⟨b,hk⟩
  .rw[j07 σ _ hkk]at h1;exact⟨b1,h1⟩
 refine Rel.step (bx':=(σ.setB k (.live b')).bx) hR hst hle ?_ ?_ ?_ hR.new ?_ ?_ ?_ (hos.trans hR.os) (htp.trans hR.tape) (hout.trans hR.output) (λg' _ _ h=>⟨hoth g' (λe=>h k b hk (e▸hg)),λk' b1 h1=>by
  obtain⟨b2,h2⟩:=live' k' b1 h1;exact h k' b2 h2⟩)
 .intro k' b1 h1;by_cases hkk:k'=k
  .subst hkk;rw[j0B]at h1;simp at h1;subst h1;exact hb hle hst
  .rw[j07 σ _ hkk]at h1;refine j2m.keep hst hle rfl (λg' hg'=>⟨?_,λ_=>ñ⟩) (hR.box k' b1 h1);exact hoth g' (λh=>hR.apart k' k b1 b g hkk h1 hk (h▸hg') hg)
 .intro k' b1 g' h1 hg';obtain⟨b2,h2⟩:=live' k' b1 h1;exact hR.own k' b2 g' h2 hg'
 .intro k1 k2 b1 b2 g' hne h1 h2 hg';obtain⟨b1',h1'⟩:=live' k1 b1 h1;obtain⟨b2',h2'⟩:=live' k2 b2 h2;exact hR.apart k1 k2 b1' b2' g' hne h1' h2' hg'
 .intro g' o h;rw[hsz];exact hR.here g' o h
 .intro g' hg' hr;rw[hoth g' ?_]
  .exact hR.below g' hg' hr
  .rintro rfl
   rcases hR.own k b _ hk hg with h|h
   .exact h.no omg_ hr
   .exact hr h.1
 .rw[hsz];exact hR.grow
theorem jtD{P:À}{E:Env}(hT:j1L P E.T)(hR:Rel N np S0 w0 refs σ a w S γ){rw:H->BS}(hrw:RdR σ rw){t:H}{k v:Ty}(ht:jkz E.T t=D (k,v)){x y:Leaf}{b:H}{ys:F (k.den×v.den)}{q:k.den}
  (h:mapC rw t k v x y=D (b,ys,q)){zx zy zz:G}(hx:j08 S w γ σ.bx x zx)(hy:j08 S w γ σ.bx y zy){rdf:H->BS}(hrdf:RdF np σ rdf){c:Cel}{z:v.den}{u:Ups}(hd:jf5 rdf v c=D (z,u))(hz:j0n S w γ σ.bx c zz) :
  ∃w' S',(í t zx zy zz).run P w = .ok () w'/\Rel N np S0 w0 refs (σ.upd (u++[(b,.live (.lst (4294967296+t) (.pair k v) (@j28 _ _ k.keq ys q z) M))])) a w' S' γ:=by
 obtain⟨kt,vt,tv,hund,hkd,hik,htv,htvy⟩:=jnK hT ht;obtain⟨rfl,rfl,hb⟩:=jvi hrw h;obtain⟨hfl,hrep,_⟩:=jdQ hrdf hR.box hd hz;obtain⟨S1,hR1,hst1,hfz1,hsame⟩:=j4z u σ S hR hfl;have hnb:u.any (λy=>y.1==b)=false:=by rw[ã];intro y hy hyb;obtain⟨_,e,t',xs,f,h1,_,hm⟩:=hfl y hy;rw[show y.1=b by simpa using hyb,hb]at h1;cases h1;rw[jhU]at hm;simp at hm
 have hb1:(σ.upd u).bx b = .live (.lst (4294967296+t) (.pair k v) ys M):=(j2L u σ hnb).trans hb;obtain⟨g,es,clock,hg,hh,ha,hq⟩:=jvj hR1 hb1;have hzx:zx = .map (D g):=(hx.2.2 _ hb).trans hg;have hzy:zy=keyV k q:=(jj5 hik).1 hy;subst hzx;subst hzy;have hvz:=hrep S1 w hst1 hfz1;have hgb:blk (γ b)=D g:=by rw[hg];rfl
 have hS:∀o,¬S1 g o:=((hR1.box b _ hb1).2 g hgb).1 rfl;have hck:=MapKept.run_checkKey (w:=w) hkd (jA7 hik q) M 9999
 have main:∃es' clock',(í t (.map (D g)) (keyV k q) zz).run P w = .ok () { w with heap:=w.heap.setIfInBounds g (.map es' clock') }/\All2 (jkQ S1 w k v) (@j28 _ _ k.keq ys q z) es'.toList/\jjO es' clock':=by
  rcases jnJ hik q ha 0 with⟨h1,j,e,h2,h3,h4,h5,h6⟩|⟨h1,h2,h3,h4⟩
  .have hf:=Þ (w:=w) hkd h2;rw[Nat.zero_add]at hf;refine⟨es.modify j λe=>{ e with key:=keyV k q,val:=zz },clock,?_,?_,MapKept.stamped_modify hq.1 j _ (λ_ _=>rfl) (λe1 _ he1=>?_),?_⟩
   .have hjk:((es[j]?).map (·.key)).getD (keyV k q)=keyV k q:=by rw[show es[j]? = D e by simpa using h3];exact h4
    simp only[í,Á,run_underlying hund,I,Õ hh,hck,hf,Instr.keyThatStays,hjk,jsg hik q,if_true,Ä,MapKept.run_setObj_map _ hh]
   .have e1:(es.modify j λe=>{ e with key:=keyV k q,val:=zz }).toList=es.toList.set j { e with key:=keyV k q,val:=zz }:=by
     refine ô λi=>?_;rw[é,Array.getElem?_modify,List.getElem?_set];have h3':es[j]? = D e:=by simpa using h3
     by_cases hij:j=i
     .subst hij;simp only[if_true,h3',à];rw[if_pos (by simpa using (Array.getElem?_eq_some_iff.1 h3').1)]
     .simp[hij]
    rw[e1];exact h6 z _ rfl hvz
   .rw[show es[j]? = D e by simpa using h3]at he1;cases he1;exact h4.symm
   .rw[<-hq.2];refine ô λi=>?_;rw[õ,õ,é,é,Array.getElem?_modify];split
    .rename_i hij;subst hij;cases es[j]? <;> rfl
    .rfl
  .have hf:=Þ (w:=w) hkd h2;refine⟨es.push { key:=keyV k q,val:=zz,born:=clock },clock+1,?_,?_,MapKept.stamped_push hq.1 (jA8 hik ha h1),by rw[Array.toList_push,List.map_append,hq.2,List.range_succ];rfl⟩
   .simp only[í,Á,run_underlying hund,I,Õ hh,hck,hf,MapKept.run_setObj_map _ hh]
   .rw[h4 z,Array.toList_push];exact ha.append ⟨⟨(jj5 hik).2 rfl,hvz⟩,trivial⟩
 obtain⟨es',clock',hrun,hall,hq'⟩:=main;have hlt:g<w.heap.size:=(Array.getElem?_eq_some_iff.1 hh).1;refine⟨_,S1,hrun,?_⟩;rw[j6Z];refine jvl hR1 hb1 hgb hS (b':= .lst (4294967296+t) (.pair k v) (@j28 _ _ k.keq ys q z) M) ⟨rfl,rfl,λhm=>by rw[jhU]at hm;simp at hm⟩ (λi hi=>by simp[Ne.symm hi]) smp_ rfl rfl rfl λhle hst=>?_;refine⟨.inr ⟨jhU t,g,es',clock',hg,by simp[hlt],hall.mono λx e hx=>⟨Rep.keep hst _ _ _ hx.1,VRep.keep hst hx.2⟩,hq'⟩,λg' hg'=>?_⟩;rw[hgb]at hg';simp at hg';subst hg';exact⟨λ_=>hS,λh=>by simp at h⟩
theorem jtE{P:À}(hR:Rel N np S0 w0 refs σ a w S γ){n t:H}{k v:Ty}(hn:σ.bx n = .free) :
  ∃γ',(Instr.makeMap t U).run P w = .ok (.map (D w.heap.size)) (w.alloc (.map #[] 0))/\Rel N np S0 w0 refs (σ.setB n (.live (.lst (4294967296+t) (.pair k v) [] M))) a (w.alloc (.map #[] 0)) S γ'/\
   j0n S (w.alloc (.map #[] 0)) γ' (σ.setB n (.live (.lst (4294967296+t) (.pair k v) [] M))).bx (.one (.ol n)) (.map (D w.heap.size)):=by
 have hnb:=jnE hR hn (o:= .map #[] 0) (b:= .lst (4294967296+t) (.pair k v) [] M) (v:= .map (D w.heap.size)) (λg hg=>by simp[blk]at hg;exact hg.symm) (λhle=>by
  refine⟨.inr ⟨jhU t,w.heap.size, #[],0,j0r _ _ _,heap_alloc_new w _,trivial,MapKept.stamped_empty 0,rfl⟩,λg hg=>?_⟩;rw[j0r]at hg;simp[blk]at hg;subst hg;exact⟨λ_ o ho=>by have:=hR.here _ o ho;omega,λh=>by simp at h⟩)
 refine⟨_,rfl,hnb.1,⟨?_,rfl,λb hb=>(j0r _ _ _).symm⟩,λ_=>rfl⟩;rw[j0B];simp
theorem jtF{P:À}{E:Env}(hT:j1L P E.T)(hR:Rel N np S0 w0 refs σ a w S γ){rdf:H->BS}(hrdf:RdF np σ rdf){t:Ç}{ti:TyI}(ht:E.T t=D ti)
  {m:H}{el:Ty}(hty:ti.ty=D (.arr m el)){ps:F (H×Cel)}{vs:Î (H×G)}{xs:F el.den}{u:Ups}
  (hps:All2 (λp v=>p.1=v.1/\j0n S w γ σ.bx p.2 v.2) ps vs.toList)(h:ja5 rdf el (O m el.dflt) [] ps=D (xs,u)) :
  ∃v S',(ç t vs).run P w = .ok v w/\Rel N np S0 w0 refs (σ.upd u) a w S' γ/\j0n S' w γ (σ.upd u).bx (.av m el xs) v:=by
 obtain⟨hund,hpos,te,hte,htety⟩:=jiV hT ht hty;have hsz:=jbr hT hte htety;obtain⟨z,hz,hzc⟩:=jet hT ht w hty;obtain⟨hfl,hrest⟩:=jiZ hrdf hR.box hpos ps vs.toList hps h .nil;obtain⟨S1,hR1,hst1,hfz1,hsame⟩:=j4z u σ S hR hfl;obtain⟨hrl,css,hall,hflat⟩:=j8t (S:=S1) (w:=w) (.arr m el);obtain⟨cells',css',hfill,hall',hcells⟩:=hrest S1 hst1 hfz1 css z.cells hall (by rw[hzc];exact hflat);have hlen:∀(ps:F (H×Cel)){xs xs':F el.den}{u u':Ups},ja5 rdf el xs u ps=D (xs',u')->xs'.length=xs.length:=by intro ps;induction ps<;>grind[ja5]
 have hxl:xs.length=m:=by grind
 refine⟨.agg cells',S1,?_,hR1,cells',rfl,hxl,css',hall',hcells⟩;simp only[ç,Á,hz,I,run_underlying hund,j2J hT hte,<-hsz,hfill,Ä]
theorem jtG{P:À}{E:Env}(hT:j1L P E.T){bx:H->BS}{t:Ç}{ti:TyI}(ht:E.T t=D ti){m:H}{el:Ty}(hty:ti.ty=D (.arr m el)) :
  ∃v,(ç t #[]).run P w = .ok v w/\j0n S w γ bx (.st (jhL (.arr m el))) v:=by
 obtain⟨hund,hpos,te,hte,htety⟩:=jiV hT ht hty;obtain⟨z,hz,hzc⟩:=jet hT ht w hty;refine⟨.agg z.cells,?_,z.cells,rfl,by grind[jaJ],λu hu=>jkc hzc u (by simpa using hu)⟩;simp only[ç,Á,hz,I,run_underlying hund,j2J hT hte];rfl
theorem jpc{rd:H->BS}(hrd:RdF np σ rd)(hB:jp4 S w γ σ.bx){el:Ty}:∀{ls:F Leaf}{xs:F el.den}{u:Ups}{zs:F G},jnt rd el ls=D (xs,u)->All2 (j08 S w γ σ.bx) ls zs->
  FrzL np σ.bx u/\∀S' w',j3r S w S' w'->Froz σ.bx γ S' w' u->All2 (λx z=>Rep S' w' el x [z]) xs zs
 |[],xs,u,zs,h,ha=>by
  simp[jnt]at h;obtain⟨rfl,rfl⟩:=h;cases zs with
  |nil=>exact⟨.nil,λ_ _ _ _=>trivial⟩
  |cons _ _=>exact ha.elim
 |l::ls,xs,u,zs,h,ha=>by
  cases zs with
  |nil=>exact ha.elim
  |cons z zs=>
   simp only[jnt]at h;split at h
   .rename_i x u1 xs1 u2 h1 h2;simp only[j5,j9]at h;obtain⟨rfl,rfl⟩:=h;obtain⟨f1,p1⟩:=jc8 hrd hB h1 ha.1;obtain⟨f2,p2⟩:=jpc hrd hB h2 ha.2;exact⟨FrzL.app.2 ⟨f1,f2⟩,λS' w' hk hf=>⟨p1 S' w' hk (Froz.app.1 hf).1,p2 S' w' hk (Froz.app.1 hf).2⟩⟩
   .simp at h
theorem jmX{el:Ty}{S':j09}{w':É}:∀{xs:F el.den}{zs:F G},All2 (λx z=>Rep S' w' el x [z]) xs zs->∃css,All2 (λx c=>Rep S' w' el x c) xs css/\zs=css.flatten
 |[],[],_=>⟨[],trivial,rfl⟩
 |x::xs,z::zs,h=>by
  obtain⟨css,h1,h2⟩:=jmX h.2;exact⟨[z]::css,⟨h.1,h1⟩,by simp[h2]⟩
 |[],_::_,h=>h.elim
 |_::_,[],h=>h.elim
theorem jvm{P:À}{E:Env}(hT:j1L P E.T)(hR:Rel N np S0 w0 refs σ a w S γ){rd rdf:H->BS}(hrd:RdOk σ rd)(hrdf:RdF np σ rdf){t:Ç}{ti:TyI}(ht:E.T t=D ti)
  {x:Leaf}{m:H}{el:Ty}{ls:F Leaf}{xs:F el.den}{u:Ups}{v:G}(h:jhM rd ti.ty x=D (m,el,ls))(hg:jnt rdf el ls=D (xs,u))(hl:xs.length=m)(hx:j08 S w γ σ.bx x v) :
  ∃z S',(Instr.loadAt t v).run P w = .ok z w/\Rel N np S0 w0 refs (σ.upd u) a w S' γ/\j0n S' w γ (σ.upd u).bx (.av m el xs) z:=by
 unfold jhM at h;split at h
 .rename_i k;split at h
  .rename_i m' el' hty;split at h
   .split at h
    .rename_i ls' hk;simp only[j5,j9]at h;obtain⟨rfl,rfl,rfl⟩:=h;have hk:=hrd.live hk;obtain⟨g,hg',hu⟩:=hx.2.2 _ hk;obtain⟨g',cur,e,hg2,hh,ha,h1,_⟩:=hR.box k _ hk;rw[hg']at hg2;simp at hg2;subst hg2;obtain⟨hfl,hrest⟩:=jpc hrdf hR.box hg ha;obtain⟨S1,hR1,hst1,hfz1,hsame⟩:=j4z u σ S hR hfl;obtain⟨css,hall,hcs⟩:=jmX (hrest S1 w hst1 hfz1);have hrep:Rep S1 w (.arr m' el') xs (cur.toList.take ls'.length):=⟨hl,css,hall,hcs⟩;obtain⟨hud,_,_⟩:=jiV hT ht hty;have hsz:(cur.toList.take ls'.length).length=ti.size:=by have:=Rep.length _ _ _ hrep;rw[jbr hT ht hty]at this;exact this
     refine⟨.agg (cur.toList.take ls'.length).toArray,S1,?_,hR1,(cur.toList.take ls'.length).toArray,rfl,by simpa using hrep⟩;subst hu
     have hld:=jp2 (w:=w) (g:=g) (o:=0) (cs:=cur.toList.take ls'.length) (λj v hv=>by
      grind[cell_of_row]) P
     rw[hsz]at hld;have hagg:(isAgg t).run P w = .ok Ã w:=by simp[isAgg,run_underlying hud]
     simp only[Instr.loadAt,Á,Instr.sureAddr,Ä,I,loadVar,hagg,if_true,j2J hT ht,hld]
    .simp at h
   .simp at h
  .simp at h
 .simp at h
def Slot.bare:Slot->ä
 |.cnd _ _ _=>M
 |_=>Ã
theorem jpd{fr:ä}{e:H}{b:Ty}{n len:H}{ps:F (H×Cel)}{f:H}{args:F Arg}{mk:Ret->Â (Slot×Ups)}:one1 fr e b n len ps≠D (.call f args mk):=by
 unfold one1;grind
theorem jnL(cs:F Cel):(jhO cs).bare=true:=by
 unfold jhO;split<;>rfl
theorem jpe(hR:Rel N np S0 w0 refs σ a w S γ){act:F (H×ä)}(hact:jkI (tm a) act)(ps:F (H×Operand)) :
  All2 (λp v=>p.1=v.1/\j0n S w γ σ.bx p.2 v.2) (ps.map λp=>(p.1,(σ.ev p.2).cel act)) (ps.map λp=>(p.1,a.eval p.2)):=by
 induction ps with
 |nil=>trivial
 |cons p ps ih=>exact⟨⟨rfl,j1h hR hact p.2⟩,ih⟩
theorem jnM(hR:Rel N np S0 w0 refs σ a w S γ){act:F (H×ä)}(hact:jkI (tm a) act)(ps:F Operand) :
  All2 (j0n S w γ σ.bx) (ps.map λp=>(σ.ev p).cel act) (ps.map a.eval):=by
 induction ps with
 |nil=>trivial
 |cons p ps ih=>exact⟨j1h hR hact p,ih⟩
theorem jmY{rd:H->BS}(hrd:RdOk σ rd):RdF np σ (λk=>if parK np k then .gone else rd k):=by
 refine⟨λk=>?_,λk e a xs f h=>?_⟩
 rotate_left
 .dsimp only at h
  split at h
  .simp at h
  .exact hrd.2 k e a xs f h
 dsimp only
 split
 .exact .inr rfl
 .rename_i hp;rcases hrd.1 k with h|h;all_goals simp_all
theorem jcY{P:À}{o:Oper}{l:Leaf}{v:G}(hR:Rel N np S0 w0 refs σ a w S γ)(hr:(execOp a.eval o).run P w = .ok (.value v) w)
  (hs:j08 S w γ σ.bx l v)(h1:One v):juV P N np S0 w0 refs o σ a w S γ (.one (.one l)) []:=
 j2K hR hr ⟨hs,λ_=>h1⟩
theorem jtH{c:Cel}{l:Leaf}(h:lf c=l)(hd:l ≠ .dead):c = .one l:=by
 cases c<;>grind[lf]
theorem jqC{P:À}{E:Env}(hT:j1L P E.T)(hR:Rel N E.np S0 w0 refs σ a w S γ){act:F (H×ä)}(hact:jkI (tm a) act){rw:H->BS}(hrw:RdR σ rw)
  {o:Oper}{s:Slot}{u:Ups}(h:j5o E σ.ev rw act o=D (.val Ã s u)):juV P N E.np S0 w0 refs o σ a w S γ s u/\s.bare=true:=by
 have hrd:RdOk σ (mskM rw):=hrw.msk;have hrdf:=jmY (np:=E.np) hrd;have hex:∀op,o.op=op->execOp a.eval o=execOp a.eval { o with op:=op }:=λop h=>by subst h;rfl
 unfold j5o at h;dsimp only at h;split at h
 ·-- move
  rename_i x hop;split at h
  .rename_i l hl;simp only[j5,Act.val.injEq]at h;obtain⟨_,rfl,rfl⟩:=h;have:=jaI hR x;rw[hl]at this;exact⟨j2K hR (v:=a.eval x) (by simp[execOp,hop]) this,rfl⟩
  .simp only[j5,Act.cel,Act.val.injEq]at h;obtain⟨_,rfl,rfl⟩:=h;exact⟨j2K hR (v:=a.eval x) (by simp[execOp,hop]) (j1h hR hact x),rfl⟩
 ·-- assign
  rename_i x hop;split at h
  .rename_i l hl;simp only[j5,Act.val.injEq]at h;obtain⟨_,rfl,rfl⟩:=h;have:=jaI hR x;rw[hl]at this;exact⟨j2K hR (v:=a.eval x) (by simp[execOp,hop]) this,rfl⟩
  .simp only[j5,Act.cel,Act.val.injEq]at h;obtain⟨_,rfl,rfl⟩:=h;exact⟨j2K hR (v:=a.eval x) (by simp[execOp,hop]) (j1h hR hact x),rfl⟩
 ·-- pick
  rename_i x y z hop;split at h
  .rename_i v hv;have hx:=j1h hR hact x;have hxe:a.eval x = .bool v:=by have:=jtH hv smp_;grind[jaw]
   have hrun:(execOp a.eval o).run P w = .ok (.value (if v then a.eval y else a.eval z)) w:=by simp[execOp,hop,hxe,asBool]
   have hy:v=Ã->j0n S w γ σ.bx ((σ.ev y).cel (jym x Ã act)) (a.eval y):=by
    intro hvt;refine jqw ?_ (jaI hR y);cases x with
    |tmp t=>
     intro g hg;rcases List.mem_cons.1 hg with rfl|hg
     .simp only;rw[<-hvt];exact hxe
     .exact hact g hg
    |_=>exact hact
   have hz:v=M->j0n S w γ σ.bx ((σ.ev z).cel (jym x M act)) (a.eval z):=by
    intro hvt;refine jqw ?_ (jaI hR z);cases x with
    |tmp t=>
     intro g hg;rcases List.mem_cons.1 hg with rfl|hg
     .simp only;rw[<-hvt];exact hxe
     .exact hact g hg
    |_=>exact hact
   split at h
   .rename_i t p t' q hp hq;split at h
    .rename_i q' hto;simp only[j5,Act.leaf,Act.val.injEq]at h;obtain⟨_,rfl,rfl⟩:=h;have:=jgI hto;cases this;refine⟨j2K hR hrun ?_,rfl⟩;cases v with
     |true=>have:=hy rfl;rw[hp]at this;exact this
     |false=>have:=hz rfl;rw[hq]at this;exact this
    .simp at h
   .rename_i t p hp hq;simp only[j5,Act.val.injEq]at h;obtain⟨hv',rfl,rfl⟩:=h;have hv':v=true:=hv';subst hv';refine⟨j2K hR hrun ?_,rfl⟩;have:=hy rfl;rw[hp]at this;exact this
   .rename_i t q hp hq;simp only[j5,Act.val.injEq]at h;obtain⟨hv',rfl,rfl⟩:=h;have hv':v=false:=by simpa using hv'
    subst hv';refine⟨j2K hR hrun ?_,rfl⟩;have:=hz rfl;rw[hq]at this;exact this
   .simp at h
  .simp at h
 ·-- alloc
  rename_i t hop;split at h
  .rename_i ti ht;split at h
   .rename_i hfree;have hd:=hrd.free hfree;split at h
    .rename_i k el hty;split at h
     .simp only[j5,Act.val.injEq]at h;obtain⟨_,rfl,rfl⟩:=h;obtain⟨z,hzc,hz⟩:=jkL (w:=w) hT ht hty;obtain⟨hRn,hc⟩:=jnF hR hd (ls:=jhL (.arr k el)) (cur:=z.cells) (e:=t) (by grind[jaJ]) (jkc hzc);exact⟨⟨_,_,S,_,.inl (by simp[execOp,hop,hz]),hRn,hc⟩,rfl⟩
     simp only[j5,Act.val.injEq]at h;obtain⟨_,rfl,rfl⟩:=h;obtain⟨z,hzc,hz⟩:=jkL (w:=w) hT ht hty;obtain⟨hRn,hc⟩:=jv4 hR hd (m:=k) (t:=el) (xs:=O k el.dflt) (cur:=z.cells) (e:=t) (by rw[hzc];exact j8t (.arr k el));exact⟨⟨_,_,S,_,.inl (by simp[execOp,hop,hz]),hRn,hc⟩,rfl⟩
    .rename_i ty hne hty;simp only[j5,Act.val.injEq]at h;obtain⟨_,rfl,rfl⟩:=h;obtain⟨z,hzc,hz⟩:=jkL (w:=w) hT ht hty;obtain⟨hRn,hc⟩:=jnF hR hd (ls:=jhL ty) (cur:=z.cells) (e:=t) (by grind[jaJ]) (jkc hzc);exact⟨⟨_,_,S,_,.inl (by simp[execOp,hop,hz]),hRn,hc⟩,rfl⟩
    .simp at h
   .simp at h
  .simp at h
 ·-- box
  rename_i t x hop;split at h
  .rename_i hfree;have hd:=hrd.free hfree;have hx:=j1h hR hact x;split at h
   .rename_i k el xs hc;simp only[j5,Act.val.injEq]at h;obtain⟨_,rfl,rfl⟩:=h;rw[hc]at hx;obtain⟨cs,hu,hrep⟩:=hx;obtain⟨hRn,hcn⟩:=jv4 hR hd (m:=k) (t:=el) (xs:=xs) (cur:=(a.eval x).cells) (e:=t) (by rw[hu];exact hrep);exact⟨⟨_,_,S,_,.inl (by simp[execOp,hop,jv5]),hRn,hcn⟩,rfl⟩
   .split at h
    .rename_i ls hls;simp only[j5,Act.val.injEq]at h;obtain⟨_,rfl,rfl⟩:=h;obtain⟨hl,h1⟩:=jal hls hx;obtain⟨hRn,hcn⟩:=jnF hR hd (ls:=ls) (cur:=(a.eval x).cells) (e:=t) hl h1;exact⟨⟨_,_,S,_,.inl (by simp[execOp,hop,jv5]),hRn,hcn⟩,rfl⟩
    .simp at h
  .simp at h
 ·-- build
  rename_i t ps hop;have hps:=jpe hR hact ps.toList;have hps':All2 (λp v=>p.1=v.1/\j0n S w γ σ.bx p.2 v.2) (ps.toList.map λp=>(p.1,(σ.ev p.2).cel act)) (ps.map λp=>(p.1,a.eval p.2)).toList:=by simpa using hps
  split at h
  .rename_i ti ht;split at h
   .rename_i k el hty;split at h
    .rename_i hem;simp only[j5,Act.cel,Act.val.injEq]at h;obtain⟨_,rfl,rfl⟩:=h;obtain⟨v,hrun,hc⟩:=jtG (w:=w) (S:=S) (γ:=γ) (bx:=σ.bx) hT ht hty
     have hp0:ps = #[]:=by
      simp_all
     subst hp0;exact⟨j2K hR (v:=v) (by simp[execOp,hop,hrun]) hc,rfl⟩
    split at h
    .rename_i xs u' hb;simp only[j5,Act.val.injEq]at h;obtain⟨_,rfl,rfl⟩:=h;obtain⟨v,S',hrun,hRn,hc⟩:=jtF hT hR hrdf ht hty hps' hb;exact⟨⟨v,w,S',γ,.inl (by simp[execOp,hop,hrun]),hRn,hc⟩,rfl⟩
    .simp at h
   .rename_i ty hne hty;split at h
    .rename_i hag;split at h
     .rename_i ls hb;simp only[j5,Act.cel,Act.val.injEq]at h;obtain⟨_,rfl,rfl⟩:=h;obtain⟨v,hrun,hc⟩:=jty hT ht hty hag hps' hb;exact⟨j2K hR (v:=v) (by simp[execOp,hop,hrun]) hc,rfl⟩
     .simp at h
    .simp at h
   .simp at h
  .simp at h
 ·-- buildSlice
  rename_i t len ps hop;have hps:=jpe hR hact ps.toList;have hps':All2 (λp v=>p.1=v.1/\j0n S w γ σ.bx p.2 v.2) (ps.toList.map λp=>(p.1,(σ.ev p.2).cel act)) (ps.map λp=>(p.1,a.eval p.2)).toList:=by simpa using hps
  split at h
  .rename_i ti ht;split at h
   .rename_i el hty;split at h
    .obtain⟨_,rfl,v',w',γ',hrun,hRn,hc⟩:=jyC hT hR ht hty hrd.free hps' h;exact⟨⟨v',w',S,γ',.inl (by simp[execOp,hop,hrun]),hRn,hc⟩,rfl⟩
    split at h
    .simp at h
    .rename_i hlen;split at h
     .rename_i xs u' hb;split at h
      .rename_i hfree;simp only[j5,Act.val.injEq]at h;obtain⟨_,rfl,rfl⟩:=h;obtain⟨v',w',S',γ',hrun,hRn,hc⟩:=jmk hT hR hrdf ht hty omg_ hps' hb (hrd.free hfree);exact⟨⟨v',w',S',γ',.inl (by simp[execOp,hop,hrun]),hRn,hc⟩,rfl⟩
      .simp at h
     .simp at h
   .simp at h
  .simp at h
 ·-- load
  rename_i t x hop;split at h
  .rename_i ti ht;split at h
   .rename_i m el ls hla;split at h
    .rename_i xs u' hg;split at h
     .rename_i hlen;simp only[j5,Act.val.injEq]at h;obtain⟨_,rfl,rfl⟩:=h;obtain⟨z,S',hz,hRn,hcz⟩:=jvm hT hR hrd hrdf ht hla hg hlen (j6b (j1h hR hact x));exact⟨⟨z,w,S',γ,.inl (by simp[execOp,hop,hz]),hRn,hcz⟩,rfl⟩
     .simp at h
    .simp at h
   unfold oCel at h;split at h
   .rename_i c hc;simp only[j5,Act.cel,Act.val.injEq]at h;obtain⟨_,rfl,rfl⟩:=h;obtain⟨z,hz,hcz⟩:=jp3 hT hR hrd ht hc (j6b (j1h hR hact x));exact⟨j2K hR (v:=z) (by simp[execOp,hop,hz]) hcz,rfl⟩
   .simp at h
  .simp at h
 ·-- store
  rename_i t x y hop;split at h
  .rename_i ti ht;split at h
   .rename_i u' hu;simp only[j5,Act.val.injEq]at h;obtain⟨_,rfl,rfl⟩:=h;obtain⟨w',S',hrun,hRn⟩:=jtw hT hR hrd hrdf ht hu (j6b (j1h hR hact x)) (j1h hR hact y);exact⟨⟨undef,w',S',γ,.inr ⟨by simp[execOp,hop,hrun],rfl⟩,hRn,⟨trivial,λh=>absurd rfl h⟩⟩,rfl⟩
   .simp at h
  .simp at h
 ·-- nilCheck
  rename_i x hop;have hx:=j1h hR hact x;split at h
  .rename_i k p hl;split at h
   .rename_i hlive;simp only[j5,Act.leaf,Act.val.injEq]at h;obtain⟨_,rfl,rfl⟩:=h;rw[jtH hl smp_]at hx;obtain⟨b,hb⟩:=jdO hlive;obtain⟨g,_,hu⟩:=hx.1.2.2 b (hrd.live hb);exact⟨j2K hR (v:=a.eval x) (by simp[execOp,hop,hu]) hx,rfl⟩
   .simp at h
  .rename_i k i p hl;split at h
   .rename_i hlive;simp only[j5,Act.leaf,Act.val.injEq]at h;obtain⟨_,rfl,rfl⟩:=h;rw[jtH hl smp_]at hx;obtain⟨b,hb⟩:=jdO hlive;have h3:=hx.1.2.2 b (hrd.live hb);have hu:∃g o,a.eval x = .pointer (D ⟨g,o,U⟩):=by grind
    obtain⟨g,ofs,hu⟩:=hu;exact⟨j2K hR (v:=a.eval x) (by simp[execOp,hop,hu]) hx,rfl⟩
   .simp at h
  .rename_i ls hl;simp only[j5,Act.leaf,Act.val.injEq]at h;obtain⟨_,rfl,rfl⟩:=h;rw[jtH hl smp_]at hx;obtain⟨g,ofs,cs,hu,_⟩:=hx.1;exact⟨j2K hR (v:=a.eval x) (by simp[execOp,hop,hu]) hx,rfl⟩
  .simp at h
 ·-- binOp
  rename_i op t x y rest hop;unfold oChk at h;split at h
  .rename_i b c hc;simp only[j5,Act.val.injEq]at h;obtain⟨rfl,rfl,rfl⟩:=h;obtain⟨z,hz,hl,h1⟩:=jys (x:=x) (y:=y) hT hc (j1h hR hact x) (j1h hR hact y);refine⟨jcY hR ?_ hl h1,rfl⟩;simp only[execOp,hop];rw[Á,hz];rfl
  .simp at h
 ·-- unOp
  rename_i op t x hop;unfold jh4 at h;split at h
  .rename_i c hc;simp only[j5,Act.leaf,Act.val.injEq]at h;obtain⟨_,rfl,rfl⟩:=h;obtain⟨z,hz,hl,h1⟩:=jBy hc (j1h hR hact x);refine⟨jcY hR ?_ hl h1,rfl⟩;simp only[execOp,hop];rw[Á,hz];rfl
  .simp at h
 ·-- convert
  rename_i src dst x hop;split at h
  .rename_i ts ti hts ht;split at h
   .rename_i k v k0 k' hl hty0 hty;simp only[j5,Act.leaf,Act.val.injEq]at h;obtain⟨_,rfl,rfl⟩:=h;have hx:=j1h hR hact x;rw[jtH hl smp_]at hx;have hu:=jeu hx;have hund:=jqu hT ht hty;refine⟨jcY hR (v:= .int k' (k'.wrap v)) ?_ rfl rfl,rfl⟩;have hund0:=jqu hT hts hty0;simp only[execOp,hop]
    simp_all[convert,run_underlying,Conv.intToInt]
   .simp at h
  .simp at h
 ·-- makeFunc
  rename_i f first caps hop
  split at h
  .rename_i hfirst;split at h
   .rename_i l u' hl;simp only[j5,Act.val.injEq]at h;obtain⟨_,rfl,rfl⟩:=h;have hargs:=jnM hR hact caps.toList;obtain⟨S',hRn,_,hcap,_⟩:=jp9 hrdf hl hR hargs;have hf0:first = #[]:=by simpa using hfirst
    refine⟨⟨.func (.func f) #[] (caps.map a.eval),w,S',γ,.inl ?_,hRn,⟨⟨_,rfl,by simpa using hcap⟩,λ_=>rfl⟩⟩,rfl⟩;simp[execOp,hop,hf0,Instr.makeFunc]
   .simp at h
  .simp at h
 ·-- fieldAddr
  rename_i t x i hop;split at h
  .rename_i ti ht;unfold jh4 at h;split at h
   .rename_i c hc;simp only[j5,Act.leaf,Act.val.injEq]at h;obtain⟨_,rfl,rfl⟩:=h;obtain⟨z,hz,hl,h1⟩:=jtt hT hrd ht hc (j6b (j1h hR hact x));exact⟨jcY hR (by simp[execOp,hop,hz]) hl h1,rfl⟩
   .simp at h
  .simp at h
 ·-- field
  rename_i t x i hop;split at h
  .rename_i ti ht;split at h
   .rename_i ls f hc hf;split at h
    .rename_i tf htf;unfold oCel at h;split at h
     .rename_i c hmk;simp only[j5,Act.cel,Act.val.injEq]at h;obtain⟨_,rfl,rfl⟩:=h;have hx:=j1h hR hact x;rw[hc]at hx;obtain⟨cs,hu,hall,h1⟩:=hx;obtain⟨fs,hund,fl,hfl,ho1,ho2,tf',htf',hpos⟩:=juU hT ht hf;rw[<-ho2]at htf;have hall':=(hall.drop fl.offset).take tf.size;have h1':∀u∈(cs.toList.drop fl.offset).take tf.size,One u:=λu hu'=>h1 u (List.mem_of_mem_drop (Ú hu'));rw[<-ho1]at hmk
      have hpart:∃z,(part fl.type cs fl.offset).run P w = .ok z w/\j0n S w γ σ.bx c z:=by
       unfold jmi at hmk;split at hmk
       .rename_i hagg;split at hmk
        .rename_i hlen;simp only[j5]at hmk;subst hmk;refine⟨.agg (cs.extract fl.offset (fl.offset+tf.size)),?_,_,rfl,?_,?_⟩
         .grind[part,Á,jiU,I,j2J,Ä]
         all_goals simp_all
        .simp at hmk
       .rename_i hagg;split at hmk
        .rename_i l' hl';simp only[j5]at hmk;subst hmk;rw[hl']at hall';cases hq:(cs.toList.drop fl.offset).take tf.size with
         |nil=>rw[hq]at hall';exact hall'.elim
         |cons z zs=>
          rw[hq]at hall' h1'
          have hz:cs[fl.offset]? = D z:=by
           have:((cs.toList.drop fl.offset).take tf.size)[0]? = D z:=by rw[hq];rfl
           grind
          refine⟨z,?_,hall'.1,λ_=>h1' z smp_⟩;grind[part,Á,jiU,I,Ä]
        .simp at hmk
      obtain⟨z,hz,hcz⟩:=hpart;refine⟨j2K hR (v:=z) ?_ hcz,rfl⟩
      simp_all[execOp,Instr.field,run_underlying,asAgg]
     .simp at h
    .simp at h
   .simp at h
  .simp at h
 ·-- indexAddr
  rename_i t x i hop;split at h
  .rename_i ti ht;unfold oChk at h;split at h
   .rename_i b c hc;simp only[j5,Act.val.injEq]at h;obtain⟨rfl,rfl,rfl⟩:=h;obtain⟨z,hz,hl,h1⟩:=jtu hT hR hrd ht hc (j6b (j1h hR hact x)) (j6b (j1h hR hact i));exact⟨jcY hR (by simp[execOp,hop,hz]) hl h1,rfl⟩
   .simp at h
  .simp at h
 ·-- index
  rename_i t x i hop;split at h
  .rename_i ti ht;split at h
   .rename_i b c hc;simp only[j5,Act.val.injEq]at h;obtain⟨rfl,rfl,rfl⟩:=h;obtain⟨z,hz,hcz⟩:=jyv hT ht hc (j1h hR hact x) (j6b (j1h hR hact i));exact⟨j2K hR (v:=z) (by simp[execOp,hop,hz]) hcz,rfl⟩
   .simp at h
  .simp at h
 ·-- makeMap
  rename_i t hop;split at h
  .rename_i k v ht;split at h
   .rename_i hfr;simp only[j5,Act.val.injEq]at h;obtain⟨_,rfl,rfl⟩:=h;obtain⟨γ',hrun,hRn,hcn⟩:=jtE (P:=P) (t:=t) (k:=k) (v:=v) hR (hrd.free hfr);exact⟨⟨_,_,S,γ',.inl (by simp[execOp,hop,hrun]),hRn,hcn⟩,rfl⟩
   .simp at h
  .simp at h
 ·-- lookup
  rename_i t x i ok hop;split at h
  .rename_i k v ht;split at h
   .rename_i b ys q hm;obtain⟨z,hz,hrun⟩:=jqB hT hR hrw ht hm (j6b (j1h hR hact x)) (j6b (j1h hR hact i));split at h
    .simp only[j5,Act.val.injEq]at h;obtain⟨_,rfl,rfl⟩:=h;have hr:=hrun Ã;simp only[if_true]at hr;refine⟨j2K hR (v:= .tuple #[z,.bool (@j1W _ _ k.keq ys q)]) (by simp[execOp,hop,hr]) ?_,rfl⟩;exact⟨_,rfl,jey hz,⟨rfl,λ_=>rfl⟩,trivial⟩
    .simp only[j5,Act.cel,Act.val.injEq]at h;obtain⟨_,rfl,rfl⟩:=h;have hr:=hrun M;simp only[Bool.false_eq_true,if_false]at hr;exact⟨j2K hR (v:=z) (by simp[execOp,hop,hr]) (jey hz),rfl⟩
   .simp at h
  .simp at h
 ·-- mapUpdate
  rename_i t x i y hop;split at h
  .rename_i k v ht;split at h
   .rename_i b ys q z u' hm hd;simp only[j5,Act.val.injEq]at h;obtain⟨_,rfl,rfl⟩:=h;obtain⟨w',S',hrun,hRn⟩:=jtD hT hR hrw ht hm (j6b (j1h hR hact x)) (j6b (j1h hR hact i)) hrdf hd (j1h hR hact y);exact⟨⟨undef,w',S',γ,.inr ⟨by simp[execOp,hop,hrun],rfl⟩,hRn,⟨trivial,λh=>absurd rfl h⟩⟩,rfl⟩
   .simp at h
  .simp at h
 ·-- extract
  rename_i x i hop;split at h
  .rename_i l hl;split at h
   .rename_i c hc;simp only[j5,Act.cel,Act.val.injEq]at h;obtain⟨_,rfl,rfl⟩:=h;have hx:=jaI hR x;rw[hl]at hx;obtain⟨vs,hu,hall⟩:=hx;obtain⟨z,hz,hcz⟩:=hall.get i c hc;refine⟨j2K hR (v:=z) ?_ hcz,rfl⟩
    simp_all[execOp,Instr.extract]
   .simp at h
  .simp at h
 ·-- call
  rename_i cl hop;have hargs:=jnM hR hact cl.args.toList;split at h
  ·-- len
   rename_i hcal;split at h
   .rename_i x t hxs hts;split at h
    .rename_i ti ht;unfold jh4 at h;split at h
     .rename_i c hc;simp only[j5,Act.leaf,Act.val.injEq]at h;obtain⟨_,rfl,rfl⟩:=h;obtain⟨z,hz,hl,h1⟩:=jyw (ty:=o.type) hT hR hrd ht hc (j6b (j1h hR hact x));have e1:cl.args = #[x]:=by grind
      have e2:cl.argTypes = #[t]:=by grind
      refine⟨jcY hR (v:=z) ?_ hl h1,rfl⟩;simp[execOp,hop,resolve,hcal,invoke,builtin,e1,e2,hz]
     .simp at h
    .simp at h
   .simp at h
  ·-- min
   rename_i hcal;unfold jh4 at h;split at h
   .rename_i c hc;simp only[j5,Act.leaf,Act.val.injEq]at h;obtain⟨_,rfl,rfl⟩:=h;obtain⟨z,hz,hl,h1⟩:=jBz (P:=P) (ts:=cl.argTypes) (ty:=o.type) hc hargs;refine⟨jcY hR (v:=z) ?_ hl h1,rfl⟩;have e1:cl.args.map a.eval=(cl.args.toList.map a.eval).toArray:=by apply ý;simp
    simp[execOp,hop,resolve,hcal,invoke,builtin,e1,hz]
   .simp at h
  ·-- max
   rename_i hcal;unfold jh4 at h;split at h
   .rename_i c hc;simp only[j5,Act.leaf,Act.val.injEq]at h;obtain⟨_,rfl,rfl⟩:=h;obtain⟨z,hz,hl,h1⟩:=jBA (P:=P) (ts:=cl.argTypes) (ty:=o.type) hc hargs;refine⟨jcY hR (v:=z) ?_ hl h1,rfl⟩;have e1:cl.args.map a.eval=(cl.args.toList.map a.eval).toArray:=by apply ý;simp
    simp[execOp,hop,resolve,hcal,invoke,builtin,e1,hz]
   .simp at h
  ·-- append
   rename_i hcal;split at h
   .rename_i t t' s' x hts hxs;split at h
    .rename_i htt;subst htt;split at h
     .rename_i ti ht;split at h
      .rename_i el hty;split at h
       .rename_i b' v' u' hh;simp only[j5,Act.val.injEq]at h;obtain⟨rfl,rfl,rfl⟩:=h;obtain⟨z,w',hrun,hRn,hl,h1⟩:=jyy (ty:=o.type) hT hR hrd ht hty hh (j6b (j1h hR hact s')) (j6b (j1h hR hact x));have e1:cl.args = #[s',x]:=by grind
        have e2:cl.argTypes = #[t,t]:=by grind
        refine⟨⟨z,w',S,γ,.inl ?_,hRn,hl,λ_=>h1⟩,rfl⟩;simp[execOp,hop,resolve,hcal,invoke,builtin,e1,e2,hrun]
       split at h
       .rename_i v' u' hh;simp only[j5,Act.val.injEq]at h;obtain⟨_,rfl,rfl⟩:=h;obtain⟨z,w',γ',hrun,hRn,hl,h1⟩:=jyA (ty:=o.type) hT hR hrd hrdf ht hty hh (j6b (j1h hR hact s')) (j6b (j1h hR hact x));have e1:cl.args = #[s',x]:=by grind
        have e2:cl.argTypes = #[t,t]:=by grind
        refine⟨⟨z,w',S,γ',.inl ?_,hRn,hl,λ_=>h1⟩,rfl⟩;simp[execOp,hop,resolve,hcal,invoke,builtin,e1,e2,hrun]
       split at h
       .rename_i xs frz u' ys hs hx;split at h
        .rename_i hfree;simp only[j5,Act.val.injEq,decide_eq_true_eq]at h;obtain⟨hmax,rfl,rfl⟩:=h;obtain⟨v',w',S',γ',hrun,hRn,hcn⟩:=jtx (ty:=o.type) hT hR hrd hrdf ht hty hs hx (hrd.free hfree) hmax (j6b (j1h hR hact s')) (j6b (j1h hR hact x));have e1:cl.args = #[s',x]:=by grind
         have e2:cl.argTypes = #[t,t]:=by grind
         refine⟨⟨v',w',S',γ',.inl ?_,hRn,hcn⟩,rfl⟩;simp[execOp,hop,resolve,hcal,invoke,builtin,e1,e2,hrun]
        .simp at h
       .simp at h
      .simp at h
     .simp at h
    .simp at h
   .simp at h
  ·-- value
   grind
  ·-- copy
   rename_i hcal;split at h
   .rename_i t t' x y hts hxs;split at h
    .rename_i htt;subst htt;split at h
     .rename_i ti ht;split at h
      .rename_i c u' hc;simp only[j5,Act.val.injEq]at h;obtain⟨_,rfl,rfl⟩:=h;obtain⟨v',w',hrun,hRn,hcn⟩:=jv8 (ty:=o.type) hT hR hrd ht hc (j6b (j1h hR hact x)) (j6b (j1h hR hact y));have e1:cl.args = #[x,y]:=by grind
       have e2:cl.argTypes = #[t,t]:=by grind
       refine⟨⟨v',w',S,γ,.inl ?_,hRn,hcn⟩,rfl⟩;simp[execOp,hop,resolve,hcal,invoke,builtin,e1,e2,hrun]
      .simp at h
     .simp at h
    .simp at h
   .simp at h
  ·-- clear
   rename_i hcal;split at h
   .rename_i t x hts hxs;split at h
    .rename_i ti ht;split at h
     .rename_i u' hc;simp only[j5,Act.val.injEq]at h;obtain⟨_,rfl,rfl⟩:=h;obtain⟨v',w',hrun,hRn⟩:=jtB (ty:=o.type) hT hR hrd ht hc (j6b (j1h hR hact x));have e1:cl.args = #[x]:=by grind
      have e2:cl.argTypes = #[t]:=by grind
      refine⟨⟨v',w',S,γ,.inl ?_,hRn,⟨trivial,λh=>absurd rfl h⟩⟩,rfl⟩;simp[execOp,hop,resolve,hcal,invoke,builtin,e1,e2,hrun]
     .simp at h
    .simp at h
   .simp at h
  .simp at h
 ·-- slice
  rename_i t x lo hi hop;split at h
  .rename_i ti ht;split at h
   .rename_i b c u' hc;simp only[j5,Act.val.injEq]at h;obtain⟨rfl,rfl,rfl⟩:=h
    have ho:∀y:Â Operand,ORep (j08 S w γ σ.bx) (y.map λx=>lf ((σ.ev x).cel act)) (y.map a.eval):=by
     intro y;cases y with
     |none=>trivial
     |some y=>exact j6b (j1h hR hact y)
    obtain⟨v',S',γ',hrun,hRn,hcn⟩:=jtz hT hR hrd ht (λk hk=>hrd.free hk) hc (j6b (j1h hR hact x)) (ho lo) (ho hi);refine⟨⟨v',w,S',γ',.inl ?_,hRn,hcn⟩,rfl⟩;simp[execOp,hop,hrun]
   .simp at h
  .simp at h
 ·-- slice with a capacity
  rename_i t x lo hi mx hop;split at h
  .rename_i ti ht;split at h
   .rename_i b hc;simp only[j5,Act.val.injEq]at h;obtain⟨rfl,rfl,rfl⟩:=h
    have ho:∀y:Â Operand,ORep (j08 S w γ σ.bx) (y.map λx=>lf ((σ.ev x).cel act)) (y.map a.eval):=by
     intro y;cases y with
     |none=>trivial
     |some y=>exact j6b (j1h hR hact y)
    obtain⟨v',hrun⟩:=jtA hT hR hrd ht hc (j6b (j1h hR hact x)) (ho lo) (ho hi) (j6b (j1h hR hact mx));refine⟨⟨v',w,S,γ,.inl ?_,hR,⟨trivial,λh=>absurd rfl h⟩⟩,rfl⟩;simp[execOp,hop,hrun]
   .simp at h
  .simp at h
 .simp at h
theorem jsh{P:À}{E:Env}(hR:Rel N E.np S0 w0 refs σ a w S γ){act:F (H×ä)}(hact:jkI (tm a) act){rw:H->BS}(hrw:RdR σ rw)
  {o:Oper}{f:H}{args:F Arg}{mk:Ret->Â (Slot×Ups)}(h:j5o E σ.ev rw act o=D (.call f args mk))(hf:Fun P f){K:Ret->Prop}(hspec:jyF P f args K) :
  ∃vals,(execOp a.eval o).run P w = .ok (.enter f vals) w/\
   (Calls P f vals w λe w'=>∃ret,K ret/\∀s u,mk ret=D (s,u)->∃v S' γ',e = .returned v/\Rel N E.np S0 w0 refs (σ.upd u) a w' S' γ'/\j4q S' w' γ' (σ.upd u).bx (tm a) s v)/\
   ∀ret s u,mk ret=D (s,u)->s.bare=true:=by
 have hrd:RdOk σ (mskM rw):=hrw.msk;have hrdf:=jmY (np:=E.np) hrd;unfold j5o at h;dsimp only at h;split at h
 case h_23 cl hop=>
  have hargs:=jnM hR hact cl.args.toList;split at h
  case h_5 x hcal=>
   split at h
   .rename_i g caps hl;split at h
    .rename_i as us fs has;split at h
     .rename_i hok;simp only[j5,Act.call.injEq]at h;obtain⟨rfl,rfl,rfl⟩:=h;have hx:=j1h hR hact x;rw[jtH hl smp_]at hx;obtain⟨cv,hu,hcv⟩:=hx.1;refine⟨_,jkf hf hop hcal hu,?_,?_⟩
      .have:=jtC hR hrw hrd hrdf has hargs hok hcv hspec ((o.dst.getD 0)*64+E.off);have e1:(cl.args.toList.map a.eval++cv.toList).toArray=cl.args.map a.eval++cv:=by apply ý;simp
       rwa[e1]at this
      .intro ret s u hmk;unfold jqo at hmk;split at hmk
       .unfold mkHd at hmk;split at hmk
        .split at hmk
         .split at hmk
          .simp only[j5,j9]at hmk;rw[<-hmk.1];rfl
          .simp at hmk
         .simp at hmk
        .simp at hmk
       .grind[jyl,jnL]
       split at hmk
       .split at hmk
        .split at hmk
         .revert hmk;dsimp only;split<;>(intro hmk;simp only[j5,j9]at hmk;rw[<-hmk.1];rfl)
         .simp at hmk
        .simp at hmk
       .simp at hmk
     .simp at h
    .simp at h
   .simp at h
  all_goals (first|(simp at h;done)|skip)
  all_goals (exfalso;revert h;try simp only[jh4])
  all_goals (repeat' split)
  all_goals simp[Act.leaf]
 all_goals (first|(simp at h;done)|skip)
 all_goals (repeat' (first|(simp at h;done)|(exact absurd h jpd)|split at h))<;>simp_all[jh4,oCel,oChk,Act.leaf,Act.cel]
 all_goals grind
end
end Go.Lft
