/- New variables; stores into variables. -/
import Derived.Test.YtgepoeafaklbjaaGreatPFLA
import Derived.MapKept
open Option renaming some->D,none->U,map_some->à,isNone_iff_eq_none->ø
open _root_ renaming List->F,Nat->H,Option->Â,Array->Î,Bool->ä
open Go renaming Value->G,Program->À,TypeId->Ç,World->É
open Go.Result renaming andThen_ok->I
open Bool renaming and_eq_true->J,false->M,true->Ã,or_eq_false_iff->ê
open List renaming replicate->O,take->W,take_of_length_le->Y,eq_nil_of_length_eq_zero->Å,length_append->È,drop_of_length_le->Ë,mem_cons_of_mem->Í,length_take->Ò,flatten_cons->Ö,take_append_drop->Ø,drop->Ù,mem_of_mem_take->Ú,filterMap_cons->Ý,length->ß,any_eq_false->ã,take_append->å,mem_append->ì,take_take->î,getElem?_drop->ï,mem_cons_self->ð,any_cons->ò,ext_getElem?->ô,getElem?_map->õ,getElem?_eq_getElem->û,length_drop->ü,getElem_cons_drop->þ,take_left'->ÿ
open Nat renaming mul_le_mul_right->Z,le_refl->Ì,add_mul->Ï,zero_le->Ñ,le_trans->â,min_eq_left->ë
open Go.Sem renaming run_bind->Á,run_pure->Ä
open Go.Addr renaming add_lit->Æ
open Go.Value.slice renaming injEq->Ê
open Array renaming length_toList->Ð,range->æ,getElem?_toList->é,ext'->ý
open Go.Instr renaming buildSlice->Ó,fill->Ü,build->ç,findNow->è,mapUpdate->í,sliceAt->ö
open Go.Builtin renaming append_->Ô,firstCells->á,copy_->ù
open Go.MapKept renaming run_getObj_map->Õ,run_findKey->Þ,bytes_beq->ú
open Go.World renaming cell?_of_block->Û,ownsRow_nil->ó
open Iff renaming rfl->ñ
set_option linter.unusedVariables false
namespace Go.Lft
section
variable{N:NT}{np:H}{S0:j09}{w0:É}{refs:Refs}{σ:St}{a:Go.Act}{w:É}{S:j09}{γ:H->G}
def gset(γ:H->G)(n:H)(v:G):H->Value:=λk=>if k=n then v else γ k
theorem j0p(γ:H->G)(n:H)(v:G):gset γ n v n=v:=by simp[gset]
theorem j0o(γ:H->G){n k:H}(v:G)(h:k≠n):gset γ n v k=γ k:=by simp[gset,h]
theorem j8z(hR:Rel N np S0 w0 refs σ a w S γ)(o:Obj):j3m S w S (w.alloc o):=
 λg i h=>⟨h,World.cell?_alloc_lt w o ⟨g,i,U⟩ (hR.here g i h)⟩
theorem j4O{bx:H->BS}{k:H}{b:Bx}(h:j2i S w γ bx k b){g:H}(hg:blk (γ k)=D g):g<w.heap.size:=by
 cases b with
 |cell ls frz=>obtain⟨g',cur,e,h1,h2,_⟩:=h;rw[h1]at hg;simp[blk]at hg;subst hg;exact(Array.getElem?_eq_some_iff.1 h2).1
 |lst e t xs frz=>exact h.1.lt hg
 |arr n t xs=>obtain⟨g',cur,e,h1,h2,_⟩:=h;rw[h1]at hg;simp[blk]at hg;subst hg;exact(Array.getElem?_eq_some_iff.1 h2).1
 |row e t n ls=>
  obtain⟨_,⟨cs,h1,_⟩,_⟩:=h;rcases h1.2 with⟨hn,_⟩|⟨g',cap,cur,hv,_,hh,_⟩
  .rw[hn]at hg;simp[blk]at hg
  .rw[hv]at hg;simp[blk]at hg;subst hg;exact(Array.getElem?_eq_some_iff.1 hh).1
theorem jn3(hR:Rel N np S0 w0 refs σ a w S γ){n:H}(hn:σ.bx n = .free){o:Obj}{b:Bx}{v:G}(hv:∀g,blk v=D g->g=w.heap.size)
  (hb:BxLe γ σ.bx (gset γ n v) (σ.setB n (.live b)).bx->j2i S (w.alloc o) (gset γ n v) (σ.setB n (.live b)).bx n b) :
  Rel N np S0 w0 refs (σ.setB n (.live b)) a (w.alloc o) S (gset γ n v)/\BxLe γ σ.bx (gset γ n v) (σ.setB n (.live b)).bx:=by
 have hle:BxLe γ σ.bx (gset γ n v) (σ.setB n (.live b)).bx:=by
  intro k hk;have hne:k≠n:=by rintro rfl;exact hk hn
  rw[j07 σ _ hne,j0o γ v hne];exact⟨hk,rfl,λb hb=>⟨b,hb,.refl b⟩⟩
 have hst:=j8z hR o
 refine⟨Rel.step (bx':=(σ.setB n (.live b)).bx) hR hst hle ?_ ?_ ?_ hR.new ?_ ?_ ?_ hR.os hR.tape hR.output (λg hg _ h=>⟨heap_alloc_old w o hg,λk b' hb' hbk=>by
  by_cases hk:k=n
  .subst hk;rw[j0p]at hbk;have:=hv g hbk;omega
  .rw[j07 σ _ hk]at hb';rw[j0o γ v hk]at hbk;exact h k b' hb' hbk⟩),hle⟩
 .intro k b' hb';by_cases hk:k=n
  .subst hk;rw[j0y]at hb';simp at hb';subst hb';exact hb hle
  .rw[j07 σ _ hk]at hb';refine j2i.keep hst hle (j0o γ v hk) (λg hg=>⟨?_,λ_=>ñ⟩) (hR.box k b' hb');exact heap_alloc_old w o (j4O (hR.box k b' hb') hg)
 .intro k b' g hb' hg;by_cases hk:k=n
  .subst hk;rw[j0p]at hg;exact .inl (.inl (by rw[hv g hg];exact hR.grow))
  .rw[j07 σ _ hk]at hb';rw[j0o γ v hk]at hg;exact hR.own k b' g hb' hg
 .intro k k' b1 b2 g hne h1 h2 hg hg';by_cases hk:k=n
  .subst hk;have hk':k'≠k:=λh=>hne h.symm;rw[j0p]at hg;rw[j07 σ _ hk']at h2;rw[j0o γ v hk']at hg';have:=j4O (hR.box k' b2 h2) hg';rw[hv g hg]at this;omega
  .by_cases hk':k'=n
   .subst hk';rw[j0p]at hg';rw[j07 σ _ hk]at h1;rw[j0o γ v hk]at hg;have:=j4O (hR.box k b1 h1) hg;rw[hv g hg']at this;omega
   .rw[j07 σ _ hk]at h1;rw[j07 σ _ hk']at h2;rw[j0o γ v hk]at hg;rw[j0o γ v hk']at hg';exact hR.apart k k' b1 b2 g hne h1 h2 hg hg'
 .intro g i h;have:=hR.here g i h;simp;omega
 .intro g hg hr;rw[heap_alloc_old w o (by have:=hR.grow;omega)];exact hR.below g hg hr
 .have:=hR.grow;simp;omega
theorem jdt(hR:Rel N np S0 w0 refs σ a w S γ)(o:H):¬S w.heap.size o:=λh=>by have:=hR.here _ _ h;omega
theorem jn4(hR:Rel N np S0 w0 refs σ a w S γ){n:H}(hn:σ.bx n = .free){ls:F Leaf}{cur:Î G}{e:Ç}
  (hl:All2 (j08 S w γ σ.bx) ls cur.toList)(h1:∀u∈cur.toList,One u) :
  Rel N np S0 w0 refs (σ.setB n (.live (.cell ls M))) a (w.alloc (.cells cur e)) S (gset γ n (.pointer (D ⟨w.heap.size,0,U⟩)))/\
   j0m S (w.alloc (.cells cur e)) (gset γ n (.pointer (D ⟨w.heap.size,0,U⟩))) (σ.setB n (.live (.cell ls M))).bx (.one (.bp n 0)) (.pointer (D ⟨w.heap.size,0,U⟩)):=by
 obtain⟨h,hle⟩:=jn3 hR hn (o:= .cells cur e) (b:= .cell ls M) (v:= .pointer (D ⟨w.heap.size,0,U⟩)) (λg hg=>by simp[blk]at hg;exact hg.symm) (λhle=>
  ⟨w.heap.size,cur,e,j0p _ _ _,heap_alloc_new w _,by rw[Y (Nat.le_of_eq hl.length.symm)];exact hl.mono (λx u hx=>j08.keep (j8z hR _) hle hx),λu hu=>h1 u (Ú hu),λ_ o=>jdt hR o,smp_⟩)
 refine⟨h,⟨by rw[j0y];simp,rfl,λb _=>⟨w.heap.size,j0p _ _ _,rfl⟩⟩,λ_=>rfl⟩
theorem juj(hR:Rel N np S0 w0 refs σ a w S γ){n m:H}(hn:σ.bx n = .free){t:Ty}{xs:F t.den}{cur:Î G}{e:Ç}
  (hl:Rep S w (.arr m t) xs cur.toList) :
  Rel N np S0 w0 refs (σ.setB n (.live (.arr m t xs))) a (w.alloc (.cells cur e)) S (gset γ n (.pointer (D ⟨w.heap.size,0,U⟩)))/\
   j0m S (w.alloc (.cells cur e)) (gset γ n (.pointer (D ⟨w.heap.size,0,U⟩))) (σ.setB n (.live (.arr m t xs))).bx (.one (.bp n 0)) (.pointer (D ⟨w.heap.size,0,U⟩)):=by
 obtain⟨h,hle⟩:=jn3 hR hn (o:= .cells cur e) (b:= .arr m t xs) (v:= .pointer (D ⟨w.heap.size,0,U⟩)) (λg hg=>by simp[blk]at hg;exact hg.symm) (λ_=>
  ⟨w.heap.size,cur,e,j0p _ _ _,heap_alloc_new w _,Rep.keep (j8z hR _) _ _ _ hl,λo=>jdt hR o⟩)
 refine⟨h,⟨by rw[j0y];simp,rfl,λb _=>⟨w.heap.size,j0p _ _ _,rfl⟩⟩,λ_=>rfl⟩
theorem jau{bx:H->BS}:∀(t:Ty),All2 (j08 S w γ bx) (jhg t) (jdo t)
 |.int _=>⟨rfl,trivial⟩
 |.bool=>⟨rfl,trivial⟩
 |.str=>⟨rfl,trivial⟩
 |.unit=>trivial
 |.wrap a=>jau a
 |.pair a b=>(jau a).append (jau b)
 |.list _=>⟨rfl,trivial⟩
 |.arr n a=>by
  show All2 _ ((List.range n).flatMap λ_=>jhg a) ((O n (jdo a)).flatten);induction n with
  |zero=>simp[All2]
  |succ n ih=>rw[List.range_succ,List.flatMap_append,List.replicate_succ',List.flatten_append];refine ih.append ?_;simpa using jau a
theorem j8h:∀(t:Ty),Rep S w t t.dflt (jdo t)
 |.int _=>rfl
 |.bool=>rfl
 |.str=>rfl
 |.unit=>rfl
 |.wrap a=>j8h a
 |.pair a b=>⟨_,_,rfl,j8h a,j8h b⟩
 |.list _=>⟨U,0,rfl,Ì _,by simp[maxLen],λ_=>rfl,λb hb=>by simp at hb⟩
 |.arr n a=>by
  refine⟨List.length_replicate,O n (jdo a),?_,rfl⟩;have hz:=j8h a
  have:∀n,All2 (λx c=>Rep S w a x c) (O n a.dflt) (O n (jdo a)):=by
   intro n;induction n with
   |zero=>exact trivial
   |succ n ih=>exact⟨hz,ih⟩
  exact this n
theorem jdu(hR:Rel N np S0 w0 refs σ a w S γ){k:H}{b b':Bx}(hk:σ.bx k = .live b){g:H}(hg:blk (γ k)=D g)(hS:∀o,¬S g o)(hsh:j1W b b')
  {old new:Î G}{e:Ç}(hh:w.heap[g]? = D (.cells old e (0,0)))
  (hb:BxLe γ σ.bx γ (σ.setB k (.live b')).bx->j3m S w S (w.setRow g new)->j2i S (w.setRow g new) γ (σ.setB k (.live b')).bx k b') :
  Rel N np S0 w0 refs (σ.setB k (.live b')) a (w.setRow g new) S γ:=by
 have hle:BxLe γ σ.bx γ (σ.setB k (.live b')).bx:=by
  intro k' hk';by_cases hkk:k'=k
  .subst hkk;rw[j0y];exact⟨smp_,rfl,λb1 hb1=>by simp at hb1;subst hb1;exact⟨b,hk,hsh⟩⟩
  .rw[j07 σ _ hkk];exact⟨hk',rfl,λb hb=>⟨b,hb,.refl b⟩⟩
 have hst:j3m S w S (w.setRow g new):=by
  intro g' o h;refine⟨h,cell_setRow_other w g new ⟨g',o,U⟩ ?_⟩
  rintro rfl
  exact hS o h
 have live':∀k' b1,(σ.setB k (.live b')).bx k' = .live b1->∃b2,σ.bx k' = .live b2:=by
  intro k' b1 h1;by_cases hkk:k'=k
  .subst hkk;exact⟨b,hk⟩
  .rw[j07 σ _ hkk]at h1;exact⟨b1,h1⟩
 have hlt:=(Array.getElem?_eq_some_iff.1 hh).1
 refine Rel.step (bx':=(σ.setB k (.live b')).bx) hR hst hle ?_ ?_ ?_ hR.new ?_ ?_ ?_ hR.os hR.tape hR.output (λg' _ _ h=>⟨setRow_other w g g' new (λe=>h k b hk (e▸hg)),λk' b1 h1=>by
  obtain⟨b2,h2⟩:=live' k' b1 h1;exact h k' b2 h2⟩)
 .intro k' b1 h1;by_cases hkk:k'=k
  .subst hkk;rw[j0y]at h1;simp at h1;subst h1;exact hb hle hst
  .rw[j07 σ _ hkk]at h1;refine j2i.keep hst hle rfl (λg' hg'=>⟨?_,λ_=>ñ⟩) (hR.box k' b1 h1);exact setRow_other w g g' new (λh=>hR.apart k' k b1 b g hkk h1 hk (h▸hg') hg)
 .intro k' b1 g' h1 hg';obtain⟨b2,h2⟩:=live' k' b1 h1;exact hR.own k' b2 g' h2 hg'
 .intro k1 k2 b1 b2 g' hne h1 h2 hg';obtain⟨b1',h1'⟩:=live' k1 b1 h1;obtain⟨b2',h2'⟩:=live' k2 b2 h2;exact hR.apart k1 k2 b1' b2' g' hne h1' h2' hg'
 .intro g' o h;rw[size_setRow];exact hR.here g' o h
 .intro g' hg' hr;rw[setRow_other w g g' new ?_]
  .exact hR.below g' hg' hr
  .rintro rfl
   rcases hR.own k b _ hk hg with h|h
   .exact h.no omg_ hr
   .exact hr h.1
 .rw[size_setRow];exact hR.grow
theorem jdv{R:Leaf->G->Prop}{ls new:F Leaf}{cs zs:F G}{c:H}(h:All2 R ls cs)(h':All2 R new zs) :
  All2 R (jdk ls c new) (cs.take c++zs++cs.drop (c+zs.length)):=by
 unfold jdk;rw[h'.length];exact((h.take c).append h').append (h.drop _)
theorem jgG{X zs:F G}{c n:H}(h:c+zs.length<=n)(h':n<=X.length):(X.take c++zs++X.drop (c+zs.length)).take n=(X.take n).take c++zs++(X.take n).drop (c+zs.length):=by
 have e1:(X.take n).take c=X.take c:=by rw[î,ë omg_]
 have e2:(X.take c++zs).length=c+zs.length:=sqo_;rw[e1,å,Y (by rw[e2];exact h),e2,List.drop_take]
theorem jmg{bx:H->BS}{b:Ty}:∀{ys:F (F b.den)}{css:F (F G)},All2 (λx c=>Rep S w (.list b) x c) ys css->All2 (j08 S w γ bx) (ys.map λy=> .d (.list b) y) css.flatten
 |[],[],_=>trivial
 |[],_::_,h=>h.elim
 |_::_,[],h=>h.elim
 |y::ys,c::css,h=>by
  have h1:Rep S w (.list b) y c:=h.1;have h2:c.length=1:=Rep.length _ _ _ h1;match c,h2 with
  |[v],_=>exact⟨h1,jmg h.2⟩
theorem jmh{α β:Type}(f:α->β)(d:α)(ys:F α):((List.range ys.length).map λi=>f (List.getD ys i d))=ys.map f:=by
 refine List.ext_getElem smp_ λi h1 h2=>?_;have h3:i<ys.length:=by simpa using h2
 simp[List.getD,h3]
theorem ja5{bx:H->BS}{c:Cel}{ls:F Leaf}{z:G}(h:c.leaves=D ls)(hc:j0m S w γ bx c z) :
  All2 (j08 S w γ bx) ls z.cells.toList/\∀u∈z.cells.toList,One u:=by
 unfold Cel.leaves at h;split at h
 .simp at h
 .rename_i l hd;simp at h;subst h;have h1:=hc.2 hd;rw[jdr h1];exact⟨⟨hc.1,trivial⟩,λu hu=>by simp at hu;subst hu;exact h1⟩
 .simp at h;subst h;obtain⟨cs,rfl,ha,h1⟩:=hc;exact⟨ha,h1⟩
 .rename_i n b ys;simp only[j5]at h;obtain⟨cs,rfl,hn,css,ha,hcs⟩:=hc;have h0:ß ys=n:=hn;subst h0;have e:ls=ys.map λy=> .d (.list b) y:=h.symm.trans (jmh (λy:F b.den=>Leaf.d (.list b) y) [] ys);have e2:(Value.agg cs).cells.toList=cs.toList:=rfl;rw[e,e2];refine⟨?_,Rep.one (.arr _ (.list b)) ys cs.toList ⟨rfl,css,ha,hcs⟩⟩;rw[hcs];exact jmg ha
 .simp at h
theorem je2{m:H}:∀{l:F (F G)},(∀c∈l,c.length=m)->l.flatten.length=l.length*m
 |[],_=>smp_
 |c::l,h=>by
  have h1:=h c smp_;have h2:=je2 (l:=l) (λd hd=>h d (Í _ hd));simp only[Ö,È,List.length_cons,Ï,Nat.one_mul];omega
theorem j2H:∀(u:Ups)(σ:St){k:H},u.any (λy=>y.1==k)=M->(σ.upd u).bx k=σ.bx k
 |[],_,_,_=>rfl
 |e::u,σ,k,h=>by
  simp only[ò,ê,beq_eq_false_iff_ne]at h;show ((σ.setB e.1 e.2).upd u).bx k=_;rw[j2H u _ h.2,j07 σ _ (λhh=>h.1 hh.symm)]
theorem All2.all_len{t:Ty}{xs:F t.den}{css:F (F G)}(h:All2 (λx c=>Rep S w t x c) xs css):∀c∈css,c.length=t.size:=by
 intro c hc;obtain⟨x,_,hx⟩:=h.mem_right c hc;grind[Rep.length]
theorem jq0{cur:F G}{css:F (F G)}{m n i c:H}{ci zs:F G}(hm:∀c∈css,c.length=m)(hn:css.length=n)(hcur:cur.take (n*m)=css.flatten)
  (hi:css[i]? = D ci)(hc:c+zs.length<=m) :
  (cur.take (i*m+c)++zs++cur.drop (i*m+c+zs.length)).take (n*m)=(css.set i (ci.take c++zs++ci.drop (c+zs.length))).flatten:=by
 have hlt:i<css.length:=(List.getElem?_eq_some_iff.1 hi).1;have hci:css[i]=ci:=(List.getElem?_eq_some_iff.1 hi).2;have hcl:ci.length=m:=hm ci (List.mem_of_getElem? hi);obtain⟨A,B,hA,hB,hAB⟩:∃A B:F (F G),A.length=i/\A.length+1+B.length=n/\css=A++ci::B:=by refine⟨css.take i,css.drop (i+1),sqo_,sqo_,?_⟩;grind[þ,Ø]
 have hmA:∀c∈A,c.length=m:=λd hd=>hm d (by rw[hAB];simp[hd]);have hmB:∀c∈B,c.length=m:=λd hd=>hm d (by rw[hAB];simp[hd]);have lA:A.flatten.length=i*m:=by rw[je2 hmA,hA]
 have lB:=je2 hmB
 have hset:css.set i (ci.take c++zs++ci.drop (c+zs.length))=A++(ci.take c++zs++ci.drop (c+zs.length))::B:=by
  simp_all
 have hdec:cur=A.flatten++(ci++(B.flatten++cur.drop (n*m))):=by grind[Ø]
 have hsp:ci=ci.take c++((ci.drop c).take zs.length++ci.drop (c+zs.length)):=by grind[Ø,List.drop_drop]
 have lp:(ci.take c).length=c:=sqo_;have lq:((ci.drop c).take zs.length).length=zs.length:=sqo_;have lr:(ci.drop (c+zs.length)).length=m-(c+zs.length):=by simp[hcl]
 generalize ci.take c=p at *
 generalize (ci.drop c).take zs.length=q at *
 generalize ci.drop (c+zs.length)=r at *
 generalize cur.drop (n*m)=tl at *
 have e1:cur.take (i*m+c)=A.flatten++p:=by grind
 have e2:cur.drop (i*m+c+zs.length)=r++(B.flatten++tl):=by grind[List.drop_left']
 grind[ÿ,È]
theorem jbI{P:À}{T:H->Â TyI}(hT:j1K P T){t:Ç}{ti:TyI}(ht:T t=D ti){g o:H}{z:G}{cur:Î G}{e:Ç}
  (hh:w.heap[g]? = D (.cells cur e (0,0)))(hs:z.cells.toList.length=ti.size)(hl:o+z.cells.toList.length<=cur.size)(h1:∀u∈z.cells.toList,One u) :
  (Instr.storeAt t (.pointer (D ⟨g,o,U⟩)) z).run P w = .ok () (w.setRow g (cur.toList.take o++z.cells.toList++cur.toList.drop (o+z.cells.toList.length)).toArray):=by
 have hst:=run_storeCells_at P g o e z.cells.toList 0 cur w hh (by simpa using hl) h1;simp only[Nat.add_zero]at hst;have hne:¬z.cells.size≠ti.size:=by simpa using hs
 simp only[Instr.storeAt,Á,Instr.sureAddr,Ä,I,storeVar,j2F hT ht,Sem.run_ite,if_neg hne,hst]
theorem jsI{P:À}{E:Env}(hT:j1K P E.T)(hR:Rel N np S0 w0 refs σ a w S γ){rd rdf:H->BS}(hrd:RdOk σ rd)(hrdf:RdF np σ rdf){t:Ç}{ti:TyI}(ht:E.T t=D ti)
  {x:Leaf}{val:Cel}{u:Ups}{ux z:G}(h:jje rd rdf ti.size val x=D u)(hx:j08 S w γ σ.bx x ux)(hz:j0m S w γ σ.bx val z) :
  ∃w' S',(Instr.storeAt t ux z).run P w = .ok () w'/\Rel N np S0 w0 refs (σ.upd u) a w' S' γ:=by
 unfold jje at h;split at h
 .rename_i k c;split at h
  .rename_i ls hk;have hk:=hrd.live hk;split at h
   .rename_i new hnew;split at h
    .rename_i hc;simp only[j5]at h;subst h;obtain⟨hsz,hle⟩:=hc;obtain⟨ha,h1⟩:=ja5 hnew hz;obtain⟨g,hg,hu⟩:=hx.2.2 _ hk;obtain⟨g',cur,e,hg',hh,hcur,hc1,hS,_⟩:=hR.box k _ hk;rw[hg]at hg';simp at hg';subst hg';subst hu;have hlen:=ha.length;have hlc:=hcur.length;simp at hlc;refine⟨_,S,jbI hT ht hh omg_ (by simp at hlen ⊢;omega) h1,?_⟩;refine jdu hR hk (by rw[hg];rfl) (hS rfl) (b':= .cell (jdk ls c new) M) trivial hh (λhle hst=>?_);refine⟨g,_,e,hg,setRow_heap w g cur _ e (0,0) hh,?_,?_,λ_=>hS rfl,smp_⟩
     .have:=jdv (c:=c) (hcur.mono (λx u hx=>j08.keep hst hle hx)) (ha.mono (λx u hx=>j08.keep hst hle hx));have hsl:(jdk ls c new).length=ls.length:=by simp[jdk];omega
      grind[jgG]
     .intro v hv;have hsl:(jdk ls c new).length=ls.length:=by simp[jdk];omega
      grind[jgG]
    .simp at h
   .simp at h
  .rename_i n el xs hk;have hk:=hrd.live hk;split at h
   .rename_i hc0;subst hc0;split at h
    .rename_i n' a' ys;split at h
     .rename_i ys' hto;split at h
      .rename_i hsz;simp only[j5]at h;subst h;have hto':=jgi hto;simp only[TV.mk.injEq,Ty.arr.injEq]at hto';obtain⟨⟨rfl,rfl⟩,hto'⟩:=hto';obtain rfl:=eq_of_heq hto';obtain⟨cs,rfl,hr⟩:=hz;obtain⟨g,hg,hu⟩:=hx.2.2 _ hk;obtain⟨g',cur,e,hg',hh,hrep,hS⟩:=hR.box k _ hk;rw[hg]at hg';simp at hg';subst hg';subst hu;have hl1:=Rep.length _ _ _ hr;have hl2:=Rep.length _ _ _ hrep;have e1:(Value.agg cs).cells.toList=cs.toList:=rfl;refine⟨_,S,jbI hT ht hh (by rw[e1,hl1,hsz];rfl) (by simp_all) (by grind[Rep.one]),?_⟩;refine jdu hR hk (by rw[hg];rfl) hS (b':= .arr _ _ _) ⟨rfl,rfl⟩ hh (λhle hst=>?_);refine⟨g,_,e,hg,setRow_heap w g cur _ e (0,0) hh,?_,hS⟩;grind[Rep.keep]
      .simp at h
     .simp at h
    .simp at h
   .simp at h
  .simp at h
 .rename_i k i c;split at h
  .rename_i el at_ xs hk;have hnm:=hrd.nm hk;have hk:=hrd.live hk;split at h
   .rename_i new hnew;split at h
    .rename_i hc;obtain⟨hsz,hle⟩:=hc;split at h
     .rename_i en u1 hga;split at h
      .simp at h
      .rename_i hnk;simp only[j5]at h;subst h;obtain⟨ha,h1⟩:=ja5 hnew hz;have hlen:=ha.length;have hzz:z.cells.toList.length=z.cells.size:=Ð;obtain⟨_,hi,g,cap,hg,hu⟩:=hx.2.2 _ hk;obtain⟨css,hown,hall,hSk⟩:=j6U hnm (hR.box k _ hk);rcases hown.2 with⟨_,h0⟩|⟨g',cap',cur,hg',hb0,hh,hnc,hcm,hcs,htake⟩
       .omega
       rw[hg]at hg';simp at hg';obtain⟨rfl,rfl⟩:=hg';subst hu;obtain⟨ci,hci,hrep,hcell⟩:=jgF (λx c hx=>Rep.length at_ x c hx) hall i at_.dflt hi;have hcl:=Rep.length _ _ _ hrep;have hsp:=jdv (c:=c) (j92 (j7E at_ _ ci hrep)) ha;obtain⟨hf,he,hp⟩:=jcu hrdf hR.box at_ hga hsp;obtain⟨S1,hR1,hst1,hfz,hsame⟩:=j4t u1 σ S hR hf;have hk1:(σ.upd u1).bx k = .live (.lst el at_ xs M):=by grind[j2H]
       obtain⟨css1,hown1,hall1,hS1⟩:=j6U hnm (hR1.box k _ hk1);have hnS:∀o,¬S1 g o:=(hS1 g (by rw[hg];rfl)).1 rfl;have him:i*at_.size+at_.size<=xs.length*at_.size:=by have:(i+1)*at_.size<=xs.length*at_.size:=Z _ omg_;grind
       have hmc:xs.length*at_.size<=cap*at_.size:=Z _ hnc;have hzl:c+z.cells.toList.length<=at_.size:=omg_;refine⟨_,S1,jbI hT ht hh omg_ (by rw[hcs];omega) h1,?_⟩;rw[j6S];refine jdu hR1 hk1 (by rw[hg];rfl) hnS (b':= .lst el at_ (xs.set i en) M) ⟨rfl,rfl,λ_=>smp_⟩ hh (λhle2 hst2=>?_);have hnewc:Rep S1 w at_ en (ci.take c++z.cells.toList++ci.drop (c+z.cells.toList.length)):=by grind[Y]
       refine jip hnm ⟨css.set i (ci.take c++z.cells.toList++ci.drop (c+z.cells.toList.length)),⟨?_,.inr ⟨g,cap,_,?_,Ñ _,setRow_heap w g cur _ el (0,0) hh,by simpa using hnc,hcm,?_,?_⟩⟩,?_,λg' hg'=>?_⟩
       .rw[je2 (m:=at_.size)]
        .simp[hall.length]
        grind[All2.all_len]
       .simpa using hg
       .grind
       .simp only[List.length_set];exact jq0 (All2.all_len hall) hall.length.symm htake hci hzl
       .exact(hall.mono (λx c hx=>Rep.keep (hst1.trans hst2) _ _ _ hx)).set i _ _ (Rep.keep hst2 _ _ _ hnewc)
       simp_all
     .simp at h
    .simp at h
   .simp at h
  .rename_i n at_ xs hk;have hk:=hrd.live hk;split at h
   .rename_i new hnew;split at h
    .rename_i hc;obtain⟨hsz,hle⟩:=hc;split at h
     .rename_i en u1 hga;split at h
      .simp at h
      .rename_i hnk;simp only[j5]at h;subst h;obtain⟨ha,h1⟩:=ja5 hnew hz;have hlen:=ha.length;have hzz:z.cells.toList.length=z.cells.size:=Ð;obtain⟨hi,g,hg,hu⟩:=hx.2.2 _ hk;obtain⟨g',cur,e,hg',hh,⟨hn,css,hall,hcur⟩,hS⟩:=hR.box k _ hk;rw[hg]at hg';simp at hg';subst hg';subst hu;obtain⟨ci,hci,hrep,hcell⟩:=jgF (λx c hx=>Rep.length at_ x c hx) hall i at_.dflt omg_;have hcl:=Rep.length _ _ _ hrep;have hsp:=jdv (c:=c) (j92 (j7E at_ _ ci hrep)) ha;obtain⟨hf,he,hp⟩:=jcu hrdf hR.box at_ hga hsp;obtain⟨S1,hR1,hst1,hfz,hsame⟩:=j4t u1 σ S hR hf;have hk1:(σ.upd u1).bx k = .live (.arr n at_ xs):=by grind[j2H]
       obtain⟨g1,cur1,e1,hg1,hh1,_,hnS⟩:=hR1.box k _ hk1;rw[hg]at hg1;simp at hg1;subst hg1;have hcl2:cur.toList.length=n*at_.size:=by rw[hcur,je2 (All2.all_len hall),<-hall.length,hn]
       have him:i*at_.size+at_.size<=n*at_.size:=by have:(i+1)*at_.size<=n*at_.size:=Z _ omg_;grind
       have hzl:c+z.cells.toList.length<=at_.size:=omg_;refine⟨_,S1,jbI hT ht hh omg_ (by grind) h1,?_⟩;rw[j6S];refine jdu hR1 hk1 (by rw[hg];rfl) hnS (b':= .arr n at_ (xs.set i en)) ⟨rfl,rfl⟩ hh (λhle2 hst2=>?_);have hnewc:Rep S1 w at_ en (ci.take c++z.cells.toList++ci.drop (c+z.cells.toList.length)):=by grind[Y]
       refine⟨g,_,e,hg,setRow_heap w g cur _ e (0,0) hh,⟨?_,css.set i (ci.take c++z.cells.toList++ci.drop (c+z.cells.toList.length)),?_,?_⟩,hnS⟩
       .simp_all
       .exact(hall.mono (λx c hx=>Rep.keep (hst1.trans hst2) _ _ _ hx)).set i _ _ (Rep.keep hst2 _ _ _ hnewc)
       .have hrs:=jq0 (cur:=cur.toList) (n:=n) (zs:=z.cells.toList) (All2.all_len hall) (by rw[<-hall.length,hn]) (by grind) hci hzl;rw[<-hrs];symm;refine(Y ?_).trans smp_;simp only[È,Ò,ü];omega
     .simp at h
    .simp at h
   .simp at h
  .rename_i e0 el n ls hk;have hk:=hrd.live hk;split at h
   .rename_i new hnew;split at h
    .rename_i hc;simp only[j5]at h;subst h;obtain⟨hsz,hle⟩:=hc;obtain⟨ha,h1⟩:=ja5 hnew hz;have hlen:=ha.length;have hzz:z.cells.toList.length=z.cells.size:=Ð;obtain⟨_,hi,g,cap,hg,hu⟩:=hx.2.2 _ hk;obtain⟨hnm,⟨cs,hown,hall,h1s⟩,hS⟩:=hR.box k _ hk;rcases hown.2 with⟨_,h0⟩|⟨g',cap',cur,hg',hb0,hh,hnc,hcm,hcs,htake⟩
     .omega
     rw[hg]at hg';simp at hg';obtain⟨rfl,rfl⟩:=hg';subst hu;have him:i*el.size+el.size<=n*el.size:=by have:(i+1)*el.size<=n*el.size:=Z _ omg_;grind
     have hmc:n*el.size<=cap*el.size:=Z _ hnc;have hcl:cur.toList.length=cap*el.size:=by rw[Ð,hcs]
     have hlcs:cs.length=n*el.size:=hown.1;have hsp:=jgG (X:=cur.toList) (zs:=z.cells.toList) (c:=i*el.size+c) (n:=n*el.size) omg_ omg_;refine⟨_,S,jbI hT ht hh omg_ (by rw[hcs];omega) h1,?_⟩;refine jdu hR hk (by rw[hg];rfl) (hS g (by rw[hg];rfl)) (b':= .row e0 el n (jdk ls (i*el.size+c) new)) ⟨rfl,rfl,rfl⟩ hh (λhle2 hst2=>?_);refine⟨hnm,⟨cs.take (i*el.size+c)++z.cells.toList++cs.drop (i*el.size+c+z.cells.toList.length),⟨?_,.inr ⟨g,cap,_,hg,Ñ _,setRow_heap w g cur _ e0 (0,0) hh,hnc,hcm,?_,?_⟩⟩,?_,?_⟩,λg' hg'=>hS g' hg'⟩
     .simp only[È,Ò,ü];omega
     .simp only[List.size_toArray,È,Ò,ü];omega
     .simp_all
     .exact jdv (hall.mono (λx u hx=>j08.keep hst2 hle2 hx)) (ha.mono (λx u hx=>j08.keep hst2 hle2 hx))
     grind
    .simp at h
   .simp at h
  .simp at h
 .simp at h
theorem jav{m:H}:∀{l:F (F G)}(i:H),(∀c∈l,c.length=m)->(l.take i).flatten=l.flatten.take (i*m)
 |[],i,_=>smp_
 |c::l,0,_=>smp_
 |c::l,i+1,h=>by
  have hc:=h c smp_;have ih:=jav (l:=l) i (λd hd=>h d (by simp[hd]));rw[List.take_succ_cons,Ö,ih,Ö,Nat.succ_mul,Nat.add_comm,å,hc];rw[Y (l:=c) omg_,show m+i*m-m=i*m by omega]
theorem jf4{m:H}:∀{l:F (F G)}(i:H),(∀c∈l,c.length=m)->(l.drop i).flatten=l.flatten.drop (i*m)
 |[],i,_=>smp_
 |c::l,0,_=>smp_
 |c::l,i+1,h=>by
  have hc:=h c smp_;have ih:=jf4 (l:=l) i (λd hd=>h d (by simp[hd]));rw[List.drop_succ_cons,ih,Ö,Nat.succ_mul,Nat.add_comm,List.drop_append,hc];rw[Ë (l:=c) omg_,List.nil_append,show m+i*m-m=i*m by omega]
theorem jfV(hR:Rel N np S0 w0 refs σ a w S γ){k:H}{b:Bx}(hk:σ.bx k = .live b):Rel N np S0 w0 refs (σ.setB k .gone) a w S γ:=by
 have hle:BxLe γ σ.bx γ (σ.setB k .gone).bx:=by
  intro k' hk';by_cases hkk:k'=k
  .grind[j0y]
  .rw[j07 σ _ hkk];exact⟨hk',rfl,λb hb=>⟨b,hb,.refl b⟩⟩
 have live':∀k' b1,(σ.setB k .gone).bx k' = .live b1->σ.bx k' = .live b1:=by grind[j0y,j07]
 exact Rel.step (bx':=(σ.setB k .gone).bx) hR (.refl S w) hle (λk' b' h=>j2i.keep (.refl S w) hle rfl (λ_ _=>⟨rfl,λ_=>ñ⟩) (hR.box k' b' (live' k' b' h)))
  (λk' b' g h=>hR.own k' b' g (live' k' b' h)) (λk1 k2 b1 b2 g hne h1 h2=>hR.apart k1 k2 b1 b2 g hne (live' _ _ h1) (live' _ _ h2)) hR.new hR.here hR.below hR.grow hR.os hR.tape hR.output
  (λg _ _ h=>⟨rfl,λk' b' hb'=>h k' b' (live' k' b' hb')⟩)
theorem jAp(hR:Rel N np S0 w0 refs σ a w S γ){d:H}(hd:σ.bx d = .free){w':É}{v':G}{b:Bx}
  (hst:j3m S w S w')(hheap:∀g,g<w.heap.size->blk v'≠D g->w'.heap[g]? = w.heap[g]?)(hsz:w.heap.size<=w'.heap.size)
  (hv:∀g,blk v'=D g->Own w0 refs g/\(∀k b,σ.bx k = .live b->blk (γ k)≠D g)/\g<w'.heap.size)
  (os:w'.os=w.os)(tape:w'.tape=w.tape)(output:w'.output=w.output)
  (hb:BxLe γ σ.bx (gset γ d v') (σ.setB d (.live b)).bx->j2i S w' (gset γ d v') (σ.setB d (.live b)).bx d b)(hkw:∀g,blk v'=D g->refs.kw g=U) :
  Rel N np S0 w0 refs (σ.setB d (.live b)) a w' S (gset γ d v')/\BxLe γ σ.bx (gset γ d v') (σ.setB d (.live b)).bx:=by
 have hle:BxLe γ σ.bx (gset γ d v') (σ.setB d (.live b)).bx:=by
  intro k hk;have hne:k≠d:=by grind
  rw[j07 σ _ hne,j0o γ v' hne];exact⟨hk,rfl,λb hb=>⟨b,hb,.refl b⟩⟩
 refine⟨Rel.step (bx':=(σ.setB d (.live b)).bx) hR hst hle ?_ ?_ ?_ hR.new ?_ ?_ (â hR.grow hsz) (os.trans hR.os) (tape.trans hR.tape) (output.trans hR.output) (λg hg hkn h=>⟨hheap g hg (λhh=>hkn (hkw g hh)),λk b' hb' hbk=>by
  grind[j0p,j07,j0o]⟩),hle⟩
 .intro k b' hb';by_cases hk:k=d
  .grind[j0y]
  .rw[j07 σ _ hk]at hb';refine j2i.keep hst hle (j0o γ v' hk) (λg hg=>⟨?_,λ_=>ñ⟩) (hR.box k b' hb');exact hheap g (j4O (hR.box k b' hb') hg) (λhh=>(hv g hh).2.1 k b' hb' hg)
 .intro k b' g hb' hg;by_cases hk:k=d
  .grind[j0p]
  .rw[j07 σ _ hk]at hb';rw[j0o γ v' hk]at hg;exact hR.own k b' g hb' hg
 .intro k k' b1 b2 g hne h1 h2 hg hg';by_cases hk:k=d
  .grind[j0p,j07,j0o]
  .by_cases hk':k'=d
   .grind[j0p,j07,j0o]
   .rw[j07 σ _ hk]at h1;rw[j07 σ _ hk']at h2;rw[j0o γ v' hk]at hg;rw[j0o γ v' hk']at hg';exact hR.apart k k' b1 b2 g hne h1 h2 hg hg'
 .intro g o hs;have:=hR.here g o hs;omega
 .intro g hg hr;by_cases hb:blk v'=D g
  .exact((hv g hb).1.no hg hr).elim
  .rw[hheap g (by have:=hR.grow;omega) hb];exact hR.below g hg hr
theorem jfW(hR:Rel N np S0 w0 refs σ a w S γ){d:H}(hd:σ.bx d = .free){w':É}{S':j09}{v':G}{e:H}(hm:isM e=M){el:Ty}{zs:F el.den}{frz:ä}{css:F (F G)}
  (hst:j3m S w S' w')(hheap:∀g,g<w.heap.size->blk v'≠D g->w'.heap[g]? = w.heap[g]?)(hsz:w.heap.size<=w'.heap.size)
  (hv:∀g,blk v'=D g->Own w0 refs g/\(∀k b,σ.bx k = .live b->blk (γ k)≠D g)/\g<w'.heap.size)
  (hS:∀g o,S' g o->S g o\/blk v'=D g)(os:w'.os=w.os)(tape:w'.tape=w.tape)(output:w'.output=w.output)
  (hrow:w'.ownsRow 0 e el.size v' zs.length css.flatten)(hall:All2 (λx c=>Rep S' w' el x c) zs css)
  (hfrz:∀g,blk v'=D g->(frz=M->∀o,¬S' g o)/\(frz=Ã->∀o,S' g o↔o<zs.length*el.size))(hkw:∀g,blk v'=D g->refs.kw g=U) :
  Rel N np S0 w0 refs (σ.setB d (.live (.lst e el zs frz))) a w' S' (gset γ d v')/\
   j0m S' w' (gset γ d v') (σ.setB d (.live (.lst e el zs frz))).bx (.one (.ol d)) v':=by
 have hle:BxLe γ σ.bx (gset γ d v') (σ.setB d (.live (.lst e el zs frz))).bx:=by
  intro k hk;have hne:k≠d:=by grind
  rw[j07 σ _ hne,j0o γ v' hne];exact⟨hk,rfl,λb hb=>⟨b,hb,.refl b⟩⟩
 have hone:One v':=by rcases hrow.2 with⟨rfl,_⟩|⟨g,cap,cur,rfl,_⟩<;>rfl
 refine⟨Rel.step (bx':=(σ.setB d (.live (.lst e el zs frz))).bx) hR hst hle ?_ ?_ ?_ ?_ ?_ ?_ (â hR.grow hsz) (os.trans hR.os) (tape.trans hR.tape) (output.trans hR.output) (λg hg hkn h=>⟨hheap g hg (λhh=>hkn (hkw g hh)),λk b' hb' hbk=>by
  grind[j0p,j07,j0o]⟩),?_⟩
 .intro k b hb;by_cases hk:k=d
  .grind[j0y,jip,j0p]
  .rw[j07 σ _ hk]at hb;refine j2i.keep hst hle (j0o γ v' hk) (λg hg=>?_) (hR.box k b hb);have hgl:=j4O (hR.box k b hb) hg;have hne:blk v'≠D g:=λhh=>(hv g hh).2.1 k b hb hg;exact⟨hheap g hgl hne,λo=>⟨λhs=>(hS g o hs).resolve_right hne,λhs=>(hst g o hs).1⟩⟩
 .intro k b g hb hg;by_cases hk:k=d
  .grind[j0p]
  .rw[j07 σ _ hk]at hb;rw[j0o γ v' hk]at hg;exact hR.own k b g hb hg
 .intro k k' b1 b2 g hne h1 h2 hg hg';by_cases hk:k=d
  .grind[j0p,j07,j0o]
  .by_cases hk':k'=d
   .grind[j0p,j07,j0o]
   .rw[j07 σ _ hk]at h1;rw[j07 σ _ hk']at h2;rw[j0o γ v' hk]at hg;rw[j0o γ v' hk']at hg';exact hR.apart k k' b1 b2 g hne h1 h2 hg hg'
 .intro g o hs;rcases hS g o hs with hs|hs
  .exact hR.new g o hs
  simp_all
 .intro g o hs;rcases hS g o hs with hs|hs
  .have:=hR.here g o hs;omega
  simp_all
 .intro g hg hr;by_cases hb:blk v'=D g
  .exact((hv g hb).1.no hg hr).elim
  .rw[hheap g (by have:=hR.grow;omega) hb];exact hR.below g hg hr
 .refine⟨⟨by rw[j0y];simp,hone,λb hb=>(j0p γ d v').symm⟩,λ_=>hone⟩
theorem jmi{P:À}{T:H->Â TyI}(hT:j1K P T){t ty:Ç}{ti:TyI}(ht:T t=D ti){el:Ty}(hty:ti.ty=D (.list el))
  {v:G}{n:H}{xs:F G}(hown:w.ownsRow 0 ti.elem el.size v n xs){ad:Â Addr}{m c:H}{news:F G}(hnil:ad=U->m=0/\c=0)(hl:news.length=m*el.size)
  (hnews:∀b,ad=D b->∀(j:H)(u:G),news[j]? = D u->w.cell? (b.add j)=D u)(h1:∀u∈news,One u)(hmax:n+m<=j02) :
  ∃v' w',(Ô #[t,t] ty #[v,.slice ad m c]).run P w = .ok v' w'/\w'.ownsRow 0 ti.elem el.size v' (n+m) (xs++news)/\w'.os=w.os/\w'.tape=w.tape/\w'.output=w.output/\w.heap.size<=w'.heap.size/\
   ((v'=v/\w'=w)\/(blk v'=blk v/\(∃g,blk v=D g)/\∀g,blk v≠D g->w'.heap[g]? = w.heap[g]?)\/(blk v'=D w.heap.size/\∀g,g<w.heap.size->w'.heap[g]? = w.heap[g]?)):=by
 obtain⟨hd,hpos,te,hte,htea⟩:=j67 hT ht hty;have hsz:=jb7 hT hte htea;obtain⟨i,de,hi,hde,his,hib,_,_,hz⟩:=j5p hT hte;obtain⟨_,⟨z,hz,hzc⟩,_⟩:=hz el htea;have hsize:i.size=el.size:=omg_;have hzs:z.cells.size=el.size:=by have h:=Rep.length el el.dflt _ (j8h (S:=λ_ _=>False) (w:=w) el);grind
 have h63:n+m<=maxLen:=by grind[maxLen,j02]
 have hbytes:(n+m)*i.bytes<=140737488355328:=by have:(n+m)*i.bytes<=j02*32768:=Nat.mul_le_mul hmax hib;grind[j02]
 have hlen:(xs++news).length=(n+m)*el.size:=by rw[È,hown.1,hl,Ï]
 cases ad with
 |none=>obtain⟨rfl,rfl⟩:=hnil rfl;grind[run_append_owned_none]
 |some b=>
  have hnews:=hnews b rfl;rcases hown.2 with⟨rfl,rfl⟩|⟨g,cap,cur,rfl,_,hg,hnc,hcm,hcs,htake⟩
  .have hown':w.ownsRow w.heap.size ti.elem el.size (.slice U 0 0) 0 xs:=⟨hown.1,.inl ⟨rfl,rfl⟩⟩;obtain⟨v',w',hr,ho,hgr,hv⟩:=run_append_own (P:=P) w w.heap.size t ty ti.elem i z el.size i.bytes hd hi hz hsize rfl hzs hpos _ 0 xs hown' b m c news hl hnews h1 h63 hbytes (Ì _);refine⟨v',w',hr,⟨ho.1,ho.2.imp id (λ⟨g,cap,cur,h1,_,h3⟩=>⟨g,cap,cur,h1,Ñ _,h3⟩)⟩,hgr.os,hgr.tape,hgr.output,hgr.size,?_⟩;by_cases hm:m=0
   .subst hm;have hn0:news=[]:=Å (by simpa using hl);subst hn0;have:=run_append_own (P:=P) w w.heap.size t ty ti.elem i z el.size i.bytes hd hi hz hsize rfl hzs hpos _ 0 xs hown' b 0 c [] hl hnews h1 h63 hbytes (Ì _);left;have hx:(Ô #[t,t] ty #[.slice U 0 0,.slice (D b) 0 c]).run P w = .ok (.slice U 0 0) w:=by simp[Ô,run_underlying hd,sizeOf,typeInfo,hi,Builtin.lenOf,á,loadCells,loadCellsFrom]
    simp_all
   .have hr':=run_append_nil (P:=P) w t ty ti.elem i z hd hi hz b m c news (by rw[hsize];exact hl) hnews omg_ (by grind[maxLen]) (by grind);rw[hr']at hr;simp at hr;obtain⟨rfl,rfl⟩:=hr;exact .inr (.inr ⟨rfl,λg hg=>heap_alloc_old w.drew _ hg⟩)
  .by_cases hroom:n+m<=cap
   .have hfit:n*i.size+news.length<=cur.size:=by rw[hsize,hl,hcs,<-Ï];exact Z _ hroom
    have hr:=run_append_room (P:=P) w t ty ti.elem i hd hi g n cap cur hg b m c news (by rw[hsize];exact hl) hnews h1 hroom hfit;rw[hsize]at hr hfit;refine⟨_,_,hr,⟨hlen,.inr ⟨g,cap,_,rfl,Ñ _,setRow_heap w g cur _ ti.elem _ hg,hroom,hcm,?_,?_⟩⟩,rfl,rfl,rfl,by simp_all,.inr (.inl ⟨rfl,⟨g,rfl⟩,λg' hg'=>?_⟩)⟩
    .grind
    .grind
    .exact setRow_other w g g' _ (λh=>hg' (by rw[h];rfl))
   .have holds:∀(j:H)(u:G),xs[j]? = D u->w.cell? ((⟨g,0,U⟩:Addr).add j)=D u:=hown.cells (g:=g) rfl;have hr:=run_append_grow (P:=P) w t ty ti.elem i z hd hi hz ⟨g,0,U⟩ n cap xs (by grind) holds b m c news (by rw[hsize];exact hl) hnews omg_ (by grind[maxLen]) (growslice_fits omg_ hbytes);have hge:=grownCap_ge w (n+m) cap ti.elem;refine⟨_,_,hr,⟨hlen,.inr ⟨w.heap.size,_,_,rfl,Ñ _,heap_alloc_new w.drew _,hge,grownCap_le_maxLen w (n+m) cap ti.elem h63,?_,?_⟩⟩,rfl,rfl,rfl,smp_,.inr (.inr ⟨rfl,λg' hg'=>heap_alloc_old w.drew _ hg'⟩)⟩
    .simp only[Array.size_append,List.size_toArray,size_zeroCells,hzs,hown.1,hl,<-Ï];congr 1;omega
    grind
theorem jrx(hR:Rel N np S0 w0 refs σ a w S γ){rd:H->BS}(hrd:RdOk σ rd){el:Ty}{y:Leaf}{ys:F el.den}{z:G}(h:appX rd el y=D ys)(hy:j08 S w γ σ.bx y z) :
  ∃ad c css,z = .slice ad ys.length c/\(ad=U->ys.length=0/\c=0)/\All2 (λx c=>Rep S w el x c) ys css/\
   ∀b,ad=D b->∀(j:H)(u:G),css.flatten[j]? = D u->w.cell? (b.add j)=D u:=by
 unfold appX at h;split at h
 .rename_i k;split at h
  .rename_i e el' xs f hk;have:=jgi h;cases this;have hnm:=hrd.nm hk;have hk:=hrd.live hk;have hz:=hy.2.2 _ hk;obtain⟨css,hown,hall,_⟩:=j6U hnm (hR.box k _ hk);rcases hown.2 with⟨hg,h0⟩|⟨g,cap,cur,hg,_⟩
   .grind
   .refine⟨D ⟨g,0,U⟩,cap,css,by rw[hz,hg],smp_,hall,λb hb j u hu=>?_⟩;simp at hb;subst hb;exact hown.cells (g:=g) (by rw[hg];rfl) j u hu
  .simp at h
 .rename_i t xs;have:=jgi h;cases this;obtain⟨ad,cap,hz,hle,hcm,hn,hb⟩:=hy;simp at hz;cases ad with
  |none=>have h0:=hn rfl;have hl0:ß ys=0:=omg_;have:ys=[]:=Å hl0;subst this;exact⟨U,cap,[],hz,λ_=>⟨rfl,h0⟩,trivial,λb hb=>by simp at hb⟩
  |some b=>
   obtain⟨hsp,css,ha,hl⟩:=hb b rfl;refine⟨D b,cap,css,hz,smp_,ha,λb' hb' j u hu=>?_⟩;simp at hb';subst hb'
   have hsp:=hsp (λe=>by
    rw[e]at ha;cases css with
    |nil=>simp at hu
    |cons c cs=>exact ha)
   obtain⟨g,o,sp⟩:=b;simp at hsp;subst hsp;rw[Æ];exact(hl j u hu).2
 .simp at h;subst h;exact⟨U,0,[],hy,λ_=>⟨rfl,rfl⟩,trivial,λb hb=>by simp at hb⟩
 .rename_i k j;split at h
  .rename_i e el' xs f hk;split at h
   .rename_i xs' hto;have:=jgi hto;cases this;simp only[j5]at h;subst h;have hnm:=hrd.nm hk;have hk:=hrd.live hk;obtain⟨_,hj,ad,cap',hg',hu⟩:=hy.2.2 _ hk;obtain⟨css,hown,hall,_⟩:=j6U hnm (hR.box k _ hk);have hcl:=All2.all_len hall;have hlen:(Ù j xs').length=xs'.length-j:=smp_;rcases hown.2 with⟨hg,h0⟩|⟨g,cap,cur,hg,_,hh,hnc,_⟩
    .grind
    .rw[hg]at hg';simp only[Ê,true_and]at hg';obtain⟨rfl,rfl⟩:=hg';by_cases hc:cap=j
     .have hx0:Ù j xs'=[]:=Ë omg_;rw[hx0];rw[if_pos hc]at hu;exact⟨D ⟨g,0,U⟩,cap-j,[],by rw[hu];simp;omega,smp_,trivial,λb hb q v hq=>by simp at hq⟩
     .rw[if_neg hc]at hu;simp only[à,Æ,Nat.zero_add]at hu;refine⟨D ⟨g,j*el.size,U⟩,cap-j,css.drop j,by rw[hu,hlen],smp_,hall.drop j,λb hb q v hq=>?_⟩;simp at hb;subst hb;have hfd:(css.drop j).flatten=css.flatten.drop (j*el.size):=jf4 j hcl;rw[hfd,ï]at hq;have:=hown.cells (g:=g) (by rw[hg];rfl) _ v hq;grind[Æ]
   .simp at h
  .simp at h
 .simp at h
theorem jsJ{P:À}{E:Env}(hT:j1K P E.T)(hR:Rel N np S0 w0 refs σ a w S γ){rd rdf:H->BS}(hrd:RdOk σ rd)(hrdf:RdF np σ rdf){t ty:Ç}{ti:TyI}(ht:E.T t=D ti)
  {el:Ty}(hty:ti.ty=D (.list el)){x y:Leaf}{xs ys:F el.den}{frz:ä}{u:Ups}{d:H}{vx vy:G}(h1:appS rdf ti.elem el x=D (xs,frz,u))(h2:appX rd el y=D ys)
  (hd:σ.bx d = .free)(hmax:xs.length+ys.length<=j02)(hx:j08 S w γ σ.bx x vx)(hy:j08 S w γ σ.bx y vy) :
  ∃v' w' S' γ',(Ô #[t,t] ty #[vx,vy]).run P w = .ok v' w'/\Rel N np S0 w0 refs (σ.upd (u++[(d,.live (.lst ti.elem el (xs++ys) frz))])) a w' S' γ'/\
   j0m S' w' γ' (σ.upd (u++[(d,.live (.lst ti.elem el (xs++ys) frz))])).bx (.one (.ol d)) v':=by
 obtain⟨ad,c,cy,hvy,hnil,hcy,hcell⟩:=jrx hR hrd h2 hy;subst hvy;have hly:cy.flatten.length=ys.length*el.size:=All2.flatten_length (λx c hx=>Rep.length el x c hx) hcy;have h1y:∀u∈cy.flatten,One u:=by intro u hu;obtain⟨c,hc,huc⟩:=List.mem_flatten.1 hu;obtain⟨x,_,hx⟩:=hcy.mem_right c hc;grind[Rep.one]
 obtain⟨hdd,hpos,te,hte,htea⟩:=j67 hT ht hty
 have src:∃σ1,σ.upd u=σ1/\Rel N np S0 w0 refs σ1 a w S γ/\σ1.bx d = .free/\∃cx,w.ownsRow 0 ti.elem el.size vx xs.length cx.flatten/\All2 (λx c=>Rep S w el x c) xs cx/\
   ∀g,blk vx=D g->Own w0 refs g/\g<w.heap.size/\(∀k b,σ1.bx k = .live b->blk (γ k)≠D g)/\(frz=M->∀o,¬S g o)/\(frz=Ã->∀o,S g o↔o<xs.length*el.size)/\refs.kw g=none:=by
  unfold appS at h1;split at h1
  .rename_i k;split at h1
   .rename_i e' el' xs' f hk;split at h1
    .rename_i xs2 hto;split at h1
     .rename_i he;simp only[j5,j9]at h1;obtain⟨rfl,rfl,rfl⟩:=h1;have:=jgi hto;cases this;subst he;have hkp:=hrdf.par hk;have hnm:=hrdf.ok.nm hk;have hk:=hrdf.ok.live hk;have hz:=hx.2.2 _ hk;obtain⟨css,hown,hall,hS⟩:=j6U hnm (hR.box k _ hk);have hdk:d≠k:=by grind
      refine⟨σ.setB k .gone,rfl,jfV hR hk,by grind[j07],css,by rw[hz];exact hown,hall,λg hg=>?_⟩;rw[hz]at hg;refine⟨?_,j4O (hR.box k _ hk) hg,λk' b' hb' hg'=>?_,(hS g hg).1,(hS g hg).2,hR.kw_live hk hg⟩
      .rcases hR.own k _ g hk hg with h|h;all_goals simp_all
      .have hkk:k'≠k:=by grind[j0y]
       rw[j07 σ _ hkk]at hb';exact hR.apart k' k _ _ g hkk hb' hk hg' hg
     .simp at h1
    .simp at h1
   .simp at h1
  .simp only[j5,j9]at h1;obtain⟨rfl,rfl,rfl⟩:=h1;have hz:vx = .slice U 0 0:=hx;subst hz;exact⟨σ,rfl,hR,hd,[],ó w 0 ti.elem el.size,trivial,λg hg=>by simp[blk]at hg⟩
  .simp at h1
 obtain⟨σ1,hσ1,hR1,hd1,cx,hown,hcx,hblk⟩:=src;rw[j6S,hσ1];obtain⟨v',w',hr,hrow,os,tape,output,hsz,hcase⟩:=jmi hT ht hty (ty:=ty) hown hnil hly hcell h1y hmax;have hlx:cx.flatten.length=xs.length*el.size:=hown.1;let S':j09:=λg o=>S g o\/(frz=Ã/\blk v'=D g/\o<(xs++ys).length*el.size)
 have hst:j3m S w S' w':=by
  intro g o hs;refine⟨.inl hs,?_⟩;rcases hcase with⟨rfl,rfl⟩|⟨hb,⟨g0,hg0⟩,hh⟩|⟨hb,hh⟩
  .rfl
  .by_cases hg:g=g0
   .subst hg;obtain⟨_,_,_,hf,ht',_⟩:=hblk g hg0;cases frz with
    |false=>simp_all
    |true=>
     have ho:=(ht' rfl o).1 hs;have hv':v'.ownBlock=D g:=by rw[hg0]at hb;rcases hrow.2 with⟨hn,_⟩|⟨g1,cap,cur,hn,_⟩;all_goals grind[blk,Value.ownBlock]
     have hvx:vx.ownBlock=D g:=by rcases hown.2 with⟨hn,_⟩|⟨g1,cap,cur,hn,_⟩;all_goals grind[blk,Value.ownBlock]
     have hget:(cx.flatten)[o]? = D (cx.flatten[o]'omg_):=û omg_;have e1:=hown.cells hvx o _ hget;have e2:=hrow.cells hv' o (cx.flatten[o]'omg_) (by grind);grind[Æ]
   grind[Û]
  .exact Û (a:=⟨g,o,U⟩) (hh g (hR.here g o hs))
 have hvb:∀g,blk v'=D g->Own w0 refs g/\(∀k b,σ1.bx k = .live b->blk (γ k)≠D g)/\g<w'.heap.size:=by
  intro g hg;have hlt:g<w'.heap.size:=by rcases hrow.2 with⟨hn,_⟩|⟨g1,cap,cur,hn,_,hh,_⟩;all_goals grind[blk]
  rcases hcase with⟨rfl,rfl⟩|⟨hb,⟨g0,hg0⟩,hh⟩|⟨hb,hh⟩
  .simp_all
  .simp_all
  .rw[hb]at hg;simp at hg;subst hg;exact⟨.inl hR.grow,λk b hk hg'=>by have:=j4O (hR1.box k b hk) hg';omega,hlt⟩
 obtain⟨hRn,hcn⟩:=jfW hR1 hd1 (hm:=jn0 hT ht) (w':=w') (S':=S') (v':=v') (e:=ti.elem) (el:=el) (zs:=xs++ys) (frz:=frz) (css:=cx++cy) hst (λg hg hne=>by
   grind) hsz hvb (λg o hs=>hs.imp id (λh=>h.2.1)) os tape output (by simp_all)
  ((
   hcx.mono (λx c hx=>Rep.keep hst _ _ _ hx)).append (hcy.mono (λx c hx=>Rep.keep hst _ _ _ hx))) (λg hg=>by
   have hold:∀o,S g o->frz=Ã/\o<xs.length*el.size:=by
    intro o hs;rcases hcase with⟨rfl,rfl⟩|⟨hb,⟨g0,hg0⟩,hh⟩|⟨hb,hh⟩
    .grind
    .grind
    .rw[hb]at hg;simp at hg;subst hg;exact absurd hs (jdt hR o)
   grind[Ï]) (λg hg=>by
   rcases hcase with⟨rfl,rfl⟩|⟨hb,⟨g0,hg0⟩,hh⟩|⟨hb,hh⟩
   .simp_all
   .simp_all
   .rw[hb]at hg;simp at hg;subst hg;exact hR.kw_new (Ì _))
 exact⟨v',w',S',_,hr,hRn,hcn⟩
theorem jAq(L l:F G)(v:G)(n:H)(h:n<L.length) :
  (L.set n v).take (n+1)++l++(L.set n v).drop (n+1+l.length)=L.take n++v::l++L.drop (n+(l.length+1)):=by
 obtain⟨A,x,B,hA,rfl⟩:∃A x B,ß A=n/\L=A++x::B:=⟨L.take n,L[n],L.drop (n+1),sqo_,by rw[þ h,Ø]⟩;subst hA;rw[List.set_append_right _ _ (Ì _),Nat.sub_self,List.set_cons_zero];have e1:(A++v::B).take (A.length+1)=A++[v]:=by rw[show A++v::B=(A++[v])++B by simp];exact ÿ smp_
 have e2:(A++x::B).take A.length=A:=ÿ rfl;have e3:∀y,(A++y::B).drop (A.length+1+l.length)=B.drop l.length:=by intro y;rw[show A++y::B=(A++[y])++B by simp,<-List.drop_drop,List.drop_left' smp_]
 rw[e1,e2,e3,show A.length+(l.length+1)=A.length+1+l.length by omega,e3];simp
theorem jox(off:H):∀(l:F G)(k:H)(cells:Î G),off+k+l.length<=cells.size->
  ((l.zipIdx k).foldl (λcs x=>cs.setIfInBounds (off+x.2) x.1) cells).toList=cells.toList.take (off+k)++l++cells.toList.drop (off+k+l.length)
 |[],k,cells,_=>smp_
 |v::l,k,cells,h=>by
  simp only[List.length_cons]at h;rw[List.zipIdx_cons,List.foldl_cons,jox off l (k+1) _ sqo_];simp only[Array.toList_setIfInBounds];rw[show off+(k+1)=off+k+1 by omega];exact jAq cells.toList l v (off+k) sqo_
theorem jn5(cells:Î G)(off:H)(zs:Î G)(h:off+zs.size<=cells.size) :
  (zs.zipIdx.foldl (λcs (x:G×H)=>cs.setIfInBounds (off+x.2) x.1) cells).toList=cells.toList.take off++zs.toList++cells.toList.drop (off+zs.size):=by
 rw[<-Array.foldl_toList,Array.toList_zipIdx];have:=jox off zs.toList 0 cells (by simpa using h);simpa using this
theorem jgm(z:F G):∀(n p:H),p<n*z.length->(O n z).flatten[p]? = z[p%z.length]?
 |0,p,h=>by simp at h
 |n+1,p,h=>by
  rw[List.replicate_succ,Ö];by_cases hp:p<z.length
  .rw[List.getElem?_append_left hp,Nat.mod_eq_of_lt hp]
  .rw[List.getElem?_append_right omg_,jgm z n (p-z.length) (by rw[Ï]at h;omega)];congr 1;exact(Nat.mod_eq_sub_mod omg_).symm
theorem jmj(z:Î G)(n:H)(hz:0<z.size):((æ (n*z.size)).map (λi=>z[i%z.size]!)).toList=(O n z.toList).flatten:=by
 apply ô;intro p;by_cases hp:p<n*z.size
 .rw[jgm z.toList n p (by simpa using hp)];have hm:p%z.size<z.size:=Nat.mod_lt _ hz;simp[hp,hm]
 .rw[List.getElem?_eq_none sqo_,List.getElem?_eq_none (by rw[List.length_flatten];simp;omega)]
theorem jho{t:Ty}{z:G}(h:z.cells.toList=jdo t):z.cells.size=t.size:=by
 have:=Rep.length t t.dflt _ (j8h (S:=λ_ _=>False) (w:=(default:É)) t);rw[<-h]at this;simpa using this
theorem jjI{t:Ty}{z:G}(h:z.cells.toList=jdo t):∀u∈z.cells.toList,One u:=by
 rw[h];exact Rep.one t t.dflt _ (j8h (S:=λ_ _=>False) (w:=(default:É)) t)
theorem jki{P:À}{T:H->Â TyI}(hT:j1K P T){t:Ç}{ti:TyI}(ht:T t=D ti){ty:Ty}(hty:ti.ty=D ty) :
  ∃z:G,z.cells.toList=jdo ty/\(Instr.alloc t Ã (.tuple #[])).run P w = .ok (.pointer (D ⟨w.heap.size,0,U⟩)) (w.alloc (.cells z.cells t)):=by
 obtain⟨z,hz,hc⟩:=jdZ hT ht w hty;refine⟨z,hc,?_⟩;simp only[Instr.alloc,Á,hz,I,newVar,newRow,run_newObj,Ä,World.alloc_eq]
theorem juk{P:À}(t:Ç)(v:G):(Instr.box t v).run P w = .ok (.pointer (D ⟨w.heap.size,0,U⟩)) (w.alloc (.cells v.cells t)):=by
 simp only[Instr.box,Á,newVar,newRow,run_newObj,I,Ä,World.alloc_eq]
theorem jry{P:À}{α β:Type}(f:α->Sem β)(g:α->β):∀(l:F α),(∀x∈l,(f x).run P w = .ok (g x) w)->(l.mapM f).run P w = .ok (l.map g) w
 |[],_=>smp_
 |x::l,h=>by
  rw[List.mapM_cons];simp only[Á,h x smp_,I,jry f g l (λy hy=>h y (by simp[hy])),Ä,List.map_cons]
theorem jrz{bx:H->BS}{ti:TyI}{sz:H->Â H}{place:H->Â (H×H)}(hp:∀i f n,ti.flds[i]? = D f->sz f.2=D n->place i=D (f.1,n)) :
  ∀(ps:F (H×Cel))(vs:F (H×G)){ls ls':F Leaf}{cells:Î G},All2 (λp v=>p.1=v.1/\j0m S w γ bx p.2 v.2) ps vs->jm7 ti sz ls ps=D ls'->
   All2 (j08 S w γ bx) ls cells.toList->(∀u∈cells.toList,One u)->∃cells',Ü place cells vs=D cells'/\All2 (j08 S w γ bx) ls' cells'.toList/\∀u∈cells'.toList,One u
 |[],[],ls,ls',cells,_,h,ha,h1=>by
  simp[jm7]at h;subst h;exact⟨cells,rfl,ha,h1⟩
 |(i,c)::ps,(j,v)::vs,ls,ls',cells,⟨⟨hij,hc⟩,hps⟩,h,ha,h1=>by
  simp only at hij;subst hij;simp only[jm7]at h;split at h
  .rename_i f hf;split at h
   .rename_i new hnew;split at h
    .rename_i hcond;obtain⟨hsz,hle⟩:=hcond;obtain⟨hl,hl1⟩:=ja5 hnew hc;have hlen:=hl.length;have hlc:=ha.length;have hvs:v.cells.size=new.length:=by rw[hlen];simp
     have hcs:cells.size=ls.length:=by rw[hlc];simp
     have hfo:=jn5 cells f.1 v.cells omg_;have hsp:=jdv (c:=f.1) ha hl
     obtain⟨cells',hfill,h2,h3⟩:=jrz hp ps vs (cells:=(v.cells.zipIdx.foldl (λcs (x:G×H)=>cs.setIfInBounds (f.1+x.2) x.1) cells)) hps h
      (by rw[hfo];simpa using hsp) (by
       rw[hfo];intro u hu;simp only[ì]at hu;rcases hu with (hu|hu)|hu
       .exact h1 u (Ú hu)
       .exact hl1 u hu
       .exact h1 u (List.mem_of_mem_drop hu))
     refine⟨cells',?_,h2,h3⟩;simp only[Ü,hp i f _ hf hsz];rw[if_neg (by simp[hvs];omega)];exact hfill
    .simp at h
   .simp at h
  .simp at h
 |[],_::_,_,_,_,h,_,_,_=>h.elim
 |_::_,[],_,_,_,h,_,_,_=>h.elim
theorem jsK{P:À}{E:Env}(hT:j1K P E.T){bx:H->BS}{t:Ç}{ti:TyI}(ht:E.T t=D ti){ty:Ty}(hty:ti.ty=D ty)(hag:ty.agg=Ã)
  {ps:F (H×Cel)}{vs:Î (H×G)}{ls:F Leaf}(hps:All2 (λp v=>p.1=v.1/\j0m S w γ bx p.2 v.2) ps vs.toList)
  (h:jm7 ti (λt=>(E.T t).map (·.size)) (jhg ty) ps=D ls) :
  ∃z,(ç t vs).run P w = .ok z w/\j0m S w γ bx (.st ls) z:=by
 obtain⟨z,hz,hzc⟩:=jdZ hT ht w hty;obtain⟨i,d,hi,hd,_,_,_,hfl,hdesc⟩:=j5p hT ht;have hdd:=(hdesc ty hty).2.2;cases d with
 |struct fs=>
  simp only[jor,J,decide_eq_true_eq]at hfl;obtain⟨hf1,hf2⟩:=hfl
  have hplaces:(fs.mapM (λf=>do pure (f.offset,<-sizeOf f.type):Field->Sem (H×H))).run P w = .ok (fs.map λf=>(f.offset,((E.T f.type).map (·.size)).getD 0)) w:=by
   rw[Array.mapM_eq_mapM_toList]
   have:=jry (P:=P) (w:=w) (λf=>(do pure (f.offset,<-sizeOf f.type):Sem (H×H))) (λf:Field=>(f.offset,((E.T f.type).map (·.size)).getD 0)) fs.toList (λf hf=>by
    have:=List.all_eq_true.1 hf2 f hf;split at this
    .rename_i tf htf;simp only[Á,j2F hT htf,I,Ä,htf,à,Option.getD_some]
    .simp at this)
   simp only[Sem.run_map,this,I];congr 1;apply ý;simp
  have hp:∀(i:H)(f:H×H)(n:H),ti.flds[i]? = D f->(E.T f.2).map (·.size)=D n->(fs.map λf=>(f.offset,((E.T f.type).map (·.size)).getD 0))[i]? = D (f.1,n):=by
   intro i f n hf hn;rw[<-hf1,õ]at hf;cases hq:fs.toList[i]? with
   |none=>simp[hq]at hf
   |some fl=>
    simp only[hq,à,j5]at hf;subst hf;have hq':fs[i]? = D fl:=by simpa using hq
    simp only at hn;simp[hq',hn]
  obtain⟨cells',hfill,ha,h1⟩:=jrz (S:=S) (w:=w) (γ:=γ) (place:=λi=>(fs.map λf=>(f.offset,((E.T f.type).map (·.size)).getD 0))[i]?) hp ps vs.toList (cells:=z.cells) hps h (by rw[hzc];exact jau ty) (jjI hzc);refine⟨.agg cells',?_,cells',rfl,ha,h1⟩;simp only[ç,Á,hz,I,run_underlying hd,hplaces,hfill,Ä]
 |_=>exfalso;revert hdd hag;cases ty<;>simp[j91,Ty.agg]
theorem jmk{rd:H->BS}{el:Ty}:∀(ps:F (H×Cel)){xs xs':F el.den}{u u':Ups},j9P rd el xs u ps=D (xs',u')->∃u2,u'=u++u2
 |[],_,_,u,u',h=>by simp[j9P]at h;exact⟨[],by simp[h.2]⟩
 |(i,c)::ps,xs,xs',u,u',h=>by
  simp only[j9P]at h;split at h
  .split at h
   .obtain⟨u2,hu⟩:=jmk ps h;exact⟨_,by rw[hu,List.append_assoc]⟩
   .simp at h
  .simp at h
theorem jiv{rd:H->BS}(hrd:RdF np σ rd)(hB:jov S w γ σ.bx){el:Ty}(hpos:0<el.size):∀(ps:F (H×Cel))(vs:F (H×G)){xs xs':F el.den}{u u':Ups},
  All2 (λp v=>p.1=v.1/\j0m S w γ σ.bx p.2 v.2) ps vs->j9P rd el xs u ps=D (xs',u')->FrzL np σ.bx u->
  FrzL np σ.bx u'/\∀S',j3m S w S' w->Froz σ.bx γ S' w u'->∀(css:F (F G))(cells:Î G),All2 (λx c=>Rep S' w el x c) xs css->cells.toList=css.flatten->
   ∃cells' css',Ü (λi=>D (i*el.size,el.size)) cells vs=D cells'/\All2 (λx c=>Rep S' w el x c) xs' css'/\cells'.toList=css'.flatten
 |[],[],xs,xs',u,u',_,h,hf=>by
  simp[j9P]at h;obtain⟨rfl,rfl⟩:=h;exact⟨hf,λS' _ _ css cells ha hc=>⟨cells,css,rfl,ha,hc⟩⟩
 |(i,c)::ps,(j,v)::vs,xs,xs',u,u',⟨⟨hij,hc⟩,hps⟩,h,hf=>by
  simp only at hij;subst hij;simp only[j9P]at h;split at h
  .rename_i x u1 hx;split at h
   .rename_i hi;obtain⟨hf1,hr1,hl1⟩:=jds hrd hB hx hc;obtain⟨hf',hrest⟩:=jiv hrd hB hpos ps vs hps h (FrzL.app.2 ⟨hf,hf1⟩);obtain⟨u2,hu2⟩:=jmk ps h;refine⟨hf',λS' hst hfz css cells ha hcells=>?_⟩;have hrx:=(hr1 S' w hst (Froz.app.1 (Froz.app.1 (hu2▸hfz)).1).2).1;have hlcs:cells.size=xs.length*el.size:=by have:=All2.flatten_length (λx c hx=>Rep.length el x c hx) ha;rw[<-hcells]at this;simpa using this
    have him:i*el.size+el.size<=xs.length*el.size:=by have:(i+1)*el.size<=xs.length*el.size:=Z _ omg_;rwa[Nat.succ_mul]at this
    have hl1:v.cells.toList.length=el.size:=hl1;have hvs:v.cells.size=el.size:=by simpa using hl1
    have hzz:v.cells.toList.length=v.cells.size:=Ð;have hfo:=jn5 cells (i*el.size) v.cells omg_;obtain⟨ci,hci⟩:∃ci,css[i]? = D ci:=⟨css[i]'(by rw[<-ha.length];exact hi),û _⟩;have hrs:=jq0 (cur:=cells.toList) (n:=xs.length) (c:=0) (zs:=v.cells.toList) (All2.all_len ha) ha.length.symm (by rw[hcells,<-hcells];exact Y (by simp[hlcs])) hci omg_;have hcl:ci.length=el.size:=All2.all_len ha ci (List.mem_of_getElem? hci)
    have hnew:cells.toList.take (i*el.size)++v.cells.toList++cells.toList.drop (i*el.size+v.cells.size)=(css.set i v.cells.toList).flatten:=by
     have e1:ci.take 0++v.cells.toList++ci.drop (0+v.cells.toList.length)=v.cells.toList:=by rw[Ë omg_];simp
     rw[e1]at hrs;rw[<-hrs];symm;refine(Y ?_).trans ?_
     .simp;omega
     .simp
    obtain⟨cells',css',h1,h2,h3⟩:=hrest S' hst hfz (css.set i v.cells.toList) _ (ha.set i x v.cells.toList hrx) (hfo.trans hnew);refine⟨cells',css',?_,h2,h3⟩;simp only[Ü];rw[if_neg (by simp[hvs];omega)];exact h1
   .simp at h
  .simp at h
 |[],_::_,_,_,_,_,h,_,_=>h.elim
 |_::_,[],_,_,_,_,h,_,_=>h.elim
theorem jul{P:À}{t e:Ç}(h:P.underlying t=D (.slice e)):P.elem t=e:=by simp[Program.elem,h]
def VB(d:H)(o:Â G)(i:H):Prop:=(o=U/\i=d)\/∃k,o=D (.int k (i:Int))
theorem ja6{P:À}{w:É}{t:Ç}{e s:H}(hd:P.underlying t=D (.slice e))(hs:(sizeOf e).run P w = .ok s w){ad:Â Addr}{len cap i j:H}{lo hi:Â G}
  (hlo:VB 0 lo i)(hhi:VB len hi j)(hij:i<=j)(hj:j<=cap) :
  (ö t (.slice ad len cap) lo hi U).run P w = .ok (.slice (if cap=i then ad else ad.map (·.add (i*s))) (j-i) (cap-i)) w:=by
 have he:=jul hd;have hd':P.underlying t=D (.slice (P.elem t)):=by rw[he];exact hd
 rw[run_sliceAt_slice w t _ _ _ _ hd'];have hs':(sizeOf (P.elem t)).run P w = .ok s w:=by rw[he];exact hs
 rcases hlo with⟨rfl,rfl⟩|⟨kl,rfl⟩
 .rcases hhi with⟨rfl,rfl⟩|⟨kh,rfl⟩;all_goals grind[run_slice_all,Result.andThen,sliced,run_slice_h]
 .rcases hhi with⟨rfl,rfl⟩|⟨kh,rfl⟩;all_goals grind[run_slice_l,Result.andThen,sliced,run_slice_lh]
theorem joy{el:Ty}{xs:F el.den}{ad:Â Addr}{cap:H}(h:Rep S w (.list el) xs [.slice ad (ß xs) cap]){i j:H}(hij:i<=j)(hj:j<=ß xs) :
  Rep S w (.list el) ((xs.take j).drop i) [.slice (if cap=i then ad else ad.map (·.add (i*el.size))) (j-i) (cap-i)]:=by
 obtain⟨ad',cap',he,hle,hcm,hn,hb⟩:=h;simp only[List.cons.injEq,Ê,and_true,true_and]at he;obtain⟨rfl,rfl⟩:=he;have hlen:((xs.take j).drop i).length=j-i:=sqo_;refine⟨_,_,by rw[hlen],by rw[hlen];omega,omg_,λh=>?_,λb hb'=>?_⟩
 .have:ad=none:=by
   split at h
   .exact h
   .simpa using h
  have:=hn this;omega
 .by_cases hc:cap=i
  .rw[if_pos hc]at hb';have hz:(xs.take j).drop i=[]:=Å omg_;rw[hz];exact⟨λh=>absurd rfl h,[],trivial,λj v hv=>by simp at hv⟩
  .rw[if_neg hc]at hb';cases ad with
   |none=>simp at hb'
   |some b0=>
    simp only[à,j5]at hb';subst hb';obtain⟨hsp,css,ha,hl⟩:=hb b0 rfl;by_cases hx:(xs.take j).drop i=[]
    .rw[hx];exact⟨λh=>absurd rfl h,[],trivial,λj v hv=>by simp at hv⟩
    .have hxs:xs≠[]:=λh=>hx (by rw[h];simp);obtain⟨g,o,sp⟩:=b0;have hsp:=hsp hxs;simp at hsp;subst hsp;have hadd:(⟨g,o,U⟩:Addr).add (i*el.size)=⟨g,o+i*el.size,U⟩:=Æ _ _ _;rw[hadd];refine⟨λ_=>rfl,(css.take j).drop i,(ha.take j).drop i,λq v hq=>?_⟩;have hcl:=All2.all_len ha;rw[jf4 i (λc hc=>hcl c (Ú hc)),jav j hcl,ï,List.getElem?_take]at hq;split at hq
     .have:=hl _ v hq;grind
     .simp at hq
def ORep(R:Leaf->G->Prop):Â Leaf->Â G->Prop
 |none,U=>True
 |some l,D v=>R l v
 |_,_=>False
theorem je3{d:H}{o:Â Leaf}{vo:Â G}{i:Int}{bx:H->BS}(h:bnd d o=D i)(ho:ORep (j08 S w γ bx) o vo)(hi:0<=i):VB d vo i.toNat:=by
 unfold bnd at h;split at h
 .cases vo with
  |none=>simp at h;exact .inl ⟨rfl,omg_⟩
  |some v=>exact ho.elim
 .cases vo with
  |none=>exact ho.elim
  |some v=>simp at h;rename_i k n;have hv:v = .int k n:=ja4 (S:=S) (w:=w) ho;refine .inr ⟨k,?_⟩;grind
 .simp at h
theorem jsL{P:À}{E:Env}(hT:j1K P E.T)(hR:Rel N np S0 w0 refs σ a w S γ){rd:H->BS}(hrd:RdOk σ rd){t:Ç}{ti:TyI}(ht:E.T t=D ti)
  {d:H}{x l:Leaf}{lo hi:Â Leaf}{vx:G}{vlo vhi:Â G}{u:Ups}(hfree:∀k,j6s (rd k)=Ã->σ.bx k = .free)(h:jm8 (parK np) rd ti d x lo hi=D (Ã,l,u))
  (hx:j08 S w γ σ.bx x vx)(hlo:ORep (j08 S w γ σ.bx) lo vlo)(hhi:ORep (j08 S w γ σ.bx) hi vhi) :
  ∃v S' γ',(ö t vx vlo vhi U).run P w = .ok v w/\Rel N np S0 w0 refs (σ.upd u) a w S' γ'/\j0m S' w γ' (σ.upd u).bx (.one l) v:=by
 unfold jm8 at h;split at h
 ·-- a datum
  rename_i el xs;split at h
  .rename_i hty;obtain⟨hd,_,te,hte,htea⟩:=j67 hT ht hty;have hsz:=jb7 hT hte htea;split at h
   .rename_i i j hi' hj';simp only[j5,j9,J,decide_eq_true_eq]at h;obtain⟨⟨h0,h1,h2⟩,rfl,rfl⟩:=h;have hx':=hx;obtain⟨ad,cap,hv,hle,_⟩:=hx;simp at hv;subst hv;have hlen:((ß xs:H):Int)=Int.ofNat (ß xs):=rfl;refine⟨_,S,γ,ja6 hd (s:=el.size) ?_ (je3 hi' hlo h0) (je3 hj' hhi omg_) omg_ omg_,hR,joy hx' omg_ omg_,λ_=>rfl⟩;grind[j2F]
   .simp at h
  .simp at h
 .rename_i k;split at h
  ·-- the tail
   split at h
   .rename_i e el xs f hk;split at h
    .rename_i hty;obtain⟨hd,_,te,hte,htea⟩:=j67 hT ht hty;have hsz:=jb7 hT hte htea;split at h
     .rename_i i hi';simp only[j5,j9,J,decide_eq_true_eq]at h;obtain⟨⟨h0,h1⟩,rfl,rfl⟩:=h;have hnm:=hrd.nm hk;have hk:=hrd.live hk;have hz:=hx.2.2 _ hk;obtain⟨css,hown,_⟩:=j6U hnm (hR.box k _ hk);obtain⟨ad,cap,hg,hcap⟩:∃ad cap,γ k = .slice ad xs.length cap/\xs.length<=cap:=by rcases hown.2 with⟨hg,hn⟩|⟨g,cap,cur,hg,_,_,hnc,_⟩;all_goals grind
      have hvh:VB xs.length vhi xs.length:=by
       cases vhi with
       |none=>exact .inl ⟨rfl,rfl⟩
       |some v=>exact hhi.elim
      subst hz;have hrun:=ja6 (ad:=ad) (w:=w) hd (s:=el.size) (by grind[j2F]) (je3 hi' hlo h0) hvh omg_ hcap;rw[<-hg]at hrun;refine⟨_,S,γ,hrun,hR,⟨hx.1,rfl,λb hb=>?_⟩,λ_=>rfl⟩;rw[show (σ.upd []).bx k=σ.bx k from rfl,hk]at hb;grind
     .simp at h
    .simp at h
   .simp at h
  .rename_i hh;split at h
   .rename_i e el xs f hk;split at h
    .rename_i hty;obtain⟨hd,_,te,hte,htea⟩:=j67 hT ht hty;have hsz:=jb7 hT hte htea;split at h
     .rename_i i j hi' hj';have hnm:=hrd.nm hk;have hk:=hrd.live hk;have hz:=hx.2.2 _ hk;split at h
      ·-- a parameter's: its head
       split at h
       .rename_i hln;simp only[ø]at hln;subst hln;simp only[j5,j9,J,decide_eq_true_eq]at h;obtain⟨⟨h0,h1⟩,rfl,rfl⟩:=h;obtain⟨css,hown,_⟩:=j6U hnm (hR.box k _ hk)
        have hvl:VB 0 vlo 0:=by
         cases vlo with
         |none=>exact .inl ⟨rfl,rfl⟩
         |some v=>exact hlo.elim
        have hvh:=je3 hj' hhi h0;obtain⟨ad,cap,hg,hcap,had⟩:∃ad cap,γ k = .slice ad xs.length cap/\xs.length<=cap/\(if cap=0 then ad else ad.map (·.add (0*el.size)))=ad:=by rcases hown.2 with⟨hg,hn⟩|⟨g,cap,cur,hg,_,_,hnc,_⟩;all_goals grind[Æ]
        have hrun:=ja6 (ad:=ad) (w:=w) hd (s:=el.size) (by grind[j2F]) hvl hvh omg_ (show j.toNat<=cap by omega);rw[<-hg,had]at hrun;subst hz;refine⟨_,S,γ,hrun,hR,⟨hx.1,rfl,λb hb=>?_⟩,λ_=>rfl⟩;rw[show (σ.upd []).bx k=σ.bx k from rfl,hk]at hb;grind
       .simp at h
      rename_i hkp;have hkp:parK np k=false:=by simpa using hkp
      split at h
      ·-- cut short
       rename_i hlf;simp only[J,ø,Bool.not_eq_eq_eq_not,Bool.not_true]at hlf;obtain⟨rfl,rfl⟩:=hlf;split at h
       .rename_i hfr;simp only[j5,j9,J,decide_eq_true_eq]at h;obtain⟨⟨h0,h1⟩,rfl,rfl⟩:=h;have hdf:=hfree d hfr;have hdk:d≠k:=by grind
        obtain⟨css,hown,hall,hS⟩:=j6U hnm (hR.box k _ hk);have hcl:=All2.all_len hall
        have hvl:VB 0 vlo 0:=by
         cases vlo with
         |none=>exact .inl ⟨rfl,rfl⟩
         |some v=>exact hlo.elim
        have hvh:=je3 hj' hhi h0;have hR1:=jfV hR hk;have hd1:(σ.setB k .gone).bx d = .free:=by grind[j07]
        have hjl:j.toNat<=xs.length:=omg_;have hcss:css.length=xs.length:=hall.length.symm
        have key:∃v',(ö t vx vlo vhi U).run P w = .ok v' w/\w.ownsRow 0 e el.size v' (W j.toNat xs).length (W j.toNat css).flatten/\blk v'=blk vx:=by
         rw[hz];have hlt:(W j.toNat xs).length=j.toNat:=sqo_;rcases hown.2 with⟨hg,hn⟩|⟨g,cap,cur,hg,_,hh,hnc,hcm,hcs,htake⟩
         .rw[hg];have hj0:j.toNat=0:=omg_;refine⟨_,ja6 hd (s:=el.size) (len:=0) (by grind[j2F]) hvl (by rw[hn]at hvh;exact hvh) omg_ omg_,?_,by simp;rfl⟩
          simp_all
         .rw[hg];refine⟨_,ja6 hd (s:=el.size) (by grind[j2F]) hvl hvh omg_ omg_,?_,?_⟩
          .refine⟨?_,.inr ⟨g,cap,cur,?_,Ñ _,hh,omg_,hcm,hcs,?_⟩⟩
           .rw[jav _ hcl,Ò,hown.1,hlt]
            simp_all
           .grind[Æ]
           .rw[hlt,jav _ hcl,<-htake,î,ë (Z _ hjl)]
          .by_cases hc:cap=0
           .simp[hc];rfl
           .simp[hc,Æ];rfl
        obtain⟨v',hrun,hrow,hblk⟩:=key
        have hfacts:∀g,blk v'=D g->Own w0 refs g/\(∀k' b,(σ.setB k .gone).bx k' = .live b->blk (γ k')≠D g)/\g<w.heap.size:=by
         intro g hg;rw[hblk,hz]at hg;refine⟨?_,λk' b' hb' hg'=>?_,j4O (hR.box k _ hk) hg⟩
         .rcases hR.own k _ g hk hg with h|h;all_goals simp_all
         .have hkk:k'≠k:=by grind[j0y]
          rw[j07 σ _ hkk]at hb';exact hR.apart k' k _ _ g hkk hb' hk hg' hg
        obtain⟨hRn,hcn⟩:=jfW hR1 hd1 (hm:=hnm) (w':=w) (S':=S) (v':=v') (e:=e) (el:=el) (zs:=W j.toNat xs) (frz:=M) (css:=W j.toNat css) (.refl S w) (λg hg hne=>rfl) (Ì _) hfacts
         (λg o hs=> .inl hs) rfl rfl rfl hrow (hall.take _) (λg hg=>⟨λ_=>(hS g (by simp_all)).1 rfl,smp_⟩) (λg hg=>hR.kw_live hk (by simp_all))
        exact⟨v',S,_,hrun,hRn,hcn⟩
       .simp at h
      ·-- shared
       simp only[j5,j9,J,decide_eq_true_eq]at h;obtain⟨⟨h0,h1,h2⟩,rfl,rfl⟩:=h;obtain⟨S',hR',hst,hrep⟩:=jiu hR hnm hk hkp;have hrep':=hrep;obtain⟨ad,cap,hv,hle,_⟩:=hrep;simp at hv;rw[hv]at hrep';refine⟨_,S',γ,by rw[hz,hv];exact ja6 hd (s:=el.size) (by grind[j2F]) (je3 hi' hlo h0) (je3 hj' hhi omg_) omg_ omg_,hR',joy hrep' omg_ omg_,λ_=>rfl⟩
     .simp at h
    .simp at h
   .simp at h
 ·-- of a head
  rename_i k m;split at h
  .rename_i e el xs f hk;split at h
   .rename_i hty;obtain⟨hty,hhs⟩:=hty;obtain⟨hd,_,te,hte,htea⟩:=j67 hT ht hty;have hsz:=jb7 hT hte htea;split at h
    .rename_i i j hi' hj';simp only[j5,j9,J,decide_eq_true_eq]at h;obtain⟨⟨h0,h1,h2⟩,rfl,rfl⟩:=h;have hnm:=hrd.nm hk;have hk:=hrd.live hk;obtain⟨_,hm,ad,cap,hg,hz⟩:=hx.2.2 _ hk;obtain⟨css,hown,_⟩:=jru hg (hR.box k _ hk);have hcap:xs.length<=cap:=by rcases hown.2 with⟨hg',hn⟩|⟨g,cap',cur,hg',_,_,hnc,_⟩;all_goals simp_all
     have hvh:VB m vhi xs.length:=by
      have:=je3 hj' hhi omg_;rw[h2,j8]at this;rcases this with⟨h3,_⟩|h3
      .cases hi with
       |none=>simp at hhs
       |some y=>subst h3;exact hhi.elim
      .exact .inr h3
     have hrun:=ja6 (ad:=ad) (w:=w) hd (s:=el.size) (by grind[j2F]) (je3 hi' hlo h0) hvh omg_ hcap;subst hz;refine⟨_,S,γ,hrun,hR,⟨hx.1,rfl,λb hb=>?_⟩,λ_=>rfl⟩;rw[show (σ.upd []).bx k=σ.bx k from rfl,hk]at hb;grind
    .simp at h
   .simp at h
  .simp at h
 .simp at h
theorem jsM{P:À}{E:Env}(hT:j1K P E.T)(hR:Rel N np S0 w0 refs σ a w S γ){rd:H->BS}(hrd:RdOk σ rd){t:Ç}{ti:TyI}(ht:E.T t=D ti)
  {x mx:Leaf}{lo hi:Â Leaf}{vx vm:G}{vlo vhi:Â G}(h:jm9 rd ti x lo hi mx=D Ã)
  (hx:j08 S w γ σ.bx x vx)(hlo:ORep (j08 S w γ σ.bx) lo vlo)(hhi:ORep (j08 S w γ σ.bx) hi vhi)(hmx:j08 S w γ σ.bx mx vm) :
  ∃v,(ö t vx vlo vhi (D vm)).run P w = .ok v w:=by
 unfold jm9 at h;split at h
 case h_2=>simp at h
 rename_i k k1 i k2 j k3 m;split at h
 case h_2=>simp at h
 rename_i e el xs f hk;split at h
 case isFalse=>simp at h
 rename_i hty;simp only[j5,J,decide_eq_true_eq]at h;obtain⟨h0,h1,h2,h3⟩:=h;obtain⟨hd,_,te,hte,htea⟩:=j67 hT ht hty;have hsz:=jb7 hT hte htea;have hnm:=hrd.nm hk;have hk:=hrd.live hk;have hz:=hx.2.2 _ hk;cases vlo with
 |none=>exact hlo.elim
 |some vl=>
 cases vhi with
 |none=>exact hhi.elim
 |some vh=>
 have e1:vl = .int k1 i:=ja4 (S:=S) (w:=w) hlo;have e2:vh = .int k2 j:=ja4 (S:=S) (w:=w) hhi;have e3:vm = .int k3 m:=ja4 (S:=S) (w:=w) hmx;subst e1 e2 e3;obtain⟨css,hown,_⟩:=j6U hnm (hR.box k _ hk);have he:=jul hd;have hd':P.underlying t=D (.slice (P.elem t)):=by rw[he];exact hd
 rw[run_sliceAt_slice w t _ _ _ _ hd'];have hs':(sizeOf (P.elem t)).run P w = .ok el.size w:=by grind[j2F]
 have key:∀ad n cap,(m:Int)<=(cap:H)->∃v,(Instr.slice t (.slice ad n cap) (D (.int k1 i)) (D (.int k2 j)) (D (.int k3 m))).run P w = .ok v w:=by intro ad n cap hc;rw[run_slice_lhm w t ad n cap hd' _ _ _ _ _ _ h0 h1 h2 hc,hs'];exact⟨_,rfl⟩
 rcases hown.2 with⟨hg,hn⟩|⟨g,cap,cur,hg,_,hh,hnc,_⟩
 .simp_all
 .rw[hz,hg];exact key _ _ _ (Int.le_trans h3 omg_)
theorem jum(hR:Rel N np S0 w0 refs σ a w S γ){x:Leaf}{k i e:H}{el:Ty}{xs:F el.den}{f:ä}{vx:G}(h:jrq x=D (k,i))(hnm:isM e=M)(hk:σ.bx k = .live (.lst e el xs f))
  (hx:j08 S w γ σ.bx x vx):i<=xs.length/\((xs.length=0/\vx = .slice U 0 0)\/
   ∃g cap,γ k = .slice (D ⟨g,0,U⟩) xs.length cap/\xs.length<=cap/\vx = .slice (D ⟨g,if cap=i then 0 else i*el.size,U⟩) (xs.length-i) (cap-i)):=by
 obtain⟨css,hown,hall,hS⟩:=j6U hnm (hR.box k _ hk);unfold jrq at h;split at h
 .simp only[j5,j9]at h;obtain⟨rfl,rfl⟩:=h;have hz:=hx.2.2 _ hk;refine⟨Ñ _,?_⟩;rcases hown.2 with⟨hg,hn⟩|⟨g,cap,cur,hg,_,hh,hnc,hcm,hcs,htake⟩;all_goals grind
 .rename_i k' i';simp only[j5,j9]at h;obtain⟨rfl,rfl⟩:=h;obtain⟨_,hi,ad,cap,hg',hv⟩:=hx.2.2 _ hk;refine⟨hi,?_⟩;rcases hown.2 with⟨hg,hn⟩|⟨g,cap',cur,hg,_,hh,hnc,hcm,hcs,htake⟩;all_goals grind[Æ]
 .simp at h
theorem jiw{P:À}(hR:Rel N np S0 w0 refs σ a w S γ){k i e g cap:H}{el:Ty}{xs zs:F el.den}(hk:σ.bx k = .live (.lst e el xs M))(hg:γ k = .slice (D ⟨g,0,U⟩) xs.length cap)
  {cz:F (F G)}(hz:All2 (λx c=>Rep S w el x c) zs cz)(hl:i+zs.length<=xs.length) :
  ∃w',(storeCells ⟨g,i*el.size,U⟩ cz.flatten).run P w = .ok () w'/\Rel N np S0 w0 refs (σ.setB k (.live (.lst e el (W i xs++(zs++Ù (i+zs.length) xs)) M))) a w' S γ:=by
 have hnm:=jBK hg (hR.box k _ hk);obtain⟨css,hown,hall,hS⟩:=j6U hnm (hR.box k _ hk);have hlz:cz.flatten.length=zs.length*el.size:=All2.flatten_length (λx c hx=>Rep.length el x c hx) hz;have h1:∀u∈cz.flatten,One u:=by intro u hu;obtain⟨c,hc,huc⟩:=List.mem_flatten.1 hu;obtain⟨x,_,hx⟩:=hz.mem_right c hc;grind[Rep.one]
 rcases hown.2 with⟨hg',hn⟩|⟨g',cap',cur,hg',_,hh,hnc,hcm,hcs,htake⟩
 .simp_all
 rw[hg]at hg';simp only[Ê,j5,Addr.mk.injEq,and_true,true_and]at hg';obtain⟨rfl,rfl⟩:=hg';have hm1:i*el.size+zs.length*el.size<=xs.length*el.size:=by rw[<-Ï];exact Z _ hl
 have hm2:xs.length*el.size<=cap*el.size:=Z _ hnc;have hst:=run_storeCells_at P g (i*el.size) e cz.flatten 0 cur w hh (by rw[hlz,hcs];omega) h1;simp only[Nat.add_zero]at hst;refine⟨_,hst,?_⟩;have hcl:=All2.all_len hall;have hczl:=All2.all_len hz;have hnS:∀o,¬S g o:=(hS g (by rw[hg];rfl)).1 rfl;refine jdu hR hk (by rw[hg];rfl) hnS (b':= .lst e el _ M) ⟨rfl,rfl,λ_=>sqo_⟩ hh (λhle2 hst2=>?_);have hlen:(W i xs++(zs++Ù (i+zs.length) xs)).length=xs.length:=sqo_;refine jip hnm ⟨css.take i++(cz++css.drop (i+zs.length)),⟨?_,.inr ⟨g,cap,_,?_,Ñ _,setRow_heap w g cur _ e (0,0) hh,by rw[hlen];exact hnc,hcm,?_,?_⟩⟩,?_,λg' hg'=>?_⟩
 .grind[je2,All2.length,È]
 .rw[hlen];exact hg
 .grind
 .rw[hlen];simp only[List.flatten_append,jav i hcl,jf4 _ hcl,<-htake];have hA:(cur.toList.take (i*el.size)).length=i*el.size:=sqo_;rw[List.append_assoc,å,hA,Y omg_,î,ë omg_];congr 1;rw[å,hlz,Y omg_,Ï];congr 1;grind[List.drop_take]
 .exact((hall.mono (λx c hx=>Rep.keep hst2 _ _ _ hx)).take _).append ((hz.mono (λx c hx=>Rep.keep hst2 _ _ _ hx)).append ((hall.mono (λx c hx=>Rep.keep hst2 _ _ _ hx)).drop _))
 simp_all
theorem joz{σ:St}{k:H}{b:BS}(h:σ.bx k=b):σ.setB k b=σ:=by
 unfold St.setB;congr 1;grind
theorem jun{P:À}{E:Env}(hT:j1K P E.T)(hR:Rel N np S0 w0 refs σ a w S γ){rd:H->BS}(hrd:RdOk σ rd){t ty:Ç}{ti:TyI}(ht:E.T t=D ti)
  {x y l:Leaf}{u:Ups}{vx vy:G}(h:jsA rd ti.ty x y=D (l,u))(hx:j08 S w γ σ.bx x vx)(hy:j08 S w γ σ.bx y vy) :
  ∃v w',(ù #[t,t] ty #[vx,vy]).run P w = .ok v w'/\Rel N np S0 w0 refs (σ.upd u) a w' S γ/\j0m S w' γ (σ.upd u).bx (.one l) v:=by
 unfold jsA at h;split at h
 .rename_i k i htl;split at h
  .rename_i e el xs hk;split at h
   .rename_i hty;split at h
    .rename_i ys hys;simp only[j5,j9]at h;obtain⟨rfl,rfl⟩:=h;have hnm:=hrd.nm hk;have hk:=hrd.live hk;obtain⟨hd,hpos,te,hte,htea⟩:=j67 hT ht hty;have hsz:=jb7 hT hte htea;have hsize:(sizeOf ti.elem).run P w = .ok el.size w:=by grind[j2F]
     obtain⟨ad,c,cy,hvy,hnil,hcy,hcell⟩:=jrx hR hrd hys hy;subst hvy;obtain⟨hi,hcase⟩:=jum hR htl hnm hk hx;have hcyl:=All2.all_len hcy;have hyl:cy.length=ys.length:=hcy.length.symm;have hzl:(W (xs.length-i) ys).length=min ys.length (xs.length-i):=sqo_;have hov:over xs i ys=W i xs++(W (xs.length-i) ys++Ù (i+(W (xs.length-i) ys).length) xs):=by unfold over;grind[Ë]
     have hload:(á el.size (min ys.length (xs.length-i)) (.slice ad ys.length c)).run P w = .ok (W (xs.length-i) cy).flatten.toArray w:=by
      cases ad with
      |none=>
       have h0:=(hnil rfl).1
       simp_all[á]
      |some b=>
       have e1:(W (xs.length-i) cy).flatten.length=min ys.length (xs.length-i)*el.size:=by grind[je2,Ò]
       have:=run_loadCells_list (P:=P) w b (W (xs.length-i) cy).flatten (λj v hj=>by
        rw[jav _ hcyl,List.getElem?_take]at hj;split at hj;all_goals simp_all)
       grind[á]
     have hrun:∀base dl dc w',vx = .slice base dl dc->dl=xs.length-i->(base=U->w'=w)->(∀ab,base=D ab->(storeCells ab (W (xs.length-i) cy).flatten).run P w = .ok () w')->
       (ù #[t,t] ty #[vx,.slice ad ys.length c]).run P w = .ok (goInt ((min ys.length (xs.length-i):H):Int)) w':=by
      intro base dl dc w' hv hdl hb1 hb2;subst hv hdl;have hmin:Nat.min ys.length (xs.length-i)=min ys.length (xs.length-i):=rfl;cases base with
      |none=>simp[ù,run_underlying hd,Builtin.lenOf,hsize,hmin,hload,hb1 rfl]
      |some ab=>simp[ù,run_underlying hd,Builtin.lenOf,hsize,hmin,hload,hb2 ab rfl]
     by_cases hn:min ys.length (xs.length-i)=0
     .have hz:W (xs.length-i) ys=[]:=Å (by rw[hzl];exact hn);have hzc:(W (xs.length-i) cy).flatten=[]:=by grind
      have hov':over xs i ys=xs:=by rw[hov,hz];simp
      refine⟨_,w,?_,?_,⟨rfl,λ_=>rfl⟩⟩
      .rcases hcase with⟨h0,hv⟩|⟨g,cap,hg,hcap,hv⟩
       .exact hrun U 0 0 w hv omg_ (λ_=>rfl) (λab hab=>by simp at hab)
       .refine hrun _ _ _ w hv rfl (λ_=>rfl) (λab hab=>?_);rw[hzc];rfl
      .show Rel N np S0 w0 refs (σ.setB k (.live (.lst e el (over xs i ys) M))) a w S γ;grind[joz]
     .rcases hcase with⟨h0,hv⟩|⟨g,cap,hg,hcap,hv⟩
      .omega
      .have hci:cap≠i:=omg_;rw[if_neg hci]at hv;obtain⟨w',hst,hRn⟩:=jiw (P:=P) hR hk hg (i:=i) (hcy.take (xs.length-i)) (by rw[hzl];omega);refine⟨_,w',hrun _ _ _ w' hv rfl (λh=>by simp at h) (λab hab=>?_),?_,⟨rfl,λ_=>rfl⟩⟩
       .simp_all
       .show Rel N np S0 w0 refs (σ.setB k (.live (.lst e el (over xs i ys) M))) a w' S γ;rw[hov];exact hRn
    .simp at h
   .simp at h
  .simp at h
 .simp at h
theorem jsN{P:À}{E:Env}(hT:j1K P E.T)(hR:Rel N np S0 w0 refs σ a w S γ){rd:H->BS}(hrd:RdOk σ rd){t ty:Ç}{ti:TyI}(ht:E.T t=D ti)
  {x:Leaf}{u:Ups}{vx:G}(h:jma rd ti.ty x=D u)(hx:j08 S w γ σ.bx x vx) :
  ∃v w',(Builtin.clear_ #[t] ty #[vx]).run P w = .ok v w'/\Rel N np S0 w0 refs (σ.upd u) a w' S γ:=by
 unfold jma at h;split at h
 .rename_i k i htl;split at h
  .rename_i e el xs hk;split at h
   .rename_i hty;simp only[j5]at h;subst h;have hnm:=hrd.nm hk;have hk:=hrd.live hk;obtain⟨hd,hpos,te,hte,htea⟩:=j67 hT ht hty;have hsz:=jb7 hT hte htea;obtain⟨z,hz,hzc⟩:=jdZ hT hte w htea;obtain⟨hi,hcase⟩:=jum hR htl hnm hk hx;by_cases hn:xs.length-i=0
    .have hov:W i xs++O (xs.length-i) el.dflt=xs:=by grind[Y]
     refine⟨.tuple #[],w,?_,?_⟩
     .rcases hcase with⟨h0,hv⟩|⟨g,cap,hg,hcap,hv⟩;all_goals simp_all[Builtin.clear_,run_underlying]
     .show Rel N np S0 w0 refs (σ.setB k (.live (.lst e el (W i xs++O (xs.length-i) el.dflt) M))) a w S γ;grind[joz]
    .rcases hcase with⟨h0,hv⟩|⟨g,cap,hg,hcap,hv⟩
     .omega
     .have hci:cap≠i:=omg_;rw[if_neg hci]at hv
      have hrl:All2 (λx c=>Rep S w el x c) (O (xs.length-i) el.dflt) (O (xs.length-i) (jdo el)):=by
       have h0:=j8h (S:=S) (w:=w) el
       have:∀n,All2 (λx c=>Rep S w el x c) (O n el.dflt) (O n (jdo el)):=by
        intro n;induction n with
        |zero=>exact trivial
        |succ n ih=>exact⟨h0,ih⟩
       exact this _
      obtain⟨w',hst,hRn⟩:=jiw (P:=P) hR hk hg (i:=i) hrl sqo_;refine⟨.tuple #[],w',?_,?_⟩
      .have hzp:0<z.cells.size:=by have:=jho hzc;omega
       have hcells:(Builtin.zeroCells z.cells (xs.length-i)).toList=(O (xs.length-i) (jdo el)).flatten:=by rw[<-hzc];exact jmj z.cells (xs.length-i) hzp
       simp_all[Builtin.clear_,run_underlying]
      .show Rel N np S0 w0 refs (σ.setB k (.live (.lst e el (W i xs++O (xs.length-i) el.dflt) M))) a w' S γ
       simp_all
   .simp at h
  .simp at h
 .simp at h
theorem jxG{P:À}{E:Env}(hT:j1K P E.T)(hR:Rel N np S0 w0 refs σ a w S γ){rd:H->BS}(hrd:RdOk σ rd){t ty:Ç}{ti:TyI}(ht:E.T t=D ti){el:Ty}(hty:ti.ty=D (.list el))
  {s x v:Leaf}{u:Ups}{vs vx:G}(h:appH rd ti.elem el s x=D (Ã,v,u))(hs:j08 S w γ σ.bx s vs)(hx:j08 S w γ σ.bx x vx) :
  ∃z w',(Ô #[t,t] ty #[vs,vx]).run P w = .ok z w'/\Rel N np S0 w0 refs (σ.upd u) a w' S γ/\j08 S w' γ (σ.upd u).bx v z/\One z:=by
 unfold appH at h;split at h
 case h_2=>simp at h
 rename_i k i k' j;split at h
 case isFalse=>simp at h
 rename_i hkk;subst hkk;split at h
 case h_2=>simp at h
 rename_i e b xs hk;split at h
 case isFalse=>simp at h
 rename_i hb;obtain⟨hb,he⟩:=hb;subst hb;subst he;simp only[j5,j9,decide_eq_true_eq]at h;obtain⟨hij,rfl,rfl⟩:=h;obtain⟨hd,_,te,hte,htea⟩:=j67 hT ht hty;have hsz:=jb7 hT hte htea;obtain⟨inf,d,hi,_,hs2,_⟩:=j5p hT hte;have hisz:inf.size=b.size:=by rw[hs2,<-hsz]
 have hnm:=hrd.nm hk;have hk:=hrd.live hk;obtain⟨_,hin,ad,cap,hg,hvs⟩:=hs.2.2 _ hk;obtain⟨_,hjn,ad',cap',hg',hvx⟩:=hx.2.2 _ hk;rw[hg]at hg';simp only[Ê,true_and]at hg';obtain⟨rfl,rfl⟩:=hg';obtain⟨css,hown,hall,hS⟩:=jru hg (hR.box k _ hk);have hcl:=All2.all_len hall;have hlen':(W i xs++(Ù j xs++Ù (i+(xs.length-j)) xs)).length=xs.length:=sqo_;have hleaf:∀(w':É),j08 S w' γ (σ.setB k (.live (.lst ti.elem b (W i xs++(Ù j xs++Ù (i+(xs.length-j)) xs)) M))).bx (.hd k (i+(xs.length-j))) (.slice ad (i+(xs.length-j)) cap):=by intro w';refine⟨by rw[j0y];simp,rfl,λb' hb'=>?_⟩;grind[j0y]
 rcases hown.2 with⟨hg2,hn⟩|⟨g,cap2,cur,hg2,_,hh,hnc,hcm,hcs,htake⟩
 .rw[hg]at hg2;simp only[Ê]at hg2;obtain⟨rfl,_,rfl⟩:=hg2;have hx0:xs=[]:=Å hn;subst hx0;have hi0:i=0:=by simpa using hin
  have hj0:j=0:=by simpa using hjn
  subst hi0 hj0;have hrun:=run_append_owned_none (P:=P) w 0 t ty ti.elem inf b.size hd hi (.slice U 0 0) 0 [] (ó w 0 ti.elem b.size)
  have hid:σ.setB k (.live (.lst ti.elem b ([]:F b.den) M))=σ:=by
   show St.mk σ.sl _=σ;have:(λj=>if j=k then BS.live (.lst ti.elem b ([]:F b.den) M) else σ.bx j)=σ.bx:=by grind
   rw[this]
  refine⟨_,w,by simp_all,?_,hleaf w,rfl⟩;show Rel N np S0 w0 refs (σ.setB k (.live (.lst ti.elem b ([]:F b.den) M))) a w S γ;rw[hid];exact hR
 .rw[hg]at hg2;simp only[Ê,true_and]at hg2;obtain⟨rfl,rfl⟩:=hg2;obtain⟨w',hst,hRn⟩:=jiw (P:=P) (i:=i) hR hk hg (hall.drop j) sqo_;have hlz:(css.drop j).flatten.length=(xs.length-j)*b.size:=by have:=All2.flatten_length (λx c hx=>Rep.length b x c hx) (hall.drop j);simpa using this
  have h1:∀u∈(css.drop j).flatten,One u:=by intro u hu;obtain⟨c,hc,huc⟩:=List.mem_flatten.1 hu;obtain⟨x,_,hx⟩:=(hall.drop j).mem_right c hc;grind[Rep.one]
  have hm1:i*b.size+(xs.length-j)*b.size<=xs.length*b.size:=by grind[Ï]
  have hm2:xs.length*b.size<=cap*b.size:=Z _ hnc;have hst2:=run_storeCells_at P g (i*b.size) _ (css.drop j).flatten 0 cur w hh (by rw[hlz,hcs];omega) h1;simp only[Nat.add_zero]at hst2
  have hw:w'=w.setRow g (cur.toList.take (i*b.size)++(css.drop j).flatten++cur.toList.drop (i*b.size+(css.drop j).flatten.length)).toArray:=by
   simp_all
  have hcells:∀q u,(css.drop j).flatten[q]? = D u->w.cell? ((⟨g,if cap=j then 0 else j*b.size,U⟩:Addr).add q)=D u:=by
   intro q u hq;have hql:q<(xs.length-j)*b.size:=by grind
   have hc:¬cap=j:=by grind
   rw[if_neg hc,Æ];rw[jf4 j hcl,ï]at hq;have:=hown.cells (g:=g) (by rw[hg];rfl) _ u hq;grind[Æ]
  have hrun:=run_append_room (P:=P) w t ty ti.elem inf hd hi g i cap cur (by exact hh) ⟨g,if cap=j then 0 else j*b.size,U⟩ (xs.length-j) (cap-j) (css.drop j).flatten (by rw[hisz];exact hlz) hcells h1 omg_
   (by grind)
  have hvx':vx = .slice (D ⟨g,if cap=j then 0 else j*b.size,U⟩) (xs.length-j) (cap-j):=by grind[Æ]
  refine⟨_,w',by simp_all,?_,hleaf w',rfl⟩;have:(Ù j xs).length=xs.length-j:=smp_;rw[this]at hRn;exact hRn
theorem jxH(hR:Rel N np S0 w0 refs σ a w S γ){rdf:H->BS}(hrdf:RdF np σ rdf){e:H}{el:Ty}{s:Leaf}{m:H}{ls:F Leaf}{u:Ups}{vs:G}(h:rowS rdf e el s=D (m,ls,u))(hs:j08 S w γ σ.bx s vs) :
  ∃cs,w.ownsRow 0 e el.size vs m cs/\All2 (j08 S w γ σ.bx) ls cs/\(∀u∈cs,One u)/\Rel N np S0 w0 refs (σ.upd u) a w S γ/\BxLe γ σ.bx γ (σ.upd u).bx/\
   (∀k,σ.bx k = .free->(σ.upd u).bx k = .free)/\∀g,blk vs=D g->(∀o,¬S g o)/\Own w0 refs g/\refs.kw g=U/\g<w.heap.size/\∀k b,(σ.upd u).bx k = .live b->blk (γ k)≠D g:=by
 unfold rowS at h;split at h
 .simp only[j5,j9]at h;obtain⟨rfl,rfl,rfl⟩:=h;have hz:vs = .slice U 0 0:=hs;subst hz;exact⟨[],ó w 0 e el.size,trivial,smp_,hR,.refl _ _,λk h=>h,λg hg=>by simp[blk]at hg⟩
 .rename_i k;split at h
  case h_2=>simp at h
  rename_i e' a' m' ls' hk;split at h
  case isFalse=>simp at h
  rename_i hc;obtain⟨rfl,rfl⟩:=hc;simp only[j5,j9]at h;obtain⟨rfl,rfl,rfl⟩:=h;have hk':=hrdf.ok.live hk;have hz:vs=γ k:=hs.2.2 _ hk';subst hz;obtain⟨_,⟨cs,hown,hall,h1⟩,hS⟩:=hR.box k _ hk';refine⟨cs,hown,hall,h1,jfV hR hk',?_,?_,λg hg=>⟨hS g hg,?_,hR.kw_live hk' hg,j4O (hR.box k _ hk') hg,?_⟩⟩
  .intro k' hk2;show (σ.setB k .gone).bx k'≠_/\_;by_cases hkk:k'=k
   .subst hkk;exact⟨by rw[j0y];simp,rfl,λb hb=>by have hb:(σ.setB k' .gone).bx k' = .live b:=hb;grind[j0y]⟩
   .exact⟨by grind[j07],rfl,λb hb=>by have hb:(σ.setB k .gone).bx k' = .live b:=hb;rw[j07 _ _ hkk]at hb;exact⟨b,hb,.refl b⟩⟩
  .intro k' h;show (σ.setB k .gone).bx k'=_;grind[j07]
  .rcases hR.own k _ g hk' hg with h|h
   .exact h
   .rw[hrdf.par hk]at h;simp at h
  .intro k' b hb hg';have hb:(σ.setB k .gone).bx k' = .live b:=hb;by_cases hkk:k'=k
   .grind[j0y]
   .rw[j07 _ _ hkk]at hb;exact hR.apart k' k _ _ g hkk hb hk' hg' hg
 .simp at h
theorem jxI{P:À}{E:Env}(hT:j1K P E.T)(hR:Rel N np S0 w0 refs σ a w S γ){rd rdf:H->BS}(hrd:RdOk σ rd)(hrdf:RdF np σ rdf){t ty:Ç}{ti:TyI}(ht:E.T t=D ti){el:Ty}(hty:ti.ty=D (.list el)){n:H}
  {s x v:Leaf}{u:Ups}{vs vx:G}(h:appN rd rdf ti.elem el n s x=D (v,u))(hs:j08 S w γ σ.bx s vs)(hx:j08 S w γ σ.bx x vx) :
  ∃z w' γ',(Ô #[t,t] ty #[vs,vx]).run P w = .ok z w'/\Rel N np S0 w0 refs (σ.upd u) a w' S γ'/\j08 S w' γ' (σ.upd u).bx v z/\One z:=by
 unfold appN at h;split at h
 case h_2=>simp at h
 rename_i k;split at h
 case h_2=>simp at h
 rename_i e' a' m ls hk;split at h
 case h_2=>simp at h
 rename_i m0 ls0 u0 hrs;split at h
 case isFalse=>simp at h
 rename_i hc;obtain⟨⟨rfl,rfl⟩,hany,hmax,hfr⟩:=hc;simp only[j5,j9]at h;obtain⟨rfl,rfl⟩:=h;have hn:=hrd.free hfr;have hk':=hrdf.ok.live hk;have hz:vx=γ k:=hx.2.2 _ hk';subst hz;obtain⟨hnm,⟨cs,hown,hall,h1⟩,hSk⟩:=hR.box k _ hk';obtain⟨cs0,hown0,hall0,h10,hR1,hle1,hfree1,hvs⟩:=jxH hR hrdf hrs hs;have hk1:(σ.upd u0).bx k = .live (.row ti.elem a' m ls):=(j2H u0 σ hany).trans hk';have hR2:=jfV hR1 hk1;have hn2:((σ.upd u0).setB k .gone).bx n = .free:=by grind[j07]
 have hle2:BxLe γ σ.bx γ ((σ.upd u0).setB k .gone).bx:=by intro k' hk2;obtain⟨q1,q2,q3⟩:=hle1 k' hk2;grind[j0y,j07]
 obtain⟨ad,c,hgx,hnil,hnews⟩:∃ad c,γ k = .slice ad m c/\(ad=U->m=0/\c=0)/\∀b,ad=D b->∀(j:H)(u:G),cs[j]? = D u->w.cell? (b.add j)=D u:=by
  rcases hown.2 with⟨h2,h3⟩|⟨g,cap,cur,h2,_,hh,_,_,_,htake⟩
  .grind
  .exact⟨D ⟨g,0,U⟩,cap,h2,λh=>by simp at h,λb hb j u hu=>by
    simp at hb;subst hb;exact hown.cells (g:=g) (by rw[h2];rfl) j u hu⟩
 obtain⟨v',w',hr,hrow,os,tape,output,hsz,hcase⟩:=jmi (ty:=ty) hT ht hty hown0 (ad:=ad) (m:=m) (c:=c) (news:=cs) hnil hown.1 hnews h1 (by simp only[j02];omega)
 have hheap:∀g,g<w.heap.size->blk v'≠D g->w'.heap[g]? = w.heap[g]? := by
  grind
 have hlt':∀g,blk v'=D g->g<w'.heap.size:=λg hg=>by
  rcases hrow.2 with⟨h2,_⟩|⟨g2,cap2,cur2,h2,_,hh2,_⟩;all_goals grind[blk]
 have hv:∀g,blk v'=D g->(∀o,¬S g o)/\Own w0 refs g/\refs.kw g=U/\∀k' b,((σ.upd u0).setB k .gone).bx k' = .live b->blk (γ k')≠D g:=by
  intro g hg;have old:blk vs=D g->(∀o,¬S g o)/\Own w0 refs g/\refs.kw g=U/\∀k' b,((σ.upd u0).setB k .gone).bx k' = .live b->blk (γ k')≠D g:=by grind[j07]
  rcases hcase with⟨rfl,_⟩|⟨h2,_,_⟩|⟨h2,_⟩
  .exact old hg
  .simp_all
  .rw[hg]at h2;simp at h2;subst h2;exact⟨λo=>jdt hR o,.inl hR.grow,hR.kw_new (Ì _),λk' b hb hb'=>by have:=j4O (hR2.box k' b hb) hb';omega⟩
 have hst:j3m S w S w':=λg o h=>⟨h,Û (hheap g (hR.here g o h) (λhb=>(hv g hb).1 o h))⟩
 obtain⟨hRn,_⟩:=jAp hR2 hn2 (b:= .row ti.elem a' (m0+m) (ls0++ls)) hst hheap hsz (λg hg=>⟨(hv g hg).2.1,(hv g hg).2.2.2,hlt' g hg⟩) os tape output (λhle=>by
  have hle3:BxLe γ σ.bx (gset γ n v') (((σ.upd u0).setB k .gone).setB n (.live (.row ti.elem a' (m0+m) (ls0++ls)))).bx:=λk' hk2=>by
   obtain⟨q1,q2,q3⟩:=hle2 k' hk2;obtain⟨p1,p2,p3⟩:=hle k' q1
   exact⟨p1,p2.trans q2,λb' hb'=>by
    obtain⟨b1,hb1,hs1⟩:=p3 b' hb';obtain⟨b2,hb2,hs2⟩:=q3 b1 hb1;exact⟨b2,hb2,hs2.trans hs1⟩⟩
  refine⟨hnm,⟨cs0++cs,by rw[j0p];exact hrow,(hall0.append hall).mono (λx u hx=>j08.keep hst hle3 hx),λu hu=>(List.mem_append.1 hu).elim (h10 u) (h1 u)⟩,λg hg o=>?_⟩;grind[j0p]) (λg hg=>(hv g hg).2.2.1)
 have hone:One v':=by rcases hrow.2 with⟨h2,_⟩|⟨g2,cap2,cur2,h2,_⟩<;>rw[h2]<;>rfl
 refine⟨v',w',gset γ n v',by rw[hgx];exact hr,?_,?_,hone⟩
 .rw[j6S];exact hRn
 .rw[j6S];exact⟨by show (((σ.upd u0).setB k .gone).setB n _).bx n≠_;rw[j0y];simp,hone,λb _=>(j0p γ n v').symm⟩
theorem jxJ(hR:Rel N np S0 w0 refs σ a w S γ){k d e m:H}{el:Ty}{xs:F el.den}(hk:σ.bx k = .live (.lst e el xs M))(hkp:parK np k=M)(hdf:σ.bx d = .free){ad:Â Addr}{cap:H}(hm:m<=xs.length)
  (hg:γ k = .slice ad xs.length cap) :
  ∃γ',Rel N np S0 w0 refs (σ.upd [(k,.gone),(d,.live (.lst e el (W m xs) M))]) a w S γ'/\j0m S w γ' (σ.upd [(k,.gone),(d,.live (.lst e el (W m xs) M))]).bx (.one (.ol d)) (.slice ad m cap):=by
 have hdk:d≠k:=by grind
 have hnm:=jBK hg (hR.box k _ hk);obtain⟨css,hown,hall,hS⟩:=j6U hnm (hR.box k _ hk);have hcl:=All2.all_len hall;have hR1:=jfV hR hk;have hd1:(σ.setB k .gone).bx d = .free:=by grind[j07]
 have hlt:(W m xs).length=m:=sqo_;have hblk:blk (.slice ad m cap)=blk (γ k):=by rw[hg];cases ad<;>rfl
 have hrow:w.ownsRow 0 e el.size (.slice ad m cap) (W m xs).length (W m css).flatten:=by
  refine⟨?_,?_⟩
  .rw[jav _ hcl,Ò,hown.1,hlt]
   simp_all
  .rcases hown.2 with⟨hg',hn⟩|⟨g,cap',cur,hg',_,hh,hnc,hcm,hcs,htake⟩
   .simp_all
   .rw[hg]at hg';simp only[Ê,true_and]at hg';obtain⟨rfl,rfl⟩:=hg';refine .inr ⟨g,cap,cur,by rw[hlt],Ñ _,hh,omg_,hcm,hcs,?_⟩;rw[hlt,jav _ hcl,<-htake,î,ë (Z _ hm)]
 have hfacts:∀g,blk (.slice ad m cap)=D g->Own w0 refs g/\(∀k' b,(σ.setB k .gone).bx k' = .live b->blk (γ k')≠D g)/\g<w.heap.size:=by
  intro g hg;rw[hblk]at hg;refine⟨?_,λk' b' hb' hg'=>?_,j4O (hR.box k _ hk) hg⟩
  .rcases hR.own k _ g hk hg with h|h;all_goals simp_all
  .have hkk:k'≠k:=by grind[j0y]
   rw[j07 σ _ hkk]at hb';exact hR.apart k' k _ _ g hkk hb' hk hg' hg
 obtain⟨hRn,hcn⟩:=jfW hR1 hd1 (hm:=hnm) (w':=w) (S':=S) (v':= .slice ad m cap) (e:=e) (el:=el) (zs:=W m xs) (frz:=M) (css:=W m css) (.refl S w) (λg hg hne=>rfl) (Ì _) hfacts
  (λg o hs=> .inl hs) rfl rfl rfl hrow (hall.take _) (λg hg=>⟨λ_=>(hS g (by rw[<-hblk];exact hg)).1 rfl,smp_⟩) (λg hg=>hR.kw_live hk (by rw[<-hblk];exact hg))
 exact⟨_,hRn,hcn⟩
theorem juo{el:Ty}{z:G}(hz:z.cells.toList=jdo el)(n:H)(hpos:0<el.size) :
  ∃css,All2 (λx c=>Rep S w el x c) (O n el.dflt) css/\((æ (n*z.cells.size)).map (λi=>z.cells[i%z.cells.size]!)).toList=css.flatten:=by
 refine⟨O n (jdo el),?_,?_⟩
 .have hz:=j8h (S:=S) (w:=w) el;induction n with
  |zero=>exact trivial
  |succ n ih=>exact⟨hz,ih⟩
 grind[jmj,jho]
theorem jlN{P:À}{E:Env}(hT:j1K P E.T)(hR:Rel N np S0 w0 refs σ a w S γ){rdf:H->BS}(hrdf:RdF np σ rdf){t:Ç}{ti:TyI}(ht:E.T t=D ti)
  {el:Ty}(hty:ti.ty=D (.list el)){len d:H}{ps:F (H×Cel)}{vs:Î (H×G)}{xs:F el.den}{u:Ups}(hlen:len*el.size<=16777216)
  (hps:All2 (λp v=>p.1=v.1/\j0m S w γ σ.bx p.2 v.2) ps vs.toList)(h:j9P rdf el (O len el.dflt) [] ps=D (xs,u))(hd:σ.bx d = .free) :
  ∃v' w' S' γ',(Ó t len vs).run P w = .ok v' w'/\Rel N np S0 w0 refs (σ.upd (u++[(d,.live (.lst ti.elem el xs M))])) a w' S' γ'/\
   j0m S' w' γ' (σ.upd (u++[(d,.live (.lst ti.elem el xs M))])).bx (.one (.ol d)) v':=by
 obtain⟨hdd,hpos,te,hte,htea⟩:=j67 hT ht hty;have hsz:=jb7 hT hte htea;obtain⟨hf,hrest⟩:=jiv hrdf hR.box hpos ps vs.toList hps h .nil;obtain⟨S1,hR1,hst1,hfz,hsame⟩:=j4t u σ S hR hf;obtain⟨z,hz,hzc⟩:=jdZ hT hte w htea;have hzs:z.cells.size=el.size:=jho hzc;obtain⟨css0,hall0,hc0⟩:=juo (S:=S1) (w:=w) hzc len hpos;obtain⟨cells',css',hfill,hall,hcells⟩:=hrest S1 hst1 hfz css0 _ hall0 hc0
 have hxl:xs.length=len:=by
  have key:∀(ps:F (H×Cel)){xs xs':F el.den}{u u':Ups},j9P rdf el xs u ps=D (xs',u')->xs'.length=xs.length:=by intro ps;induction ps<;>grind[j9P]
  grind
 have hcs:cells'.size=len*el.size:=by grind[All2.flatten_length,Rep.length]
 have hzero:(if len*ti.size=0 then (Pure.pure #[]:Sem (Î G)) else (do pure (<-zeroValue ti.elem).cells))=(if len*ti.size=0 then Pure.pure #[] else (do pure (<-zeroValue ti.elem).cells)):=rfl
 have hrun:(Ó t len vs).run P w = .ok (.slice (D ⟨w.heap.size,0,U⟩) len len) (w.alloc (.cells cells' ti.elem)):=by
  have hno:¬len*te.size>2^24:=by rw[<-hsz];omega
  simp only[Ó,Á,run_underlying hdd,I,j2F hT hte,Sem.run_ite,if_neg hno];by_cases h0:len*te.size=0
  .have hl0:len=0:=by grind[Nat.mul_eq_zero]
   subst hl0;have hfill0:Ü (λi=>D (i*te.size,te.size)) ((æ (0*te.size)).map (λi=>(#[]:Î G)[i%(#[]:Î G).size]!)) vs.toList=D cells':=by grind
   simp_all[newRow]
  .have hfill1:Ü (λi=>D (i*te.size,te.size)) ((æ (len*te.size)).map (λi=>z.cells[i%z.cells.size]!)) vs.toList=D cells':=by
    simp_all
   simp_all[newRow]
 rw[j6S];have hst:=j8z hR1 (.cells cells' ti.elem)
 obtain⟨hRn,hcn⟩:=jfW hR1 (hsame.free hd) (hm:=jn0 hT ht) (w':=w.alloc (.cells cells' ti.elem)) (S':=S1) (v':= .slice (D ⟨w.heap.size,0,U⟩) len len) (e:=ti.elem) (el:=el) (zs:=xs) (frz:=M) (css:=css')
  hst (λg hg _=>heap_alloc_old w _ hg) smp_ (λg hg=>by
   simp[blk]at hg;subst hg;exact⟨.inl hR.grow,λk b hk hg'=>by have:=j4O (hR1.box k b hk) hg';omega,smp_⟩) (λg o hs=> .inl hs) rfl rfl rfl
  (by
   rw[hxl,<-hcells];have hle:len<=maxLen:=by have:len*1<=len*el.size:=Nat.mul_le_mul_left _ hpos;simp only[maxLen];omega
   grind[World.ownsRow_lit]) (hall.mono (λx c hx=>Rep.keep hst _ _ _ hx)) (λg hg=>by
   simp[blk]at hg;subst hg;exact⟨λ_ o=>jdt hR1 o,smp_⟩) (λg hg=>by simp[blk]at hg;subst hg;exact hR1.kw_new (Ì _))
 exact⟨_,_,S1,_,hrun,hRn,hcn⟩
theorem jxK{P:À}{E:Env}(hT:j1K P E.T)(hR:Rel N np S0 w0 refs σ a w S γ){t:Ç}{ti:TyI}(ht:E.T t=D ti)
  {el:Ty}(hty:ti.ty=D (.list el)){n len:H}{fr:ä}{ps:F (H×Cel)}{vs:Î (H×G)}{b:ä}{s:Slot}{u:Ups}(hn:fr=Ã->σ.bx n = .free)
  (hps:All2 (λp v=>p.1=v.1/\j0m S w γ σ.bx p.2 v.2) ps vs.toList)(h:one1 fr ti.elem el n len ps=D (.val b s u)) :
  b=Ã/\s = .one (.one (.ol n))/\∃v' w' γ',(Ó t len vs).run P w = .ok v' w'/\Rel N np S0 w0 refs (σ.upd u) a w' S γ'/\j0m S w' γ' (σ.upd u).bx (.one (.ol n)) v':=by
 unfold one1 at h;split at h
 case h_2=>simp at h
 rename_i c;split at h
 case h_2=>simp at h
 rename_i ls hls;split at h
 case isFalse=>simp at h
 rename_i hc;obtain⟨rfl,hln,hmax,hfr,hnm⟩:=hc;simp only[j5,Act.val.injEq]at h;obtain⟨rfl,rfl,rfl⟩:=h;refine⟨rfl,rfl,?_⟩
 obtain⟨⟨j,z⟩,hvs⟩:∃p,vs.toList=[p]:=by
  match hv:vs.toList,hps with
  |[p],_=>exact⟨p,rfl⟩
 rw[hvs]at hps;obtain⟨⟨hj,hcz⟩,_⟩:=hps;simp only at hj hcz;subst hj;obtain⟨ha,h1⟩:=ja5 hls hcz;have hzl:z.cells.toList.length=el.size:=by rw[<-ha.length,hln]
 have hzs:z.cells.size=el.size:=by simpa using hzl
 obtain⟨hdd,hpos,te,hte,htea⟩:=j67 hT ht hty;have hsz:=jb7 hT hte htea;obtain⟨z0,hz0,hzc⟩:=jdZ hT hte w htea;have hz0s:z0.cells.size=el.size:=jho hzc;have hfill:Ü (λi=>D (i*te.size,te.size)) ((æ (1*te.size)).map (λi=>z0.cells[i%z0.cells.size]!)) vs.toList=D z.cells:=by have hfo:=jn5 ((æ (1*te.size)).map (λi=>z0.cells[i%z0.cells.size]!)) 0 z.cells sqo_;grind[Ü,ý,Ë]
 have hrun:(Ó t 1 vs).run P w = .ok (.slice (D ⟨w.heap.size,0,U⟩) 1 1) (w.alloc (.cells z.cells ti.elem)):=by
  have hno:¬1*te.size>2^24:=by rw[<-hsz];omega
  have h0:¬1*te.size=0:=omg_;simp only[Ó,Á,run_underlying hdd,I,j2F hT hte,Sem.run_ite,if_neg hno]
  simp_all[newRow]
 obtain⟨hRn,_⟩:=jn3 hR (hn hfr) (o:= .cells z.cells ti.elem) (b:= .row ti.elem el 1 ls) (v:= .slice (D ⟨w.heap.size,0,U⟩) 1 1) (λg hg=>by grind[blk]) (λhle=>
  ⟨hnm,⟨z.cells.toList,by grind[j0p,World.ownsRow_lit,maxLen],ha.mono (λx u hx=>j08.keep (j8z hR _) hle hx),h1⟩,
   λg hg o=>by rw[j0p]at hg;simp[blk]at hg;subst hg;exact jdt hR o⟩)
 refine⟨_,_,_,hrun,hRn,⟨by show (σ.setB n _).bx n≠_;rw[j0y];simp,rfl,λb' hb'=>(j0p _ _ _).symm⟩,λ_=>rfl⟩
theorem jix{rd:H->BS}(hrd:RdF np σ rd):∀{ls:F Leaf}{xs:F TV}{u:Ups}{zs:F G},tvs rd ls=D (xs,u)->All2 (j08 S w γ σ.bx) ls zs->
  FrzL np σ.bx u/\∀S' w',j3m S w S' w'->Froz σ.bx γ S' w' u->All2 (λx z=>Rep S' w' x.t x.v [z]) xs zs
 |[],xs,u,zs,h,ha=>by
  simp[tvs]at h;obtain⟨rfl,rfl⟩:=h;cases zs with
  |nil=>exact⟨.nil,λ_ _ _ _=>trivial⟩
  |cons _ _=>exact ha.elim
 |l::ls,xs,u,zs,h,ha=>by
  cases zs with
  |nil=>exact ha.elim
  |cons z zs=>
   simp only[tvs]at h;split at h
   .rename_i xs1 u1 h1;obtain⟨f1,p1⟩:=jix hrd h1 ha.2;split at h
    .rename_i t v;simp only[j5,j9]at h;obtain⟨rfl,rfl⟩:=h;exact⟨f1,λS' w' hk hf=>⟨Rep.keep hk _ _ _ ha.1,p1 S' w' hk hf⟩⟩
    .rename_i k;split at h
     .rename_i e t es f hk;simp only[j5,j9]at h;obtain⟨rfl,rfl⟩:=h;have hk':=hrd.ok.live hk;refine⟨λx hx=>?_,λS' w' hst hf=>⟨?_,p1 S' w' hst (λx hx=>hf x (Í _ hx))⟩⟩
      .rcases List.mem_cons.1 hx with rfl|hx
       .exact⟨hrd.par hk,e,t,es,f,hk',rfl,hrd.ok.nm hk⟩
       .exact f1 x hx
      .have:=hf (k,_) (ð ..) e t es f hk';rw[ha.1.2.2 _ hk'];exact this
     .simp at h
    .simp at h
   .simp at h
theorem jq1(hR:Rel N np S0 w0 refs σ a w S γ){k:H}{ls:F Leaf}{f:ä}(hk:σ.bx k = .live (.cell ls f))(hp:parK np k=M){xs:F TV}
  (hx:∀g cur e,γ k = .pointer (D ⟨g,0,U⟩)->w.heap[g]? = D (.cells cur e (0,0))->All2 (j08 S w γ σ.bx) ls (cur.toList.take ls.length)->All2 (λx z=>Rep S w x.t x.v [z]) xs (cur.toList.take ls.length)) :
  ∃S' g,Rel N np S0 w0 refs (σ.setB k (.live (.cell (xs.map TV.leaf) Ã))) a w S' γ/\j3m S w S' w/\γ k = .pointer (D ⟨g,0,U⟩)/\j82 S' w (.p xs) (.pointer (D ⟨g,0,U⟩)):=by
 obtain⟨g,cur,e,hg,hh,hcur,h1,hS1,hS2⟩:=hR.box k _ hk;have hxs:=hx g cur e hg hh hcur;let S':j09:=λg' o=>S g' o\/(g'=g/\o<cur.size)
 have hst:j3m S w S' w:=λg o h=>⟨.inl h,rfl⟩
 have hle:BxLe γ σ.bx γ (σ.setB k (.live (.cell (xs.map TV.leaf) Ã))).bx:=by
  intro k' hk';by_cases hkk:k'=k
  .subst hkk;rw[j0y];exact⟨smp_,rfl,λb hb=>by simp at hb;subst hb;exact⟨_,hk,trivial⟩⟩
  .rw[j07 σ _ hkk];exact⟨hk',rfl,λb hb=>⟨b,hb,.refl b⟩⟩
 have live':∀k' b,(σ.setB k (.live (.cell (xs.map TV.leaf) Ã))).bx k' = .live b->∃b',σ.bx k' = .live b':=by grind[j07]
 refine⟨S',g,Rel.step (bx':=(σ.setB k (.live (.cell (xs.map TV.leaf) Ã))).bx) hR hst hle ?_ ?_ ?_ ?_ ?_ hR.below hR.grow hR.os hR.tape hR.output (λg _ _ h=>⟨rfl,λk' b' hb'=>by grind⟩),hst,hg,?_⟩
 .intro k' b hb;by_cases hkk:k'=k
  .subst hkk;rw[j0y]at hb;simp at hb;subst hb;have hl:=jjH hcur hxs;exact⟨g,cur,e,hg,hh,by rw[List.length_map,hl];exact j92 (hxs.mono (λx z hz=>Rep.keep hst _ _ _ hz)),by simp_all,smp_,λ_ o ho=> .inr ⟨rfl,ho⟩⟩
  .rw[j07 σ _ hkk]at hb;refine j2i.keep hst hle rfl (λg' hg'=>⟨rfl,λo=>⟨λhs=>?_,.inl⟩⟩) (hR.box k' b hb);rcases hs with hs|hs
   .exact hs
   .exact absurd (by rw[hg,hs.1];rfl) (hR.apart k' k b _ g' hkk hb hk hg')
 .intro k' b g' hb hg';obtain⟨b',hb'⟩:=live' k' b hb;exact hR.own k' b' g' hb' hg'
 .intro k1 k2 b1 b2 g' hne h1 h2 hg';obtain⟨b1',h1'⟩:=live' k1 b1 h1;obtain⟨b2',h2'⟩:=live' k2 b2 h2;exact hR.apart k1 k2 b1' b2' g' hne h1' h2' hg'
 .intro g' o hs;rcases hs with hs|hs
  .exact hR.new g' o hs
  .rcases hR.own k _ g hk (by rw[hg];rfl) with h|h;all_goals simp_all
 .intro g' o hs;rcases hs with hs|hs
  .exact hR.here g' o hs
  grind
 .refine⟨g,0,cur.toList.take ls.length,rfl,hxs.mono (λx z hz=>Rep.keep hst _ _ _ hz),λj v hv=>?_⟩;grind[cell_of_row]
theorem joA{rd:H->BS}(hrd:RdF np σ rd):∀{cs:F Cel}{l:F Cap}{u:Ups}{zs:F G},jod rd cs=D (l,u)->Rel N np S0 w0 refs σ a w S γ->All2 (j0m S w γ σ.bx) cs zs->
  ∃S',Rel N np S0 w0 refs (σ.upd u) a w S' γ/\j3m S w S' w/\All2 (j82 S' w) l zs/\(∀k e t xs f,σ.bx k = .live (.lst e t xs f)->∃f',(σ.upd u).bx k = .live (.lst e t xs f'))/\BxLe γ σ.bx γ (σ.upd u).bx/\∀k,σ.bx k = .free->(σ.upd u).bx k = .free
 |[],l,u,zs,h,hR,ha=>by
  simp[jod]at h;obtain⟨rfl,rfl⟩:=h;cases zs with
  |nil=>exact⟨S,hR,.refl S w,trivial,λk e t xs f h=>⟨f,h⟩,.refl _ _,λ_ h=>h⟩
  |cons _ _=>exact ha.elim
 |c::r,l,u,zs,h,hR,ha=>by
  cases zs with
  |nil=>exact ha.elim
  |cons z zs=>
   simp only[jod]at h;split at h
   .rename_i l1 u1 h1;obtain⟨S1,hR1,hst1,hc1,hl1,hle1,hfr1⟩:=joA hrd h1 hR ha.2;split at h
    .rename_i t v;split at h
     .rename_i hlf;simp only[j5,j9]at h;obtain⟨rfl,rfl⟩:=h;exact⟨S1,hR1,hst1,⟨⟨hlf,Rep.keep hst1 _ _ _ ha.1.1⟩,hc1⟩,hl1,hle1,hfr1⟩
     .simp at h
    .rename_i k;split at h
     .rename_i ls f hk;split at h
      .rename_i xs u2 h2;split at h
       .simp at h
       .rename_i hany;simp only[j5,j9]at h;obtain⟨rfl,rfl⟩:=h;have hkp:=hrd.par hk;have hk:=hrd.ok.live hk;have hany:(u1++u2).any (λy=>y.1==k)=false:=Bool.eq_false_iff.2 hany;rw[List.any_append,ê]at hany;obtain⟨g,cur,e,hg,hh,hcur,_⟩:=hR.box k _ hk;obtain⟨hf2,hp2⟩:=jix hrd h2 hcur;have hf2':FrzL np (σ.upd u1).bx u2:=by intro x hx;obtain⟨hpp,e',t',xs',f',hb',hx'⟩:=hf2 x hx;obtain⟨f2,h2⟩:=hl1 _ e' t' xs' f' hb';exact⟨hpp,e',t',xs',f2,h2,hx'⟩
        obtain⟨S2,hR2,hst2,hfz2,hsame2⟩:=j4t u2 (σ.upd u1) S1 hR1 hf2';have hfz2':Froz σ.bx γ S2 w u2:=by intro x hx e' t' xs' f' hb';obtain⟨f2,h2⟩:=hl1 _ e' t' xs' f' hb';exact hfz2 x hx e' t' xs' f2 h2
        have hk2:((σ.upd u1).upd u2).bx k = .live (.cell ls f):=by rw[j2H u2 _ hany.2,j2H u1 _ hany.1,hk]
        obtain⟨S3,g3,hR3,hst3,hg3,hcap⟩:=jq1 hR2 hk2 hkp (xs:=xs) (λg' cur' e' hg' hh' _=>by
         rw[hg]at hg';simp at hg';subst hg';rw[hh]at hh';simp at hh';obtain⟨rfl,_⟩:=hh';exact hp2 S2 w (hst1.trans hst2) hfz2')
        have hz:z=γ k:=by obtain⟨g4,h4,h5⟩:=ha.1.1.2.2 _ hk;rw[h5,h4]
        rw[j6S,j6S];refine⟨S3,hR3,(hst1.trans hst2).trans hst3,⟨by rw[hz,hg3];exact hcap,hc1.mono (λx z hx=>j82.keep (hst2.trans hst3) hx)⟩,λk' e' t' xs' f' hb'=>?_,?_,λk' hk'=>?_⟩
        .obtain⟨f2,h2⟩:=hl1 _ e' t' xs' f' hb';obtain⟨f3,h3⟩:=hsame2.lst h2;have hkk:k'≠k:=by rintro rfl;rw[hk2]at h3;simp at h3
         exact⟨f3,by show (((σ.upd u1).upd u2).setB k _).bx k'=_;rw[j07 _ _ hkk];exact h3⟩
        .have hle2:BxLe γ (σ.upd u1).bx γ ((σ.upd u1).upd u2).bx:=hsame2.le
         have hle3:BxLe γ ((σ.upd u1).upd u2).bx γ ((((σ.upd u1).upd u2)).setB k (.live (.cell (xs.map TV.leaf) Ã))).bx:=by
          intro k' hk';by_cases hkk:k'=k
          .subst hkk;rw[j0y];exact⟨smp_,rfl,λb hb=>by simp at hb;subst hb;exact⟨_,hk2,trivial⟩⟩
          .rw[j07 _ _ hkk];exact⟨hk',rfl,λb hb=>⟨b,hb,.refl b⟩⟩
         have tr:∀{b1 b2 b3:H->BS},BxLe γ b1 γ b2->BxLe γ b2 γ b3->BxLe γ b1 γ b3:=by intro b1 b2 b3 h12 h23 k' hk';obtain⟨q1,q2,q3⟩:=h12 k' hk';obtain⟨r1,r2,r3⟩:=h23 k' q1;refine⟨r1,rfl,λb hb=>?_⟩;obtain⟨b',hb',hs'⟩:=r3 b hb;obtain⟨b'',hb'',hs''⟩:=q3 b' hb';refine⟨b'',hb'',?_⟩;exact hs''.trans hs'
         exact tr (tr hle1 hle2) hle3
        .have h3:=hsame2.free (hfr1 k' hk');have hkk:k'≠k:=by rintro rfl;rw[hk]at hk';simp at hk'
         show (((σ.upd u1).upd u2).setB k _).bx k'=_;rw[j07 _ _ hkk];exact h3
      .simp at h
     .simp at h
    .simp at h
   .simp at h
section
variable(S:j09)(w:É)
def joB(ls:F TV)(u:G):Prop:=
 ∃g cur e,u = .pointer (D ⟨g,0,U⟩)/\w.heap[g]? = D (.cells cur e (0,0))/\All2 (λx z=>Rep S w x.t x.v [z]) ls (cur.toList.take ls.length)/\∀o,¬S g o
def jjo(e:H)(x:TV)(u:G):Prop:=
 ∃(a:Ty)(xs:F a.den),x=⟨.list a,xs⟩/\jeZ S w e a xs u/\∀g,blk u=D g->∀o,¬S g o
def jbJ:Arg->G->Prop
 |.v x,u=>VRep S w x u
 |.ref ls,u=>joB S w ls u
 |.rl e x,u=>jjo S w e x u
 |.ip ls,u=>∃g o cs,u = .pointer (D ⟨g,o,U⟩)/\All2 (λx z=>Rep S w x.t x.v [z]) ls cs/\Lies S w g o cs
 |.clo f caps,u=>∃cv:Î G,u = .func (.func f) #[] cv/\All2 (j82 S w) caps cv.toList
 |.mv e x,u=>jjo S w e x u/\isM e=M
def j8L:Arg->G->Â H
 |.ref _,u=>blk u
 |.rl _ _,u=>blk u
 |.mv _ _,u=>blk u
 |_,_=>U
def j1O:F Arg->F G->F H
 |a::as,u::us=>(j8L a u).toList++j1O as us
 |_,_=>[]
def mvOf:F Arg->F G->F H
 |.mv _ _::as,u::us=>(blk u).toList++mvOf as us
 |_::as,_::us=>mvOf as us
 |_,_=>[]
def jxL:RL->G->Prop
 |.d x,z=>One z/\Rep S w x.t x.v [z]
 |.own e x,z=>jjo S w e x z
def jjz:RV->G->Prop
 |.v x,u=>VRep S w x u
 |.own e x,u=>jjo S w e x u
 |.box ls,u=>joB S w ls u
 |.hd _,u=>One u
 |.clo f caps,u=>∃cv:Î G,u = .func (.func f) #[] cv/\All2 (j82 S w) caps cv.toList
 |.so ls,u=>∃cs:Î G,u = .agg cs/\All2 (jxL S w) ls cs.toList
 |.raw _ _,_=>True
 |.vn x ns,u=>VRep S w x u/\∀cs,u = .agg cs->∀i∈ns,∀z,cs.toList[i]? = D z->z = .slice U 0 0
def jgj:RV->G->Â H
 |.v _,_=>U
 |.hd _,_=>U
 |.vn _ _,_=>U
 |.clo _ _,_=>U
 |.so _,_=>U
 |.raw _ _,_=>U
 |_,u=>blk u
def jcv:F RL->F G->F H
 |.own _ _::ls,z::zs=>(blk z).toList++jcv ls zs
 |.d _::ls,_::zs=>jcv ls zs
 |_,_=>[]
def j93:RV->G->F H
 |.so ls,u=>jcv ls u.cells.toList
 |r,u=>(jgj r u).toList
def j7U:F RV->F G->F H
 |r::rs,u::us=>j93 r u++j7U rs us
 |_,_=>[]
def j68:F Arg->F G->F Out->Prop
 |[],[],[]=>True
 |.ref _::as,u::us,.ref ys::os=>joB S w ys u/\j68 as us os
 |.rl e x::as,u::us,.rl y::os=>jjo S w e y u/\y.t=x.t/\j68 as us os
 |.v _::as,_::us,os=>j68 as us os
 |.ip _::as,_::us,os=>j68 as us os
 |.clo _ _::as,_::us,os=>j68 as us os
 |.mv _ _::as,_::us,os=>j68 as us os
 |_,_,_=>False
end
def j7f(vs:F G):Value:=match vs with
 |[v]=>v
 |vs=> .tuple vs.toArray
def jjJ:F Arg->F G->Â G
 |.ref _::_,u::_=>D u
 |.rl _ _::_,u::_=>D u
 |_::as,_::us=>jjJ as us
 |_,_=>U
def emp:St:=⟨λ_=> .one (.one .dead),λ_=> .free⟩
def jAr(h0:H)(S:j09)(w:É)(ns:F H)(s:Snap)(v:G):Prop:=
 ∃γ zs,v=j7f zs/\All2 (j0m S w γ (emp.upd (rawU ns s)).bx) (rawC ns s) zs/\(∀k b,(emp.upd (rawU ns s)).bx k = .live b->j2i S w γ (emp.upd (rawU ns s)).bx k b)/\
  (∀k b g,(emp.upd (rawU ns s)).bx k = .live b->blk (γ k)=D g->h0<=g)/\
  ∀k k' b b' g,k≠k'->(emp.upd (rawU ns s)).bx k = .live b->(emp.upd (rawU ns s)).bx k' = .live b'->blk (γ k)=D g->blk (γ k')≠D g
structure jxM(w:É)(S:j09)(args:F Arg)(vals:F G)(ret:Ret)(v:G)(w':É)(S':j09)(vs:F G):Prop where
 val:v=j7f vs
 rep:All2 (jjz S' w') ret.vals vs
 fresh:∀g∈j7U ret.vals vs,w.heap.size<=g\/g∈mvOf args vals
 apart:(j7U ret.vals vs).Nodup
 outs:j68 S' w' args vals ret.outs
 stays:j3m S w S' w'
 new:∀g o,S' g o->S g o\/w.heap.size<=g\/g∈mvOf args vals
 here:∀g o,S' g o->g<w'.heap.size
 below:∀g,g<w.heap.size->g∉j1O args vals->w'.heap[g]? = w.heap[g]?
 grow:w.heap.size<=w'.heap.size
 os:w'.os=w.os
 tape:w'.tape=w.tape
 output:w'.output=w.output
 raw:∀ns s,ret.vals=[.raw ns s]->jAr w.heap.size S' w' ns s v
 head:∀m,ret.vals=[.hd m]->∃ad len cap,jjJ args vals=D (.slice ad len cap)/\m<=len/\vs=[.slice ad m cap]
def jxN(P:À)(f:H)(args:F Arg)(K:Ret->Prop):Prop:=
 ∀(w:É)(S:j09)(vals:F G),All2 (jbJ S w) args vals->(j1O args vals).Nodup->(∀g o,S g o->g<w.heap.size)->
  Calls P f vals.toArray w λe w'=>∃ret,K ret/\∃v S' vs,e = .returned v/\jxM w S args vals ret v w' S' vs
def Fun(P:À)(f:H):Prop:=
 ∃ fn, P.funcs[f]? = D fn ∧ fn.body.isNone = M ∧ (fn.name == "runtime.NumGoroutine") = M
def FnOK(P:À)(f:H)(c:F Arg->(R:Type)->(Ret->Â R)->Â R):Prop:=
 ∀(args:F Arg)(R:Type)(k:Ret->Â R)(r:R),c args R k=D r->Fun P f/\jxN P f args λret=>k ret=D r
def j7R(P:À)(C:H->F Arg->(R:Type)->(Ret->Â R)->Â R):Prop:=∀f,FnOK P f (C f)
theorem jbf{S':j09}{w':É}:∀(t:Ty)(v:t.den)(cs:F G),t.flat=Ã->Rep S w t v cs->Rep S' w' t v cs
 |.int _,_,_,_,h=>h
 |.bool,_,_,_,h=>h
 |.str,_,_,_,h=>h
 |.unit,_,_,_,h=>h
 |.wrap a,v,cs,hf,h=>jbf a v cs hf h
 |.pair a b,_,_,hf,⟨c1,c2,e,h1,h2⟩=>by
  simp only[Ty.flat,J]at hf;exact⟨c1,c2,e,jbf a _ _ hf.1 h1,jbf b _ _ hf.2 h2⟩
 |.list _,_,_,hf,_=>by grind[Ty.flat]
 |.arr _ a,_,_,hf,⟨hn,css,ha,e⟩=>⟨hn,css,ha.mono (λx c hx=>jbf a x c hf hx),e⟩
def j8X(bx:H->BS)(γ:H->G):F Arg->F G->F Bk->Prop
 |[],[],[]=>True
 |.ref ls::as,u::us,.ref k::fs=>u=γ k/\(∃ls',bx k = .live (.cell ls' M))/\j8X bx γ as us fs
 |.rl e x::as,u::us,.rl k e' t::fs=>e=e'/\u=γ k/\(∃xs,bx k = .live (.lst e t xs M)/\x=⟨.list t,xs⟩)/\j8X bx γ as us fs
 |.v _::as,_::us,fs=>j8X bx γ as us fs
 |.ip _::as,_::us,fs=>j8X bx γ as us fs
 |.clo _ _::as,_::us,fs=>j8X bx γ as us fs
 |.mv e x::as,u::us,.mv k e' t::fs=>e=e'/\u=γ k/\(∃xs,bx k = .live (.lst e t xs M)/\x=⟨.list t,xs⟩)/\j8X bx γ as us fs
 |_,_,_=>False
theorem jup{rd rdf:H->BS}(hR:Rel N np S0 w0 refs σ a w S γ)(hrd:RdR σ rd)(hrdf:RdF np σ rdf){t:Â TyI}{mv rl:ä}{c:Cel}{arg:Arg}{u:Ups}{f:Â Bk}{z:G}
  (h:joe rd rdf t mv rl c=D (arg,u,f))(hc:j0m S w γ σ.bx c z) :
  FrzL np σ.bx u/\j8X σ.bx γ [arg] [z] f.toList/\∀S',j3m S w S' w->Froz σ.bx γ S' w u->(∀k b,f.toList.any (λy=>y.name==k)=Ã->σ.bx k = .live b->∀g,blk (γ k)=D g->∀o,¬S' g o)->jbJ S' w arg z:=by
 unfold joe at h;split at h
 .rename_i k;split at h
  .rename_i ls hk;split at h
   .rename_i xs u1 h1;simp only[j5,j9]at h;obtain⟨rfl,rfl,rfl⟩:=h;have hk:=hrd.live hk;obtain⟨g,hg,hz⟩:=hc.1.2.2 _ hk;obtain⟨g',cur,e,hg',hh,hcur,_,_,hS⟩:=hR.box k _ hk;rw[hg]at hg';simp at hg';subst hg';obtain⟨hf,hp⟩:=jix hrdf h1 hcur;refine⟨hf,trivial,λS' hst hfz _=>⟨g,0,cur.toList.take ls.length,hz,hp S' w hst hfz,λj v hv=>?_⟩⟩;have hv:cur.toList[j]? = D v:=by grind
    have hj:j<cur.size:=by grind
    rw[Nat.zero_add];refine⟨(hst _ _ (hS rfl j hj)).1,?_⟩;grind[cell_of_row]
   .simp at h
  .rename_i ls hk;split at h
   .rename_i xs u1 h1;simp only[j5,j9]at h;obtain⟨rfl,rfl,rfl⟩:=h;have hk:=hrd.live hk;obtain⟨g,hg,hz⟩:=hc.1.2.2 _ hk;obtain⟨g',cur,e,hg',hh,hcur,_⟩:=hR.box k _ hk;rw[hg]at hg';simp at hg';subst hg';obtain⟨hf,hp⟩:=jix hrdf h1 hcur;refine⟨hf,⟨hz.trans hg.symm,⟨ls,hk⟩,trivial⟩,λS' hst hfz hn=>⟨g,cur,e,hz,hh,by grind[jjH],?_⟩⟩;exact hn k _ (by simp[Bk.name]) hk g (by rw[hg];rfl)
   .simp at h
  .simp at h
 .simp only[j5,j9]at h;obtain⟨rfl,rfl,rfl⟩:=h;refine⟨.nil,trivial,λS' hst _ _=>?_⟩;obtain⟨g,o,cs,hz,ha,hl⟩:=hc.1;exact⟨g,o,cs,hz,ha.mono (λx z hx=>Rep.keep hst _ _ _ hx),hl.keep hst⟩
 .simp only[j5,j9]at h;obtain⟨rfl,rfl,rfl⟩:=h;refine⟨.nil,trivial,λS' hst _ _=>?_⟩;obtain⟨cv,hz,ha⟩:=hc.1;exact⟨cv,hz,ha.mono (λx z hx=>j82.keep hst hx)⟩
 .rename_i k;split at h
  .cases mv with
   |true=>
    rw[j6]at h;split at h
    .rename_i e t xs hk;simp only[j5,j9]at h;obtain⟨rfl,rfl,rfl⟩:=h;have hnm:=hrdf.ok.nm hk;have hk:=hrdf.ok.live hk;have hz:=hc.1.2.2 _ hk;refine⟨.nil,⟨rfl,hz,⟨xs,hk,rfl⟩,trivial⟩,λS' hst _ hn=>?_⟩;have hbx:=(hR.box k _ hk).1;exact⟨⟨t,xs,rfl,by rw[hz];exact hbx.keep hst (λ_ _=>rfl),λg hg=>hn k _ (by simp[Bk.name]) hk g (by rw[<-hz];exact hg)⟩,hnm⟩
    .simp at h
   |false=>
   rw[j7]at h;split at h
   .rename_i e t xs hk;simp only[j5,j9]at h;obtain⟨rfl,rfl,rfl⟩:=h;have hk:=hrd.live hk;have hz:=hc.1.2.2 _ hk;refine⟨.nil,⟨rfl,hz,⟨xs,hk,rfl⟩,trivial⟩,λS' hst _ hn=>?_⟩;have hbx:=(hR.box k _ hk).1;exact⟨t,xs,rfl,by rw[hz];exact hbx.keep hst (λ_ _=>rfl),λg hg=>hn k _ (by simp[Bk.name]) hk g (by rw[<-hz];exact hg)⟩
   .simp at h
  .split at h
   .rename_i e t xs fz hk;simp only[j5,j9]at h;obtain⟨rfl,rfl,rfl⟩:=h;have hkp:=hrdf.par hk;have hnm:=hrdf.ok.nm hk;have hk:=hrdf.ok.live hk;have hz:=hc.1.2.2 _ hk;refine⟨λx hx=>?_,trivial,λS' hst hfz _=>?_⟩
    .simp_all
    .have h1:One z:=hc.2 smp_;have:=hfz (k,_) (List.mem_singleton.2 rfl) e t xs fz hk;rw[<-hz]at this;exact⟨by grind[jdr],by simp[jdn,Ty.agg],λ_=>h1⟩
   .simp at h
 .split at h
  .split at h
   .rename_i ty hty;split at h
    .rename_i x u1 hx;simp only[j5,j9]at h;obtain⟨rfl,rfl,rfl⟩:=h;obtain⟨hf,hp,_⟩:=jds hrdf hR.box hx hc;exact⟨hf,trivial,λS' hst hfz _=>hp S' w hst hfz⟩
    .simp at h
   .simp at h
  .simp at h
theorem j8X.app{bx:H->BS}{arg:Arg}{z:G}{f:F Bk}:j8X bx γ [arg] [z] f->∀{as:F Arg}{us:F G}{fs:F Bk},j8X bx γ as us fs->j8X bx γ (arg::as) (z::us) (f++fs):=by
 intro h as us fs h';cases arg with
 |v x=>cases f with|nil=>exact h'|cons _ _=>exact h.elim
 |ip x=>cases f with|nil=>exact h'|cons _ _=>exact h.elim
 |clo x y=>cases f with|nil=>exact h'|cons _ _=>exact h.elim
 |ref ls=>
  match f,h with
  |[.ref k],⟨h1,h2,_⟩=>exact⟨h1,h2,h'⟩
  |.ref k::_::_,⟨_,_,h3⟩=>exact h3.elim
 |rl e x=>
  match f,h with
  |[.rl k e' t],⟨h0,h1,h2,_⟩=>exact⟨h0,h1,h2,h'⟩
  |.rl k e' t::_::_,⟨_,_,_,h3⟩=>exact h3.elim
 |mv e x=>
  match f,h with
  |[.mv k e' t],⟨h0,h1,h2,_⟩=>exact⟨h0,h1,h2,h'⟩
  |.mv k e' t::_::_,⟨_,_,_,h3⟩=>exact h3.elim
theorem jml{rd rdf:H->BS}(hR:Rel N np S0 w0 refs σ a w S γ)(hrd:RdR σ rd)(hrdf:RdF np σ rdf){T:H->Â TyI}{mv:ä}:∀{cs:F Cel}{ts:F H}{ms:F ä}{as:F Arg}{u:Ups}{fs:F Bk}{zs:F G},
  jeF rd rdf T mv ts ms cs=D (as,u,fs)->All2 (j0m S w γ σ.bx) cs zs->
  FrzL np σ.bx u/\j8X σ.bx γ as zs fs/\∀S',j3m S w S' w->Froz σ.bx γ S' w u->(∀k b,fs.any (λy=>y.name==k)=Ã->σ.bx k = .live b->∀g,blk (γ k)=D g->∀o,¬S' g o)->All2 (jbJ S' w) as zs
 |[],ts,ms,as,u,fs,zs,h,ha=>by
  simp[jeF]at h;obtain⟨rfl,rfl,rfl⟩:=h;cases zs with
  |nil=>exact⟨.nil,trivial,λ_ _ _ _=>trivial⟩
  |cons _ _=>exact ha.elim
 |c::cs,ts,ms,as,u,fs,zs,h,ha=>by
  cases zs with
  |nil=>exact ha.elim
  |cons z zs=>
   simp only[jeF]at h;split at h
   .rename_i a1 u1 f1 h1;split at h
    .rename_i as' us' fs' h2;simp only[j5,j9]at h;obtain⟨rfl,rfl,rfl⟩:=h;obtain⟨p1,q1,r1⟩:=jup hR hrd hrdf h1 ha.1;obtain⟨p2,q2,r2⟩:=jml hR hrd hrdf h2 ha.2;refine⟨FrzL.app.2 ⟨p1,p2⟩,q1.app q2,λS' hst hfz hn=>?_⟩;obtain⟨z1,z2⟩:=Froz.app.1 hfz;exact⟨r1 S' hst z1 (λk b hk=>hn k b (by rw[List.any_append,hk];rfl)),r2 S' hst z2 (λk b hk=>hn k b (by rw[List.any_append,hk];simp))⟩
    .simp at h
   .simp at h
theorem juq:∀{cs:F Cap}{zs:F G},All2 (j82 S w) cs zs->All2 (jbJ S w) (cs.map jeG) zs
 |[],[],_=>trivial
 |c::cs,z::zs,h=>by
  refine⟨?_,juq h.2⟩;cases c with
  |v x=>obtain⟨hl,hr⟩:=h.1;have h1:One z:=Rep.one _ _ _ hr z smp_;refine⟨by rw[jdr h1];exact hr,λhm=>?_,λ_=>h1⟩;exfalso;obtain⟨t,v⟩:=x;cases t<;>simp_all[Ty.leafy,jdn,Ty.agg]
  |p ls=>exact h.1
 |[],_::_,h=>h.elim
 |_::_,[],h=>h.elim
theorem jrA:∀(cs:F Cap)(zs:F G),j1O (cs.map jeG) zs=[]
 |[],_=>by cases ‹F G› <;> rfl
 |c::cs,[]=>rfl
 |c::cs,z::zs=>by cases c<;>simp[j1O,j8L,jeG,jrA cs zs]
theorem jmm:∀(as:F Arg)(us:F G)(bs:F Arg)(vs:F G),as.length=us.length->j1O (as++bs) (us++vs)=j1O as us++j1O bs vs
 |[],[],bs,vs,_=>rfl
 |a::as,u::us,bs,vs,h=>by simp[j1O,jmm as us bs vs (by simpa using h)]
 |[],_::_,_,_,h=>by simp at h
 |_::_,[],_,_,h=>by simp at h
theorem j8M{bx:H->BS}:∀{as:F Arg}{us:F G}{fs:F Bk},j8X bx γ as us fs->j1O as us=fs.filterMap λf=>blk (γ f.name)
 |[],[],[],_=>rfl
 |.ref ls::as,u::us,.ref k::fs,⟨h1,_,h3⟩=>by
  simp only[j1O,j8L,Ý,Bk.name,h1,j8M h3];cases blk (γ k)<;>rfl
 |.rl e x::as,u::us,.rl k e' t::fs,⟨_,h1,_,h3⟩=>by
  simp only[j1O,j8L,Ý,Bk.name,h1,j8M h3];cases blk (γ k)<;>rfl
 |.mv e x::as,u::us,.mv k e' t::fs,⟨_,h1,_,h3⟩=>by
  simp only[j1O,j8L,Ý,Bk.name,h1,j8M h3];cases blk (γ k)<;>rfl
 |.v _::as,_::us,fs,h=>by simp[j1O,j8L,j8M (as:=as) (us:=us) (fs:=fs) h]
 |.ip _::as,_::us,fs,h=>by simp[j1O,j8L,j8M (as:=as) (us:=us) (fs:=fs) h]
 |.clo _ _::as,_::us,fs,h=>by simp[j1O,j8L,j8M (as:=as) (us:=us) (fs:=fs) h]
theorem jz7:∀{as:F Arg}{us:F G}{g:H},g∈mvOf as us->g∈j1O as us
 |[],_,g,h=>by simp[mvOf]at h
 |_::_,[],g,h=>by rename_i a _;cases a<;>simp[mvOf]at h
 |a::as,u::us,g,h=>by
  have ih:=jz7 (as:=as) (us:=us) (g:=g);cases a with
  |mv e x=>simp only[mvOf,j1O,j8L,ì]at h ⊢;exact h.imp id ih
  |_=>simp only[mvOf]at h;simp only[j1O,ì];exact .inr (ih h)
theorem jcw{bx:H->BS}:∀{as:F Arg}{us:F G}{fs:F Bk}{g:H},j8X bx γ as us fs->g∈mvOf as us->∃f∈fs,f.isMv=Ã/\blk (γ f.name)=D g
 |[],[],[],g,_,h=>by simp[mvOf]at h
 |.ref ls::as,u::us,.ref k::fs,g,⟨_,_,h3⟩,h=>by
  obtain⟨f,hf,h1⟩:=jcw (g:=g) h3 (by simpa only[mvOf]using h);exact⟨f,by simp[hf],h1⟩
 |.rl e x::as,u::us,.rl k e' t::fs,g,⟨_,_,_,h3⟩,h=>by
  obtain⟨f,hf,h1⟩:=jcw (g:=g) h3 (by simpa only[mvOf]using h);exact⟨f,by simp[hf],h1⟩
 |.mv e x::as,u::us,.mv k e' t::fs,g,⟨_,h1,_,h3⟩,h=>by
  simp only[mvOf,ì,Option.mem_toList]at h;rcases h with h|h
  .exact⟨.mv k e' t,smp_,rfl,by rw[<-h];show blk (γ k)=blk u;rw[h1]⟩
  .obtain⟨f,hf,h1⟩:=jcw (g:=g) h3 h;exact⟨f,by simp[hf],h1⟩
 |.v _::as,_::us,fs,g,hb,h=>jcw (as:=as) (us:=us) (fs:=fs) hb (by simpa only[mvOf]using h)
 |.ip _::as,_::us,fs,g,hb,h=>jcw (as:=as) (us:=us) (fs:=fs) hb (by simpa only[mvOf]using h)
 |.clo _ _::as,_::us,fs,g,hb,h=>jcw (as:=as) (us:=us) (fs:=fs) hb (by simpa only[mvOf]using h)
theorem jur{rd rdf:H->BS}(hrdf:RdF np σ rdf){t:Â TyI}{mv rl:ä}{c:Cel}{arg:Arg}{u:Ups}{f:Â Bk}(h:joe rd rdf t mv rl c=D (arg,u,f)):∀x∈f.toList,x.isMv=Ã->parK np x.name=false:=by
 intro x hx hm;unfold joe at h;split at h
 .grind[Bk.isMv]
 .simp_all
 .simp_all
 .split at h
  .cases mv with
   |true=>
    rw[j6]at h;split at h
    .rename_i hk;simp only[j5,j9]at h;obtain⟨_,_,rfl⟩:=h;simp at hx;subst hx;exact hrdf.par hk
    .simp at h
   |false=>grind[Bk.isMv]
  grind
 grind
theorem jmn{rd rdf:H->BS}(hrdf:RdF np σ rdf){T:H->Â TyI}{mv:ä}:∀{cs:F Cel}{ts:F H}{ms:F ä}{as:F Arg}{u:Ups}{fs:F Bk},
  jeF rd rdf T mv ts ms cs=D (as,u,fs)->∀x∈fs,x.isMv=Ã->parK np x.name=M
 |[],ts,ms,as,u,fs,h,x,hx,hm=>by
  simp[jeF]at h;obtain⟨rfl,rfl,rfl⟩:=h;simp at hx
 |c::cs,ts,ms,as,u,fs,h,x,hx,hm=>by
  simp only[jeF]at h;split at h
  .rename_i a1 u1 f1 h1;split at h
   .rename_i as' us' fs' h2;simp only[j5,j9]at h;obtain⟨rfl,rfl,rfl⟩:=h;rcases List.mem_append.1 hx with hx|hx
    .exact jur hrdf h1 x hx hm
    .exact jmn hrdf h2 x hx hm
   .simp at h
  .simp at h
theorem jdd{bx:H->BS}:∀{as:F Arg}{us:F G}{fs:F Bk},j8X bx γ as us fs->∀f∈fs,∃b,bx f.name = .live b
 |[],[],[],_,f,hf=>by simp at hf
 |.ref ls::as,u::us,.ref k::fs,⟨_,⟨ls',h2⟩,h3⟩,f,hf=>by
  rcases List.mem_cons.1 hf with rfl|hf
  .exact⟨_,h2⟩
  .exact jdd h3 f hf
 |.rl e x::as,u::us,.rl k e' t::fs,⟨_,_,⟨xs,h2,_⟩,h3⟩,f,hf=>by
  rcases List.mem_cons.1 hf with rfl|hf
  .exact⟨_,h2⟩
  .exact jdd h3 f hf
 |.mv e x::as,u::us,.mv k e' t::fs,⟨_,_,⟨xs,h2,_⟩,h3⟩,f,hf=>by
  rcases List.mem_cons.1 hf with rfl|hf
  .exact⟨_,h2⟩
  .exact jdd h3 f hf
 |.v _::as,_::us,fs,h,f,hf=>jdd (as:=as) (us:=us) (fs:=fs) h f hf
 |.ip _::as,_::us,fs,h,f,hf=>jdd (as:=as) (us:=us) (fs:=fs) h f hf
 |.clo _ _::as,_::us,fs,h,f,hf=>jdd (as:=as) (us:=us) (fs:=fs) h f hf
theorem ja7:∀{l:F H},jbG l=Ã->l.Nodup
 |[],_=>List.nodup_nil
 |x::l,h=>by
  simp only[jbG,J,Bool.not_eq_true',List.contains_eq_mem,decide_eq_false_iff_not]at h;exact List.nodup_cons.2 ⟨h.1,ja7 h.2⟩
theorem jiy(hR:Rel N np S0 w0 refs σ a w S γ):∀{l:F H},l.Nodup->(∀k∈l,∃b,σ.bx k = .live b)->(l.filterMap λk=>blk (γ k)).Nodup
 |[],_,_=>smp_
 |k::l,h,hl=>by
  obtain⟨h1,h2⟩:=List.nodup_cons.1 h;have ih:=jiy hR h2 (λk hk=>hl k (by simp[hk]));rw[Ý];cases hb:blk (γ k) with
  |none=>exact ih
  |some g=>refine List.nodup_cons.2 ⟨λhm=>?_,ih⟩;obtain⟨k',hk',hg'⟩:=List.mem_filterMap.1 hm;obtain⟨b,hb1⟩:=hl k smp_;obtain⟨b',hb2⟩:=hl k' (by simp[hk']);exact hR.apart k k' b b' g (by rintro rfl;exact h1 hk') hb1 hb2 hb hg'
theorem jmo:∀(u:Ups)(σ:St){k:H}{b:BS},(u.map (·.1)).Nodup->(k,b)∈u->(σ.upd u).bx k=b
 |[],_,_,_,_,h=>by simp at h
 |e::u,σ,k,b,hn,h=>by
  simp only[List.map_cons,List.nodup_cons]at hn;show ((σ.setB e.1 e.2).upd u).bx k=_;rcases List.mem_cons.1 h with h|h
  .subst h;rw[j2H u,j0y];simp only[ã,beq_iff_eq];intro x hx he;exact hn.1 (List.mem_map.2 ⟨x,hx,he⟩)
  .exact jmo u _ hn.2 h
theorem jxO{e:H}{m n n':H}{v:G}{w':É}{xs ys:F G}(h:w.ownsRow 0 e m v n xs)(h':w'.ownsRow 0 e m v n' ys):n=n':=by
 rcases h.2 with⟨e1,e2⟩|⟨g,cap,cur,e1,_⟩<;>rcases h'.2 with⟨f1,f2⟩|⟨g',cap',cur',f1,_⟩;all_goals simp_all
theorem jiz{bx:H->BS}{S':j09}{w':É}{ys:F TV}{k:H}{v:G}(hg:γ k=v)(h:joB S' w' ys v):j2i S' w' γ bx k (.cell (ys.map TV.leaf) M):=by
 obtain⟨g,cur,e,hu,hh,hall,hS⟩:=h;exact⟨g,cur,e,hg.trans hu,hh,by grind[j92],λu hu'=>by rw[List.length_map]at hu';obtain⟨x,_,hx⟩:=hall.mem_right u hu';grind[Rep.one],λ_=>hS,smp_⟩
theorem jbx{bx:H->BS}{S':j09}{w':É}{e:H}{t:Ty}{ys:F t.den}{k:H}{v:G}(hg:γ k=v)(h:jjo S' w' e ⟨.list t,ys⟩ v):j2i S' w' γ bx k (.lst e t ys M):=by
 obtain⟨t',xs,hx,hrow,hS⟩:=h;cases hx;exact⟨by rw[hg];exact hrow,λg hg'=>⟨λ_=>hS g (by rw[<-hg];exact hg'),smp_⟩⟩
theorem jbg{S':j09}{w':É}(hR:Rel N np S0 w0 refs σ a w S γ):∀{as:F Arg}{zs:F G}{fs:F Bk}{os:F Out}{uo:Ups},j8X σ.bx γ as zs fs->jar fs os=D uo->j68 S' w' as zs os->
  uo.map (·.1)=fs.map Bk.name/\∀x∈uo,∃b,σ.bx x.1 = .live b/\(x.2 = .gone\/∃b',x.2 = .live b'/\j1W b b'/\∀bx',j2i S' w' γ bx' x.1 b')
 |[],[],[],[],uo,_,h,_=>by simp[jar]at h;subst h;simp
 |.ref ls::as,u::us,.ref k::fs,.ref ys::os,uo,⟨h1,⟨ls',h2⟩,h3⟩,h,⟨q1,q2⟩=>by
  simp only[jar,jxr]at h;split at h
  .rename_i u' hu';simp only[j5]at h;subst h;obtain⟨i1,i2⟩:=jbg hR h3 hu' q2;refine⟨by simp[i1,Bk.name],λx hx=>?_⟩;rcases List.mem_cons.1 hx with rfl|hx
   .exact⟨_,h2,.inr ⟨_,rfl,trivial,λbx'=>jiz h1.symm q1⟩⟩
   .exact i2 x hx
  .simp at h
 |.rl e x::as,u::us,.rl k e' t::fs,.rl y::os,uo,⟨h0,h1,⟨xs,h2,h2'⟩,h3⟩,h,⟨q1,q1',q2⟩=>by
  simp only[jar,jxr]at h;split at h
  .rename_i y' hy';split at hy'
   .rename_i ys hys;simp only[j5]at hy';subst hy';split at h
    .rename_i u' hu';simp only[j5]at h;subst h;obtain⟨i1,i2⟩:=jbg hR h3 hu' q2;refine⟨by simp[i1,Bk.name],λx hx=>?_⟩;rcases List.mem_cons.1 hx with rfl|hx
     .have:=jgi hys;subst this;subst h0;refine⟨_,h2,.inr ⟨_,rfl,⟨rfl,rfl,λhm=>?_⟩,λbx'=>jbx h1.symm q1⟩⟩;obtain⟨css,hown,_⟩:=j6U hm (hR.box k _ h2);obtain⟨css',hrow,_⟩:=j6U (bx:=σ.bx) hm (jbx h1.symm q1);exact jxO hown hrow
     .exact i2 x hx
    .simp at h
   .simp at hy'
  .simp at h
 |.mv e x::as,u::us,.mv k e' t::fs,os,uo,⟨h0,h1,⟨xs,h2,h2'⟩,h3⟩,h,q=>by
  simp only[jar]at h;split at h
  .rename_i u' hu';simp only[j5]at h;subst h;obtain⟨i1,i2⟩:=jbg hR h3 hu' (by simpa only[j68]using q);refine⟨by simp[i1,Bk.name],λx hx=>?_⟩;rcases List.mem_cons.1 hx with rfl|hx
   .exact⟨_,h2,.inl rfl⟩
   .exact i2 x hx
  .simp at h
 |.v _::as,_::us,fs,os,uo,h,h',q=>jbg (as:=as) (zs:=us) (fs:=fs) hR h h' q
 |.ip _::as,_::us,fs,os,uo,h,h',q=>jbg (as:=as) (zs:=us) (fs:=fs) hR h h' q
 |.clo _ _::as,_::us,fs,os,uo,h,h',q=>jbg (as:=as) (zs:=us) (fs:=fs) hR h h' q
theorem jiA(hR:Rel N np S0 w0 refs σ a w S γ){mvb:F H}{S':j09}{w':É}(hst:j3m S w S' w')(hnew:∀g o,S' g o->S g o\/w.heap.size<=g\/g∈mvb)(hhere:∀g o,S' g o->g<w'.heap.size)
  {as:F Arg}{zs:F G}{fs:F Bk}{os:F Out}{uo:Ups}(hmvb:∀g∈mvb,g∈mvOf as zs)(hpar:∀f∈fs,f.isMv=Ã->parK np f.name=M)(hbk:j8X σ.bx γ as zs fs)(hnd:(fs.map Bk.name).Nodup)(ho:jar fs os=D uo)(hq:j68 S' w' as zs os)
  (hbelow:∀g,g<w.heap.size->g∉j1O as zs->w'.heap[g]? = w.heap[g]?)(hgrow:w.heap.size<=w'.heap.size)(hos:w'.os=w.os)(htape:w'.tape=w.tape)(hout:w'.output=w.output) :
  Rel N np S0 w0 refs (σ.upd uo) a w' S' γ:=by
 obtain⟨hkeys,hboxes⟩:=jbg hR hbk ho hq;have hnk:(uo.map (·.1)).Nodup:=by rw[hkeys];exact hnd
 have hsl:σ.upd uo={ σ with bx:=(σ.upd uo).bx }:=by
  have:=jmf uo σ;cases h:σ.upd uo
  simp_all
 have hcase:∀k,(uo.any (λy=>y.1==k)=M/\(σ.upd uo).bx k=σ.bx k)\/(∃b,σ.bx k = .live b/\(σ.upd uo).bx k = .gone)\/(∃b b',σ.bx k = .live b/\(σ.upd uo).bx k = .live b'/\j1W b b'/\∀bx',j2i S' w' γ bx' k b'):=by grind[jmo,j2H]
 have hlive:∀k b,(σ.upd uo).bx k = .live b->∃b',σ.bx k = .live b':=by grind
 have hle:BxLe γ σ.bx γ (σ.upd uo).bx:=by
  intro k hk;rcases hcase k with⟨_,h⟩|⟨b1,h1,h2⟩|⟨b1,b2,h1,h2,h3,_⟩
  .rw[h];exact⟨hk,rfl,λb hb=>⟨b,hb,.refl b⟩⟩
  all_goals grind
 have hrefs:∀g,g∈j1O as zs->∃f∈fs,blk (γ f.name)=D g/\∃b,σ.bx f.name = .live b:=by intro g hg;rw[j8M hbk]at hg;grind[jdd]
 rw[hsl]
 refine Rel.step hR hst hle ?_ ?_ ?_ ?_ hhere ?_ (â hR.grow hgrow) (hos.trans hR.os) (htape.trans hR.tape) (hout.trans hR.output) (λg hg _ h=>⟨hbelow g hg (λhm=>by
  grind),λk b hb=>by
  grind⟩)
 .intro k b hb;rcases hcase k with⟨hk,h⟩|⟨b1,h1,h2⟩|⟨b1,b2,h1,h2,h3,h4⟩
  case inr.inl=>grind
  .rw[h]at hb;refine j2i.keep hst hle rfl (λg hg=>?_) (hR.box k b hb);have hgl:=j4O (hR.box k b hb) hg;suffices hno:g∉j1O as zs from⟨hbelow g hgl hno,λo=>⟨λhs=>(hnew g o hs).resolve_right (λh=>h.elim (λh=>omg_) λh=>hno (jz7 (hmvb g h))),λhs=>(hst g o hs).1⟩⟩
   intro hm;obtain⟨f,hf,hfg,b',hb'⟩:=hrefs g hm;have hne:k≠f.name:=by grind[List.mem_map_of_mem]
   exact hR.apart k f.name b b' g hne hb hb' hg hfg
  grind
 .intro k b g hb hg;obtain⟨b',hb'⟩:=hlive k b hb;exact hR.own k b' g hb' hg
 .intro k k' b1 b2 g hne h1 h2 hg;obtain⟨b1',h1'⟩:=hlive k b1 h1;obtain⟨b2',h2'⟩:=hlive k' b2 h2;exact hR.apart k k' b1' b2' g hne h1' h2' hg
 .intro g o hs;rcases hnew g o hs with h|h|h
  .exact hR.new g o h
  .exact .inr (.inl (â hR.grow h))
  .obtain⟨f,hf,hfm,hfg⟩:=jcw hbk (hmvb g h);obtain⟨b',hb'⟩:=jdd hbk f hf;rcases hR.own f.name b' g hb' hfg with h|h;all_goals grind
 .intro g hg hr;rw[hbelow g (Nat.lt_of_lt_of_le hg hR.grow) (λhm=>?_)]
  .exact hR.below g hg hr
  .obtain⟨f,hf,hfg,b',hb'⟩:=hrefs g hm;rcases hR.own f.name b' g hb' hfg with h|h
   .exact h.no omg_ hr
   .exact hr h.1
theorem jkj(hR:Rel N np S0 w0 refs σ a w S γ){d:H}(hd:σ.bx d = .free){v':G}{b:Bx}
  (hv:∀g,blk v'=D g->(Own w0 refs g/\refs.kw g=U)/\∀k b,σ.bx k = .live b->blk (γ k)≠D g)(hb:j2i S w (gset γ d v') (σ.setB d (.live b)).bx d b) :
  Rel N np S0 w0 refs (σ.setB d (.live b)) a w S (gset γ d v')/\BxLe γ σ.bx (gset γ d v') (σ.setB d (.live b)).bx:=by
 have hle:BxLe γ σ.bx (gset γ d v') (σ.setB d (.live b)).bx:=by
  intro k hk;have hne:k≠d:=by grind
  rw[j07 σ _ hne,j0o γ v' hne];exact⟨hk,rfl,λb hb=>⟨b,hb,.refl b⟩⟩
 refine⟨Rel.step (bx':=(σ.setB d (.live b)).bx) hR (.refl S w) hle ?_ ?_ ?_ hR.new hR.here hR.below hR.grow hR.os hR.tape hR.output (λg _ hkn h=>⟨rfl,λk b' hb' hbk=>by
  grind[j0p,j07,j0o]⟩),hle⟩
 .intro k b' hb';by_cases hk:k=d
  .grind[j0y]
  .rw[j07 σ _ hk]at hb';exact j2i.keep (.refl S w) hle (j0o γ v' hk) (λg hg=>⟨rfl,λ_=>ñ⟩) (hR.box k b' hb')
 .intro k b' g hb' hg;by_cases hk:k=d
  .grind[j0p]
  .rw[j07 σ _ hk]at hb';rw[j0o γ v' hk]at hg;exact hR.own k b' g hb' hg
 .intro k k' b1 b2 g hne h1 h2 hg hg';by_cases hk:k=d
  .grind[j0p,j07,j0o]
  .by_cases hk':k'=d
   .grind[j0p,j07,j0o]
   .rw[j07 σ _ hk]at h1;rw[j07 σ _ hk']at h2;rw[j0o γ v' hk]at hg;rw[j0o γ v' hk']at hg';exact hR.apart k k' b1 b2 g hne h1 h2 hg hg'
theorem je4{bx:H->BS}{x:TV}{u:G}(h:VRep S w x u):j0m S w γ bx (jcs x.t x.v) u:=by
 obtain⟨t,v⟩:=x;obtain⟨h1,h2,h3⟩:=h;refine jis t v _ u h1 (λhm=>?_) (λha hn=>?_)
 .have:jdn t=true:=by
   rcases hm with hm|⟨n,b,rfl⟩
   .cases t<;>simp_all[jdn,Ty.agg]
   .rfl
  obtain⟨cs,rfl⟩:=h2 this;simp[Value.cells]
 simp_all[jdn,jdr]
theorem jjK:∀{ls:F RL}{n:H}{l:F Leaf}{u:Ups},soL n ls=D (l,u)->∀x∈u,n<=x.1/\x.1<n+ls.length
 |[],n,l,u,h=>by grind[soL]
 |.d x::r,n,l,u,h=>by
  simp only[soL]at h;split at h
  .rename_i l' u' h';simp only[j5,j9]at h;obtain⟨rfl,rfl⟩:=h;intro y hy;have:=jjK h' y hy;grind
  .simp at h
 |.own e ⟨.list a,xs⟩::r,n,l,u,h=>by
  simp only[soL]at h;split at h
  .rename_i l' u' h';simp only[j5,j9]at h;obtain⟨rfl,rfl⟩:=h;intro y hy;rcases List.mem_cons.1 hy with rfl|hy
   .simp_all
   .have:=jjK h' y hy;grind
  .simp at h
 |.own e ⟨.int _,xs⟩::r,n,l,u,h=>by simp[soL]at h
 |.own e ⟨.bool,xs⟩::r,n,l,u,h=>by simp[soL]at h
 |.own e ⟨.str,xs⟩::r,n,l,u,h=>by simp[soL]at h
 |.own e ⟨.unit,xs⟩::r,n,l,u,h=>by simp[soL]at h
 |.own e ⟨.wrap _,xs⟩::r,n,l,u,h=>by simp[soL]at h
 |.own e ⟨.pair _ _,xs⟩::r,n,l,u,h=>by simp[soL]at h
 |.own e ⟨.arr _ _,xs⟩::r,n,l,u,h=>by simp[soL]at h
theorem jmp{n:H}{r:RV}{c:Cel}{u:Ups}(h:jxs n r=D (c,u)):∀x∈u,n<=x.1/\x.1<n+rvW r:=by
 unfold jxs at h;split at h
 .simp_all
 .grind[rvW]
 .simp at h
 .grind[rvW]
 .simp at h
 .grind
 .simp_all
 .split at h
  .rename_i l u' h';simp only[j5,j9]at h;obtain⟨rfl,rfl⟩:=h;exact jjK h'
  .simp at h
 .simp at h
theorem jkk:∀{n:H}{rs:F RV}{cs:F Cel}{u:Ups},jjf n rs=D (cs,u)->∀x∈u,n<=x.1
 |n,[],cs,u,h=>by grind[jjf]
 |n,r::rs,cs,u,h=>by
  simp only[jjf]at h;split at h
  .rename_i c u1 h1;split at h
   .rename_i cs2 u2 h2;simp only[j5,j9]at h;obtain⟨rfl,rfl⟩:=h;intro x hx;rcases List.mem_append.1 hx with hx|hx
    .exact(jmp h1 x hx).1
    .have:=jkk h2 x hx;omega
   .simp at h
  .simp at h
theorem jus{bx:H->BS}{ns:F H}:∀(k:H){ls:F Leaf}{cs:F G},All2 (j08 S w γ bx) ls cs->(∀i∈ns,∀z,k<=i->cs[i-k]? = D z->z = .slice U 0 0)->
  All2 (j08 S w γ bx) ((ls.zipIdx k).map λy=>if ns.contains y.2 then .nil else y.1) cs
 |_,[],[],_,_=>trivial
 |k,l::ls,c::cs,h,hn=>by
  refine⟨?_,jus (k+1) h.2 λi hi z hk hz=>hn i hi z omg_ ?_⟩
  .by_cases hc:ns.contains k=Ã
   .simp only[hc,if_true];exact hn k (by simpa using hc) c (Ì _) smp_
   .simp only[hc];exact h.1
  grind
 |_,[],_::_,h,_=>h.elim
 |_,_::_,[],h,_=>h.elim
theorem jut(hR:Rel N np S0 w0 refs σ a w S γ){h0:H}(hle0:w0.heap.size<=h0)(hlive:∀k b g,σ.bx k = .live b->blk (γ k)=D g->g<h0)(hkw:∀g,h0<=g->refs.kw g=U)
  {ns:F H}{s:Snap}{v:G}(hraw:jAr h0 S w ns s v)(hfree:∀x∈rawU ns s,σ.bx x.1 = .free)(hnd:((rawU ns s).map (·.1)).Nodup) :
  ∃γ',Rel N np S0 w0 refs (σ.upd (rawU ns s)) a w S γ'/\∃zs,v=j7f zs/\All2 (j0m S w γ' (σ.upd (rawU ns s)).bx) (rawC ns s) zs:=by
 obtain⟨γr,zs,hv,hc,hb,hge,hap⟩:=hraw;generalize rawU ns s=u at *;let γ':H->Value:=λk=>if u.any (λy=>y.1==k) then γr k else γ k
 have hin:∀k,u.any (λy=>y.1==k)=Ã->(σ.upd u).bx k=(emp.upd u).bx k/\γ' k=γr k/\σ.bx k = .free:=by grind[jmo]
 have hout:∀k,u.any (λy=>y.1==k)=M->(σ.upd u).bx k=σ.bx k/\(emp.upd u).bx k = .free/\γ' k=γ k:=by grind[j2H,emp]
 have le1:BxLe γr (emp.upd u).bx γ' (σ.upd u).bx:=by
  intro k hk;cases hu:u.any (λy=>y.1==k) with
  |false=>grind
  |true=>obtain⟨h1,h2,_⟩:=hin k hu;rw[h1];exact⟨hk,h2,λb hb=>⟨b,hb,.refl b⟩⟩
 have le2:BxLe γ σ.bx γ' (σ.upd u).bx:=by
  intro k hk;cases hu:u.any (λy=>y.1==k) with
  |true=>grind
  |false=>obtain⟨h1,_,h2⟩:=hout k hu;rw[h1];exact⟨hk,h2,λb hb=>⟨b,hb,.refl b⟩⟩
 have hsl:σ.upd u={ σ with bx:=(σ.upd u).bx }:=by
  have:=jmf u σ;cases h:σ.upd u
  simp_all
 refine⟨γ',?_,zs,hv,hc.mono λx z hx=>j0m.keep (.refl S w) le1 hx⟩;rw[hsl];refine Rel.step hR (.refl S w) le2 ?_ ?_ ?_ hR.new hR.here hR.below hR.grow hR.os hR.tape hR.output (λg _ hkn h=>⟨rfl,λk b hb hbk=>?_⟩)
 .intro k b hb';cases hu:u.any (λy=>y.1==k) with
  |true=>obtain⟨h1,h2,_⟩:=hin k hu;rw[h1]at hb';exact j2i.keep (.refl S w) le1 h2 (λg hg=>⟨rfl,λ_=>ñ⟩) (hb k b hb')
  |false=>obtain⟨h1,_,h2⟩:=hout k hu;rw[h1]at hb';exact j2i.keep (.refl S w) le2 h2 (λg hg=>⟨rfl,λ_=>ñ⟩) (hR.box k b hb')
 .intro k b g hb' hg;cases hu:u.any (λy=>y.1==k) with
  |true=>obtain⟨h1,h2,_⟩:=hin k hu;rw[h1]at hb';rw[h2]at hg;exact .inl (.inl (â hle0 (hge k b g hb' hg)))
  |false=>obtain⟨h1,_,h2⟩:=hout k hu;rw[h1]at hb';rw[h2]at hg;exact hR.own k b g hb' hg
 .intro k k' b b' g hne hb1 hb2 hg1 hg2;cases hu:u.any (λy=>y.1==k) with
  |true=>grind
  |false=>
   obtain⟨h1,_,h2⟩:=hout k hu;rw[h1]at hb1;rw[h2]at hg1;cases hu':u.any (λy=>y.1==k') with
   |true=>grind
   |false=>obtain⟨h3,_,h4⟩:=hout k' hu';rw[h3]at hb2;rw[h4]at hg2;exact hR.apart k k' b b' g hne hb1 hb2 hg1 hg2
 grind
theorem juu:∀{ls:F RL}{zs:F G}{n:H}{l:F Leaf}{u:Ups}{σ:St}{γ:H->G},Rel N np S0 w0 refs σ a w S γ->soL n ls=D (l,u)->All2 (jxL S w) ls zs->
  (∀x∈u,σ.bx x.1 = .free)->(jcv ls zs).Nodup->(∀g∈jcv ls zs,(Own w0 refs g/\refs.kw g=U)/\∀k b,σ.bx k = .live b->blk (γ k)≠D g)->
  ∃γ',Rel N np S0 w0 refs (σ.upd u) a w S γ'/\BxLe γ σ.bx γ' (σ.upd u).bx/\All2 (j08 S w γ' (σ.upd u).bx) l zs/\(∀z∈zs,One z)/\
   ∀k b g,(σ.upd u).bx k = .live b->blk (γ' k)=D g->(∃b',σ.bx k = .live b'/\blk (γ k)=D g)\/g∈jcv ls zs
 |[],[],n,l,u,σ,γ,hR,h,_,_,_,_=>by
  simp[soL]at h;obtain⟨rfl,rfl⟩:=h;exact⟨γ,hR,.refl _ _,trivial,smp_,λk b g h1 h2=> .inl ⟨b,h1,h2⟩⟩
 |.d x::ls,z::zs,n,l,u,σ,γ,hR,h,ha,hfree,hnd,hblk=>by
  simp only[soL]at h;split at h
  .rename_i l' u' h';simp only[j5,j9]at h;obtain⟨rfl,rfl⟩:=h;obtain⟨γ',q1,q2,q3,q4,q5⟩:=juu hR h' ha.2 hfree hnd hblk;exact⟨γ',q1,q2,⟨ha.1.2,q3⟩,λy hy=>(List.mem_cons.1 hy).elim (λe=>e▸ha.1.1) (q4 y),q5⟩
  .simp at h
 |.own e ⟨.list t,xs⟩::ls,z::zs,n,l,u,σ,γ,hR,h,ha,hfree,hnd,hblk=>by
  simp only[soL]at h;split at h
  .rename_i l' u' h';simp only[j5,j9]at h;obtain⟨rfl,rfl⟩:=h;have hown:jjo S w e ⟨.list t,xs⟩ z:=ha.1;have hone:One z:=by obtain⟨t',ys,_,hrow,_⟩:=hown;exact hrow.one
   have hfn:σ.bx n = .free:=hfree _ (ð ..);simp only[jcv]at hnd hblk;obtain⟨hR1,hle⟩:=jkj hR hfn (v':=z) (b:= .lst e t xs M) (λg hg=>hblk g (by simp[hg])) (jbx (j0p _ _ _) hown);have hname:=jjK h'
   obtain⟨γ',q1,q2,q3,q4,q5⟩:=juu hR1 h' ha.2 (λx hx=>by
    have:=hname x hx;rw[j07 σ _ omg_];exact hfree x (by simp[hx])) (List.nodup_append.1 hnd).2.1 (λg hg=>by
    obtain⟨p1,p2⟩:=hblk g (by simp[hg]);refine⟨p1,λk b' hb' he=>?_⟩;by_cases hk:k=n
    .subst hk;rw[j0p]at he;exact(List.nodup_append.1 hnd).2.2 g (by simp[he]) g hg rfl
    .rw[j07 σ _ hk]at hb';rw[j0o γ z hk]at he;exact p2 k b' hb' he)
   refine⟨γ',q1,λk hk=>?_,⟨j08.keep (.refl S w) q2 ⟨by rw[j0y];simp,hone,λb _=>(j0p γ n z).symm⟩,q3⟩,λy hy=>(List.mem_cons.1 hy).elim (λe=>e▸hone) (q4 y),λk b g h1 h2=>?_⟩
   .obtain⟨a1,a2,a3⟩:=hle k hk;obtain⟨b1,b2,b3⟩:=q2 k a1;refine⟨b1,b2.trans a2,λb hb=>?_⟩;obtain⟨b',hb',hs'⟩:=b3 b hb;obtain⟨b'',hb'',hs''⟩:=a3 b' hb';exact⟨b'',hb'',hs''.trans hs'⟩
   .rcases q5 k b g h1 h2 with⟨b',hb',he⟩|h3
    .by_cases hk:k=n
     .subst hk;rw[j0p]at he;exact .inr (by simp[jcv,he])
     .rw[j07 σ _ hk]at hb';rw[j0o γ z hk]at he;exact .inl ⟨b',hb',he⟩
    .exact .inr (by simp[jcv,h3])
  .simp at h
 |.own e ⟨.int _,xs⟩::r,_,n,l,u,_,_,_,h,_,_,_,_=>by simp[soL]at h
 |.own e ⟨.bool,xs⟩::r,_,n,l,u,_,_,_,h,_,_,_,_=>by simp[soL]at h
 |.own e ⟨.str,xs⟩::r,_,n,l,u,_,_,_,h,_,_,_,_=>by simp[soL]at h
 |.own e ⟨.unit,xs⟩::r,_,n,l,u,_,_,_,h,_,_,_,_=>by simp[soL]at h
 |.own e ⟨.wrap _,xs⟩::r,_,n,l,u,_,_,_,h,_,_,_,_=>by simp[soL]at h
 |.own e ⟨.pair _ _,xs⟩::r,_,n,l,u,_,_,_,h,_,_,_,_=>by simp[soL]at h
 |.own e ⟨.arr _ _,xs⟩::r,_,n,l,u,_,_,_,h,_,_,_,_=>by simp[soL]at h
 |[],_::_,_,_,_,_,_,_,_,ha,_,_,_=>ha.elim
 |.d _::_,[],_,_,_,_,_,_,_,ha,_,_,_=>ha.elim
 |.own _ ⟨.list _,_⟩::_,[],_,_,_,_,_,_,_,ha,_,_,_=>ha.elim
theorem jrB:∀{rs:F RV}{vs:F G}{n:H}{cs:F Cel}{un:Ups}{σ:St}{γ:H->G},Rel N np S0 w0 refs σ a w S γ->jjf n rs=D (cs,un)->All2 (jjz S w) rs vs->
  (∀x∈un,σ.bx x.1 = .free)->(j7U rs vs).Nodup->(∀g∈j7U rs vs,(Own w0 refs g/\refs.kw g=U)/\∀k b,σ.bx k = .live b->blk (γ k)≠D g)->
  ∃γ',Rel N np S0 w0 refs (σ.upd un) a w S γ'/\BxLe γ σ.bx γ' (σ.upd un).bx/\All2 (j0m S w γ' (σ.upd un).bx) cs vs
 |[],[],n,cs,un,σ,γ,hR,h,_,_,_,_=>by
  simp[jjf]at h;obtain⟨rfl,rfl⟩:=h;exact⟨γ,hR,.refl _ _,trivial⟩
 |r::rs,u::us,n,cs,un,σ,γ,hR,h,ha,hfree,hnd,hblk=>by
  simp only[jjf]at h;split at h
  .rename_i c u1 h1;split at h
   .rename_i cs2 u2 h2;simp only[j5,j9]at h;obtain⟨rfl,rfl⟩:=h
    have hgo:∀(σ1:St)(γ1:H->G),Rel N np S0 w0 refs σ1 a w S γ1->σ1=σ.upd u1->BxLe γ σ.bx γ1 σ1.bx->j0m S w γ1 σ1.bx c u->(∀x∈u2,σ1.bx x.1 = .free)->
      (j7U rs us).Nodup->(∀g∈j7U rs us,(Own w0 refs g/\refs.kw g=U)/\∀k b,σ1.bx k = .live b->blk (γ1 k)≠D g)->
      ∃γ',Rel N np S0 w0 refs (σ.upd (u1++u2)) a w S γ'/\BxLe γ σ.bx γ' (σ.upd (u1++u2)).bx/\All2 (j0m S w γ' (σ.upd (u1++u2)).bx) (c::cs2) (u::us):=by
     intro σ1 γ1 hR1 he hle hc hf hn hb;obtain⟨γ',q1,q2,q3⟩:=jrB (σ:=σ1) (γ:=γ1) hR1 h2 ha.2 hf hn hb;subst he;rw[j6S];refine⟨γ',q1,?_,j0m.keep (.refl S w) q2 hc,q3⟩;intro k hk;obtain⟨a1,a2,a3⟩:=hle k hk;obtain⟨b1,b2,b3⟩:=q2 k a1;refine⟨b1,b2.trans a2,λb hb=>?_⟩;obtain⟨b',hb',hs'⟩:=b3 b hb;obtain⟨b'',hb'',hs''⟩:=a3 b' hb';refine⟨b'',hb'',?_⟩;exact hs''.trans hs'
    have hname:=jmp h1;have hname2:=jkk h2
    have hnew:∀(v':G)(b:Bx),j93 r u=(blk v').toList->rvW r=1->u1=[(n,.live b)]->(∀bx',j2i S w (gset γ n v') bx' n b)->(∀bx',(bx' n = .live b)->j0m S w (gset γ n v') bx' c u)->
      ∃γ',Rel N np S0 w0 refs (σ.upd (u1++u2)) a w S γ'/\BxLe γ σ.bx γ' (σ.upd (u1++u2)).bx/\All2 (j0m S w γ' (σ.upd (u1++u2)).bx) (c::cs2) (u::us):=by
     intro v' b hv' hw1 hu1 hbox hcel;subst hu1;rw[hw1]at hname2;have hfn:σ.bx n = .free:=hfree (n,.live b) smp_;simp only[j7U,hv']at hnd hblk;obtain⟨hR1,hle⟩:=jkj hR hfn (v':=v') (b:=b) (λg hg=>hblk g (by simp[hg])) (hbox _);refine hgo _ _ hR1 rfl hle (hcel _ (j0y _ _ _)) (λx hx=>?_) ?_ (λg hg=>?_)
     .have:=hname2 x hx;rw[j07 σ _ omg_];exact hfree x (by simp[hx])
     .exact(List.nodup_append.1 hnd).2.1
     .obtain⟨p1,p2⟩:=hblk g (by simp[hg]);refine⟨p1,λk b' hb' he=>?_⟩;by_cases hk:k=n
      .subst hk;rw[j0p]at he;have:=(List.nodup_append.1 hnd).2.2 g (by simp[he]) g hg;exact this rfl
      .rw[j07 σ _ hk]at hb';rw[j0o γ v' hk]at he;exact p2 k b' hb' he
    unfold jxs at h1;split at h1
    .rename_i x;simp only[j5,j9]at h1;obtain⟨rfl,rfl⟩:=h1;refine hgo σ γ hR rfl (.refl _ _) (je4 ha.1) (λx hx=>hfree x (by simp[hx])) ?_ ?_
     .simpa[j7U,jgj,j93]using hnd
     .simpa[j7U,jgj,j93]using hblk
    .rename_i e el xs;simp only[j5,j9]at h1;obtain⟨rfl,rfl⟩:=h1;have hown:jjo S w e ⟨.list el,xs⟩ u:=ha.1;have hone:One u:=by obtain⟨t',ys,_,hrow,_⟩:=hown;exact hrow.one
     exact hnew u _ rfl rfl rfl (λbx'=>jbx (j0p _ _ _) hown) (λbx' hb=>⟨⟨by rw[hb];simp,hone,λb _=>(j0p γ n u).symm⟩,λ_=>hone⟩)
    .simp at h1
    .rename_i ls;simp only[j5,j9]at h1;obtain⟨rfl,rfl⟩:=h1;have href:joB S w ls u:=ha.1;obtain⟨g,cur,e,hu,_⟩:=id href;have hone:One u:=by rw[hu];rfl
     exact hnew u _ rfl rfl rfl (λbx'=>jiz (j0p _ _ _) href) (λbx' hb=>⟨⟨by rw[hb];simp,hone,λb _=>⟨g,by rw[j0p,hu],hu⟩⟩,λ_=>hone⟩)
    .simp at h1
    .rename_i x ns;have hv:VRep S w x u/\∀cs,u = .agg cs->∀i∈ns,∀z,cs.toList[i]? = D z->z = .slice U 0 0:=ha.1;have hcr:j0m S w γ σ.bx (jcs x.t x.v) u:=je4 hv.1
     have hc:j0m S w γ σ.bx c u/\u1=[]:=by
      split at h1
      .rename_i ls he;simp only[j5,j9]at h1;obtain⟨rfl,rfl⟩:=h1;rw[he]at hcr;obtain⟨cs,hu,hall,hone⟩:=hcr;exact⟨⟨cs,hu,jus 0 hall λi hi z _ hz=>hv.2 cs hu i hi z (by simpa using hz),hone⟩,rfl⟩
      .simp only[j5,j9]at h1;obtain⟨rfl,rfl⟩:=h1;exact⟨hcr,rfl⟩
     obtain⟨hc,rfl⟩:=hc;refine hgo σ γ hR rfl (.refl _ _) hc (λx hx=>hfree x (by simp[hx])) ?_ ?_
     .simpa[j7U,jgj,j93]using hnd
     .simpa[j7U,jgj,j93]using hblk
    .rename_i f caps;simp only[j5,j9]at h1;obtain⟨rfl,rfl⟩:=h1;obtain⟨cv,hu,hall⟩:∃cv:Î G,u = .func (.func f) #[] cv/\All2 (j82 S w) caps cv.toList:=ha.1;refine hgo σ γ hR rfl (.refl _ _) ⟨⟨cv,hu,hall⟩,λ_=>by rw[hu];rfl⟩ (λx hx=>hfree x (by simp[hx])) ?_ ?_
     .simpa[j7U,jgj,j93]using hnd
     .simpa[j7U,jgj,j93]using hblk
    .rename_i ls;split at h1
     .rename_i l us' hl;simp only[j5,j9]at h1;obtain⟨rfl,rfl⟩:=h1;obtain⟨cs',hu,hall⟩:∃cs:Î G,u = .agg cs/\All2 (jxL S w) ls cs.toList:=ha.1;subst hu;have hbl:j93 (.so ls) (.agg cs')=jcv ls cs'.toList:=rfl;simp only[j7U,hbl]at hnd hblk;obtain⟨γ1,q1,q2,q3,q4,q5⟩:=juu hR hl hall (λx hx=>hfree x (by simp[hx])) (List.nodup_append.1 hnd).1 (λg hg=>hblk g (by simp[hg]));refine hgo _ γ1 q1 rfl q2 ⟨cs',rfl,q3,q4⟩ (λx hx=>?_) (List.nodup_append.1 hnd).2.1 (λg hg=>?_)
      .have h2:=hname2 x hx;rw[j2H us' σ]
       .exact hfree x (by simp[hx])
       .rw[ã];intro y hy he;simp only[beq_iff_eq]at he;have:=hname y hy;omega
      .obtain⟨p1,p2⟩:=hblk g (by simp[hg]);refine⟨p1,λk b' hb' he=>?_⟩;rcases q5 k b' g hb' he with⟨b2,hb2,he2⟩|h3
       .exact p2 k b2 hb2 he2
       .exact(List.nodup_append.1 hnd).2.2 g h3 g hg rfl
     .simp at h1
    .simp at h1
   .simp at h
  .simp at h
 |[],_::_,_,_,_,_,_,_,_,ha,_,_,_=>ha.elim
 |_::_,[],_,_,_,_,_,_,_,ha,_,_,_=>ha.elim
theorem jkl{S':j09}{w':É}:∀(cs:F Cap)(cv:F G)(os:F Out),j68 S' w' (cs.map jeG) cv os->os=[]
 |[],[],[],_=>rfl
 |[],[],_::_,h=>h.elim
 |[],_::_,_,h=>h.elim
 |c::cs,[],_,h=>by cases c<;>exact h.elim
 |.v _::cs,_::cv,os,h=>jkl cs cv os h
 |.p _::cs,_::cv,os,h=>jkl cs cv os h
theorem je5{S':j09}{w':É}{cs:F Cap}{cv:F G}:∀{as:F Arg}{zs:F G}{os:F Out},as.length=zs.length->
  j68 S' w' (as++cs.map jeG) (zs++cv) os->j68 S' w' as zs os
 |[],[],os,_,h=>by
  have:=jkl cs cv os h;subst this;trivial
 |.ref ls::as,u::us,.ref ys::os,hl,⟨h1,h2⟩=>⟨h1,je5 (by simpa using hl) h2⟩
 |.rl e x::as,u::us,.rl y::os,hl,⟨h1,h2,h3⟩=>⟨h1,h2,je5 (by simpa using hl) h3⟩
 |.v _::as,_::us,os,hl,h=>je5 (as:=as) (zs:=us) (by simpa using hl) h
 |.ip _::as,_::us,os,hl,h=>je5 (as:=as) (zs:=us) (by simpa using hl) h
 |.clo _ _::as,_::us,os,hl,h=>je5 (as:=as) (zs:=us) (by simpa using hl) h
 |.mv _ _::as,_::us,os,hl,h=>je5 (as:=as) (zs:=us) (by simpa using hl) h
 |[],_::_,_,hl,_=>by simp at hl
 |_::_,[],_,hl,_=>by simp at hl
 |.ref _::_,_::_,[],_,h=>h.elim
 |.ref _::_,_::_,.rl _::_,_,h=>h.elim
 |.rl _ _::_,_::_,[],_,h=>h.elim
 |.rl _ _::_,_::_,.ref _::_,_,h=>h.elim
theorem j8X.congr{bx bx':H->BS}:∀{as:F Arg}{us:F G}{fs:F Bk},(∀f∈fs,bx' f.name=bx f.name)->j8X bx γ as us fs->j8X bx' γ as us fs
 |[],[],[],_,_=>trivial
 |.ref ls::as,u::us,.ref k::fs,hc,⟨h1,⟨ls',h2⟩,h3⟩=>
  ⟨h1,⟨ls',(hc (.ref k) smp_).trans h2⟩,j8X.congr (λf hf=>hc f (by simp[hf])) h3⟩
 |.rl e x::as,u::us,.rl k e' t::fs,hc,⟨h0,h1,⟨xs,h2,hx⟩,h3⟩=>
  ⟨h0,h1,⟨xs,(hc (.rl k e' t) smp_).trans h2,hx⟩,j8X.congr (λf hf=>hc f (by simp[hf])) h3⟩
 |.mv e x::as,u::us,.mv k e' t::fs,hc,⟨h0,h1,⟨xs,h2,hx⟩,h3⟩=>
  ⟨h0,h1,⟨xs,(hc (.mv k e' t) smp_).trans h2,hx⟩,j8X.congr (λf hf=>hc f (by simp[hf])) h3⟩
 |.v _::as,_::us,fs,hc,h=>j8X.congr (as:=as) (us:=us) hc h
 |.ip _::as,_::us,fs,hc,h=>j8X.congr (as:=as) (us:=us) hc h
 |.clo _ _::as,_::us,fs,hc,h=>j8X.congr (as:=as) (us:=us) hc h
theorem jdw{S1 S':j09}{w':É}(hsub:∀g o,S g o->S' g o):∀{as:F Arg}{zs:F G}{os:F Out},os.all Out.flat=Ã->j68 S' w' as zs os->j68 S w' as zs os
 |[],[],[],_,_=>trivial
 |.ref ls::as,u::us,.ref ys::os,hf,⟨⟨g,cur,e,h1,h2,h3,h4⟩,h5⟩=>by
  simp only[List.all_cons,J,Out.flat]at hf;refine⟨⟨g,cur,e,h1,h2,?_,λo hs=>h4 o (hsub g o hs)⟩,jdw (S1:=S1) hsub hf.2 h5⟩;have hl:=hf.1;clear h1 h2 hf h4 h5;generalize cur.toList.take ys.length=l at h3;induction ys generalizing l with
  |nil=>cases l with|nil=>trivial|cons _ _=>exact h3.elim
  |cons y ys ih=>
   cases l with
   |nil=>exact h3.elim
   |cons z l=>simp only[List.all_cons,J]at hl;exact⟨jbf _ _ _ hl.1 h3.1,ih hl.2 l h3.2⟩
 |.rl e x::as,u::us,.rl y::os,hf,⟨⟨t,xs,h1,_⟩,_,_⟩=>by
  grind[Out.flat,Ty.flat]
 |.v _::as,_::us,os,hf,h=>jdw (S1:=S1) (as:=as) (zs:=us) hsub hf h
 |.ip _::as,_::us,os,hf,h=>jdw (S1:=S1) (as:=as) (zs:=us) hsub hf h
 |.clo _ _::as,_::us,os,hf,h=>jdw (S1:=S1) (as:=as) (zs:=us) hsub hf h
 |.mv _ _::as,_::us,os,hf,h=>jdw (S1:=S1) (as:=as) (zs:=us) hsub hf h
theorem jxP{S S':j09}{w:É}{e:H}{a:Ty}{xs:F a.den}{u:G}(hf:a.flat=Ã)(h:jeZ S' w e a xs u):jeZ S w e a xs u:=by
 rcases h with⟨hm,css,h1,h2⟩|⟨hm,h1⟩
 .exact .inl ⟨hm,css,h1,h2.mono λx c hx=>jbf _ _ _ hf hx⟩
 .refine .inr ⟨hm,?_⟩;revert hf h1;cases a with
  |pair k b=>intro hf h1;simp only[Ty.flat,J]at hf;obtain⟨g,es,clock,hu,hh,ha,hq⟩:=h1;exact⟨g,es,clock,hu,hh,ha.mono λx e hx=>⟨jbf _ _ _ hf.1 hx.1,jbf _ _ _ hf.2 hx.2.1,hx.2.2⟩,hq⟩
  |_=>intro _ h1;exact h1.elim
theorem joC{S':j09}{w':É}(hsub:∀g o,S g o->S' g o):∀{rs:F RV}{vs:F G},rs.all RV.flat=Ã->All2 (jjz S' w') rs vs->All2 (jjz S w') rs vs
 |[],[],_,_=>trivial
 |r::rs,v::vs,hf,h=>by
  simp only[List.all_cons,J]at hf;have i1:=joC hsub hf.2 h.2;cases r with
  |v x=>obtain⟨h1,h2,h3⟩:=h.1;exact⟨⟨jbf _ _ _ hf.1 h1,h2,h3⟩,i1⟩
  |own e x=>obtain⟨a,xs,rfl,h1,h2⟩:=h.1;exact⟨⟨a,xs,rfl,jxP hf.1 h1,λg hg o hs=>h2 g hg o (hsub g o hs)⟩,i1⟩
  |so ls=>simp[RV.flat]at hf
  |box ls=>simp[RV.flat]at hf
  |hd n=>simp[RV.flat]at hf
  |vn x ns=>simp[RV.flat]at hf
  |clo f cs=>simp[RV.flat]at hf
  |raw ns s=>simp[RV.flat]at hf
 |[],_::_,_,h=>h.elim
 |_::_,[],_,h=>h.elim
theorem jxQ{rd:H->BS}(hrd:RdOk σ rd){un:Ups}(h:un.all (λe=>j6s (rd e.1))=Ã):∀x∈un,σ.bx x.1 = .free:=
 λx hx=>hrd.free (List.all_eq_true.1 h x hx)
theorem All2.len{α β:Type}{R:α->β->Prop}{as:F α}{bs:F β}(h:All2 R as bs):as.length=bs.length:=h.length
theorem juv{γ':H->G}{bx:H->BS}{S':j09}{w':É}{tmv:H->G}{cs:F Cel}{vs:F G}(h:All2 (j0m S' w' γ' bx) cs vs) :
  j4i S' w' γ' bx tmv (jhj cs) (j7f vs):=by
 match cs,vs,h with
 |[c],[v],h=>exact h.1
 |[],[],h=>exact⟨#[],rfl,trivial⟩
 |c::c'::cs,v::v'::vs,h=>exact⟨(v::v'::vs).toArray,rfl,by simpa using h⟩
 |[c],v::v'::vs,h=>exact h.2.elim
 |c::c'::cs,[v],h=>exact h.2.elim
 |[],v::vs,h=>exact h.elim
 |c::cs,[],h=>exact h.elim
theorem je6{bx:H->BS}{k e:H}{t:Ty}:∀{as:F Arg}{us:F G}{fs:F Bk},j8X bx γ as us (.rl k e t::fs)->∀(bs:F Arg)(vs:F G),jjJ (as++bs) (us++vs)=D (γ k)
 |.rl e x::as,u::us,fs,⟨_,h1,_,_⟩,bs,vs=>by rw[<-h1];rfl
 |.v _::as,_::us,fs,h,bs,vs=>je6 (as:=as) (us:=us) (fs:=fs) h bs vs
 |.ip _::as,_::us,fs,h,bs,vs=>je6 (as:=as) (us:=us) (fs:=fs) h bs vs
 |.clo _ _::as,_::us,fs,h,bs,vs=>je6 (as:=as) (us:=us) (fs:=fs) h bs vs
 |[],[],fs,h,_,_=>h.elim
 |.ref _::as,_::us,fs,h,_,_=>h.elim
 |.mv _ _::as,_::us,fs,h,_,_=>h.elim
 |[],_::_,fs,h,_,_=>h.elim
 |_::_,[],fs,h,_,_=>by cases ‹Arg› <;> exact h.elim
theorem jkm{α β:Type}:∀(l:F α)(l':F β),List.Sublist ((l.zip l').map (·.1)) l
 |[],_=>smp_
 |_::_,[]=>smp_
 |x::l,y::l'=>by simpa using jkm l l'
theorem jrC:∀(as:F Arg)(us:F G)(bs:F Arg)(vs:F G),as.length=us.length->mvOf (as++bs) (us++vs)=mvOf as us++mvOf bs vs
 |[],[],bs,vs,_=>rfl
 |a::as,u::us,bs,vs,h=>by
  have ih:=jrC as us bs vs (by simpa using h);cases a<;>simp[mvOf,ih]
 |[],_::_,_,_,h=>by simp at h
 |_::_,[],_,_,h=>by simp at h
theorem juw:∀(cs:F Cap)(zs:F G),mvOf (cs.map jeG) zs=[]
 |[],_=>by cases ‹F G› <;> rfl
 |c::cs,[]=>by cases c<;>rfl
 |c::cs,z::zs=>by cases c<;>simp[mvOf,jeG,juw cs zs]
theorem jn6:∀{fs:F Bk}{os:F Out}{uo:Ups}{f:Bk},jar fs os=D uo->f∈fs->f.isMv=Ã->(f.name,BS.gone)∈uo
 |[],os,uo,f,_,hf,_=>by simp at hf
 |.mv k e a::fs,os,uo,f,h,hf,hm=>by
  simp only[jar]at h;split at h
  .rename_i u' hu';simp only[j5]at h;subst h;rcases List.mem_cons.1 hf with rfl|hf
   .exact ð
   .exact Í _ (jn6 hu' hf hm)
  .simp at h
 |.ref k::fs,[],uo,f,h,hf,hm=>by simp[jar]at h
 |.rl k e a::fs,[],uo,f,h,hf,hm=>by simp[jar]at h
 |.ref k::fs,o::os,uo,f,h,hf,hm=>by
  simp only[jar]at h;split at h
  .split at h
   .rename_i u' hu';simp only[j5]at h;subst h;rcases List.mem_cons.1 hf with rfl|hf
    .simp[Bk.isMv]at hm
    .exact Í _ (jn6 hu' hf hm)
   .simp at h
  .simp at h
 |.rl k e a::fs,o::os,uo,f,h,hf,hm=>by
  simp only[jar]at h;split at h
  .split at h
   .rename_i u' hu';simp only[j5]at h;subst h;rcases List.mem_cons.1 hf with rfl|hf
    .simp[Bk.isMv]at hm
    .exact Í _ (jn6 hu' hf hm)
   .simp at h
  .simp at h
theorem jsO{P:À}(hR:Rel N np S0 w0 refs σ a w S γ){rw rd rdf:H->BS}(hrw:RdR σ rw)(hrd:RdOk σ rd)(hrdf:RdF np σ rdf){T:H->Â TyI}{ts:F H}{ms:F ä}{cs:F Cel}{as:F Arg}{us:Ups}{fs:F Bk}{zs:F G}
  {mv:ä}(h:jeF rw rdf T mv ts ms cs=D (as,us,fs))(ha:All2 (j0m S w γ σ.bx) cs zs)(hok:bkOk us fs=Ã)
  {caps:F Cap}{cv:F G}(hcv:All2 (j82 S w) caps cv){g:H}{K:Ret->Prop}
  (hspec:jxN P g (as++caps.map jeG) K)(n:H) :
  Calls P g (zs++cv).toArray w λe w'=>∃ret,K ret/\∀s u,jpP rd rdf n us fs ret=D (s,u)->∃v S' γ',e = .returned v/\Rel N np S0 w0 refs (σ.upd u) a w' S' γ'/\j4i S' w' γ' (σ.upd u).bx (tm a) s v:=by
 obtain⟨hfl,hbk,hdata⟩:=jml hR hrw hrdf h ha;simp only[bkOk,J]at hok;obtain⟨hnd,hsep⟩:=hok;have hnd:=ja7 hnd
 have hlen:as.length=zs.length:=by
  have:∀{as:F Arg}{us:F G}{fs:F Bk},j8X σ.bx γ as us fs->as.length=us.length:=by
   intro as;induction as with
   |nil=>intro us fs hh;cases us with|nil=>rfl|cons _ _=>exact hh.elim
   |cons a as ih=>
    intro us fs hh;cases us with
    |nil=>cases a<;>exact hh.elim
    |cons u us=>
     cases a with
     |v x=>have:=ih (us:=us) (fs:=fs) hh;simp[this]
     |ip x=>have:=ih (us:=us) (fs:=fs) hh;simp[this]
     |clo x y=>have:=ih (us:=us) (fs:=fs) hh;simp[this]
     |ref ls=>match fs,hh with|.ref k::fs,⟨_,_,h3⟩=>grind
     |rl e x=>match fs,hh with|.rl k e' t::fs,⟨_,_,_,h3⟩=>grind
     |mv e x=>match fs,hh with|.mv k e' t::fs,⟨_,_,_,h3⟩=>grind
  exact this hbk
 obtain⟨S1,hR1,hst1,hfz1,hsame⟩:=j4t us σ S hR hfl;have hsepk:∀k,k∈fs.map Bk.name->us.any (λy=>y.1==k)=false:=by grind
 have hsame1:∀f∈fs,(σ.upd us).bx f.name=σ.bx f.name:=λf hf=>j2H us σ (hsepk _ (List.mem_map_of_mem hf));have hbk1:=hbk.congr hsame1
 have hnoS:∀k b,fs.any (λy=>y.name==k)=Ã->σ.bx k = .live b->∀g,blk (γ k)=D g->∀o,¬S1 g o:=by
  intro k b hk hb g hg o;obtain⟨f,hf,he⟩:=List.any_eq_true.1 hk;have he:f.name=k:=by simpa using he
  subst he;have hb1:(σ.upd us).bx f.name = .live b:=(hsame1 f hf).trans hb;have hbox:=hR1.box f.name b hb1
  have hkind:(∃ls',b = .cell ls' M)\/(∃e t xs,b = .lst e t xs M):=by
   have:∀{as:F Arg}{us:F G}{fs:F Bk},j8X σ.bx γ as us fs->f∈fs->(∃ls',σ.bx f.name = .live (.cell ls' M))\/(∃e t xs,σ.bx f.name = .live (.lst e t xs M)):=by
    intro as;induction as with
    |nil=>intro us fs hh hm;match us,fs,hh with|[],[],_=>simp at hm
    |cons a as ih=>
     intro us fs hh hm;cases us with
     |nil=>cases a<;>exact hh.elim
     |cons u us=>
      cases a with
      |v x=>exact ih (us:=us) (fs:=fs) hh hm
      |ip x=>exact ih (us:=us) (fs:=fs) hh hm
      |clo x y=>exact ih (us:=us) (fs:=fs) hh hm
      |ref ls=>
       match fs,hh with
       |.ref k::fs,⟨_,⟨ls',h2⟩,h3⟩=>
        rcases List.mem_cons.1 hm with rfl|hm
        .exact .inl ⟨ls',h2⟩
        .exact ih h3 hm
      |rl e x=>
       match fs,hh with
       |.rl k e' t::fs,⟨_,_,⟨xs,h2,_⟩,h3⟩=>
        rcases List.mem_cons.1 hm with rfl|hm
        .exact .inr ⟨_,t,xs,h2⟩
        .exact ih h3 hm
      |mv e x=>
       match fs,hh with
       |.mv k e' t::fs,⟨_,_,⟨xs,h2,_⟩,h3⟩=>
        rcases List.mem_cons.1 hm with rfl|hm
        .exact .inr ⟨_,t,xs,h2⟩
        .exact ih h3 hm
   grind
  rcases hkind with⟨ls',rfl⟩|⟨e,t,xs,rfl⟩
  .obtain⟨g',cur,e,hg',_,_,_,hS,_⟩:=hbox;grind[blk]
  .exact(hbox.2 g hg).1 rfl o
 have hargs:All2 (jbJ S1 w) as zs:=hdata S1 hst1 hfz1 hnoS;have hcaps:All2 (jbJ S1 w) (caps.map jeG) cv:=juq (hcv.mono (λx z hx=>j82.keep hst1 hx));have hrefs:j1O (as++caps.map jeG) (zs++cv)=j1O as zs:=by grind[jmm,jrA]
 have hrefsnd:(j1O as zs).Nodup:=by rw[j8M hbk];have:=jiy hR hnd (λk hk=>by grind[jdd]);grind
 refine(hspec w S1 (zs++cv) (hargs.append hcaps) (by rw[hrefs];exact hrefsnd) hR1.here).mono ?_
 rintro e w' ⟨ret,hK,v,S',vs,rfl,hret⟩
 refine⟨ret,hK,λs u hmk=>?_⟩;obtain⟨hval,hrep,hfresh,hapart,houts,hstays,hnew,hhere,hbelow,hgrow,hos,htape,hout,hraw,hhead⟩:=hret;rw[hrefs]at hbelow;have hmvs:mvOf (as++caps.map jeG) (zs++cv)=mvOf as zs:=by grind[jrC,juw]
 rw[hmvs]at hfresh hnew;have hpar:∀f∈fs,f.isMv=Ã->parK np f.name=false:=jmn hrdf h;have houts:=je5 hlen houts;refine⟨v,?_⟩;unfold jpP at hmk;split at hmk
 ·-- the list handed first,cut short
  rename_i m hvm;unfold mkHd at hmk;generalize hro:ret.outs=ro at hmk houts;split at hmk
  .rename_i k e el fs' y os' _;split at hmk
   .rename_i uo ys huo hys;split at hmk
    .rename_i hcond;simp only[J]at hcond;simp only[j5,j9]at hmk;obtain⟨rfl,rfl⟩:=hmk;have hR2:=jiA hR1 hstays hnew hhere (λ_ h=>h) hpar hbk1 hnd huo houts hbelow hgrow hos htape hout;obtain⟨hkeys,hobox⟩:=jbg hR1 hbk1 huo houts;have hnk:(uo.map (·.1)).Nodup:=by rw[hkeys];exact hnd
     have huo':(k,BS.live (.lst e el ys M))∈uo:=by grind[jar,jxr]
     have hk2:=jmo uo (σ.upd us) hnk huo';obtain⟨bl,hbl⟩:=jdq hcond.2;have hkp:=hrdf.par hbl;have h0:=hrd.free hcond.1;have h1:(σ.upd us).bx n = .free:=hsame.free h0;have hfree2:((σ.upd us).upd uo).bx n = .free:=by grind[j2H]
     obtain⟨ad,len,cap,hfr,hml,hvs⟩:=hhead m hvm;have hgk:γ k = .slice ad len cap:=by grind[je6]
     have hlen':len=ys.length:=by obtain⟨css,hown,_⟩:=jru hgk (hR2.box k _ hk2);rcases hown.2 with⟨hg',hn⟩|⟨g,cap',cur,hg',_⟩;all_goals simp_all
     obtain⟨γ',hRn,hcn⟩:=jxJ hR2 hk2 hkp hfree2 (m:=m) omg_ (by rw[hgk,hlen']);refine⟨S',γ',rfl,by grind[j6S],?_⟩;rw[hval,hvs,j6S,j6S];exact hcn
    .simp at hmk
   .simp at hmk
  .simp at hmk
 ·-- the results as they lie
  rename_i ns sn hvm;unfold jxt at hmk;generalize hro:ret.outs=ro at hmk houts;split at hmk
  case h_2=>simp at hmk
  split at hmk
  case isFalse=>simp at hmk
  rename_i hcond;simp only[J]at hcond;simp only[j5,j9]at hmk;obtain⟨rfl,rfl⟩:=hmk;have hR2:=jiA hR1 hstays hnew hhere (λ_ h=>h) hpar hbk1 hnd (uo:=[]) rfl houts hbelow hgrow hos htape hout;have hsub:∀x∈rawU ns sn,x.1∈ns:=λx hx=>(List.of_mem_zip hx).1
  obtain⟨γ',hR3,zs',hv',hc'⟩:=jut (h0:=w.heap.size) hR2 hR.grow (λk b g hb hg=>j4O (hR1.box k b hb) hg) (λg hg=>hR.kw_new hg) (hraw ns sn hvm)
   (λx hx=>hsame.free (hrd.free (List.all_eq_true.1 hcond.2 x.1 (hsub x hx)))) (by
    exact List.Nodup.sublist (jkm _ _) (ja7 hcond.1))
  refine⟨S',γ',rfl,by rw[j6S];exact hR3,?_⟩;rw[hv',j6S];exact juv hc'
 split at hmk
 .rename_i uo huo;split at hmk
  .rename_i cs' un hun;split at hmk
   .rename_i hfree;have hfree:=jxQ hrd hfree
    have hfin:∀(usx:Ups)(Sx Sy:j09),(usx=us\/usx=[])->Rel N np S0 w0 refs (σ.upd usx) a w Sx γ->j3m Sx w Sy w'->(∀g o,Sy g o->Sx g o\/w.heap.size<=g\/g∈mvOf as zs)->(∀g o,Sy g o->g<w'.heap.size)->
      j68 Sy w' as zs ret.outs->All2 (jjz Sy w') ret.vals vs->
      ∃S' γ',Rel N np S0 w0 refs (σ.upd (usx++uo++un)) a w' S' γ'/\All2 (j0m S' w' γ' (σ.upd (usx++uo++un)).bx) cs' vs:=by
     intro usx Sx Sy husx hRx hstx hnewx hherex houtx hvalx
     have hbkx:j8X (σ.upd usx).bx γ as zs fs:=by
      rcases husx with rfl|rfl
      .exact hbk1
      .exact hbk
     have hR2:=jiA hRx hstx hnewx hherex (λ_ h=>h) hpar hbkx hnd huo houtx hbelow hgrow hos htape hout;obtain⟨hkeys,hobox⟩:=jbg hRx hbkx huo houtx;have hlive2:∀k b,((σ.upd usx).upd uo).bx k = .live b->∃b',(σ.upd usx).bx k = .live b':=by grind[j2H]
     have hfree2:∀x∈un,((σ.upd usx).upd uo).bx x.1 = .free:=by
      intro x hx;have h0:=hfree x hx
      have h1:(σ.upd usx).bx x.1 = .free:=by
       rcases husx with rfl|rfl
       .exact hsame.free h0
       .exact h0
      rw[j2H uo,h1];rw[ã];intro y hy he;simp only[beq_iff_eq]at he;grind
     obtain⟨γ',hR3,_,hcel⟩:=jrB hR2 hun hvalx hfree2 hapart (λg hg=>by
      rcases hfresh g hg with hge|hgm
      .refine⟨⟨.inl (â hR.grow hge),hR.kw_new hge⟩,λk b hb he=>?_⟩;obtain⟨b',hb'⟩:=hlive2 k b hb;have:=j4O (hRx.box k b' hb') he;omega
      .obtain⟨f,hf,hfm,hfg⟩:=jcw hbkx hgm;obtain⟨bf,hbf⟩:=jdd hbkx f hf;refine⟨⟨?_,hRx.kw_live hbf hfg⟩,λk b hb he=>?_⟩
       .rcases hRx.own f.name bf g hbf hfg with h|h;all_goals grind
       .obtain⟨b',hb'⟩:=hlive2 k b hb
        have hkf:k≠f.name:=by
         rintro rfl
         have hgone:=jn6 huo hf hfm;grind[jmo]
        exact hRx.apart k f.name b' bf g hkf hb' hbf he hfg)
     grind[j6S]
    have hcase:∃usx,(usx=us\/usx=[])/\usx=(if ret.vals.all RV.flat&&ret.outs.all Out.flat then [] else us)/\
      ∃S' γ',Rel N np S0 w0 refs (σ.upd (usx++uo++un)) a w' S' γ'/\All2 (j0m S' w' γ' (σ.upd (usx++uo++un)).bx) cs' vs:=by
     by_cases hflat:(ret.vals.all RV.flat&&ret.outs.all Out.flat)=Ã
     .refine⟨[],.inr rfl,by rw[if_pos hflat],?_⟩;obtain⟨hf1,hf2⟩:=Bool.and_eq_true_iff.1 hflat;have hsub:∀g o,S g o->S' g o:=λg o hs=>(hstays g o (hst1 g o hs).1).1
      refine hfin [] S S (.inr rfl) hR (λg o hs=>⟨hs,(hstays g o (hst1 g o hs).1).2⟩) (λg o hs=> .inl hs) (λg o hs=>Nat.lt_of_lt_of_le (hR.here g o hs) hgrow)
       (jdw (S1:=S1) hsub hf2 houts) (joC hsub hf1 hrep)
     grind
    obtain⟨usx,_,husx,S2,γ2,hR2,hcel2⟩:=hcase
    have hs:s=jhj cs'/\u=(if ret.vals.all RV.flat&&ret.outs.all Out.flat then [] else us)++uo++un:=by
     clear hcel2 hfin hR2 hun;revert hmk;match cs' with
     |[c]=>simp only[j5,j9];rintro⟨rfl,rfl⟩;exact⟨rfl,rfl⟩
     |[]=>simp only[j5,j9];rintro⟨rfl,rfl⟩;exact⟨rfl,rfl⟩
     |c::c'::r=>simp only[j5,j9];rintro⟨rfl,rfl⟩;exact⟨rfl,rfl⟩
    grind[juv]
   .simp at hmk
  .simp at hmk
 .simp at hmk
theorem jjL{P:À}{f:H}(hf:Fun P f){o:Oper}{cl:Call}(ho:o.op = .call cl){x:Operand}(hc:cl.callee = .value x){cv:Î G}(hx:a.eval x = .func (.func f) #[] cv) :
  (execOp a.eval o).run P w = .ok (.enter f (cl.args.map a.eval++cv)) w:=by
 obtain⟨fn,h1,h2,h3⟩:=hf;have h2':¬fn.body=none:=λhn=>by simp_all
 have h3' : ¬ fn.name = "runtime.NumGoroutine" := by simpa using h3
 simp[execOp,ho,resolve,hc,Deferred.ofValue,hx,invoke,callFunc,h1,h2',h3']
def keyV:(k:Ty)->k.den->G
 |.int q,n=> .int q n
 |.str,s=> .string s
 |_,_=>undef
theorem jiB:∀{k:Ty}{x:k.den}{u:G},k.isKey=Ã->(Rep S w k x [u]↔u=keyV k x)
 |.int q,x,u,_=>by simp[Rep,keyV]
 |.str,x,u,_=>by simp[Rep,keyV]
 |.bool,_,_,h=>by simp[Ty.isKey]at h
 |.unit,_,_,h=>by simp[Ty.isKey]at h
 |.wrap _,_,_,h=>by simp[Ty.isKey]at h
 |.pair _ _,_,_,h=>by simp[Ty.isKey]at h
 |.list _,_,_,h=>by simp[Ty.isKey]at h
 |.arr _ _,_,_,h=>by simp[Ty.isKey]at h
def keyD:Ty->TypeDesc
 |.int q=> .int q
 |_=> .string
theorem jxR{P:À}{T:H->Â TyI}(hT:j1K P T){n:H}{ti:TyI}(hn:T n=D ti){k:Ty}(hty:ti.ty=D k)(hk:k.isKey=Ã):P.underlying n=D (keyD k):=by
 cases k with
 |int q=>exact jpV hT hn hty
 |str=>exact jpY hT hn hty
 |_=>simp[Ty.isKey]at hk
theorem jz8{k:Ty}(hk:k.isKey=Ã)(x:k.den):MapKept.IsKey (keyD k) (keyV k x):=by
 cases k with
 |int q=>rfl
 |str=>trivial
 |_=>simp[Ty.isKey]at hk
theorem jn7{k:Ty}(hk:k.isKey=Ã)(x y:k.den):Instr.sameNow (keyD k) (keyV k x) (keyV k y)=D (@BEq.beq _ k.keq x y):=by
 cases k with
 |int q=>simp[keyD,keyV,Instr.sameNow]
 |str=>simp[keyD,keyV,Instr.sameNow]
 |_=>simp[Ty.isKey]at hk
theorem jBL{k:Ty}(hk:k.isKey=Ã){x y:k.den}(h:@BEq.beq _ k.keq x y=Ã):x=y:=by
 cases k with
 |int q=>simpa[Ty.keq]using h
 |str=>exact(ú x y).1 h
 |_=>simp[Ty.isKey]at hk
theorem jrD{k:Ty}(hk:k.isKey=Ã)(x:k.den):Instr.sameBits 10000 (keyV k x) (keyV k x)=true:=by
 cases k with
 |int q=>simp[keyV,Instr.sameBits]
 |str=>simp only[keyV,Instr.sameBits];exact(ú x x).2 rfl
 |_=>simp[Ty.isKey]at hk
def jkn(S:j09)(w:É)(k v:Ty)(x:k.den×v.den)(e:MapEntry):Prop:=Rep S w k x.1 [e.key]/\VRep S w ⟨v,x.2⟩ e.val
theorem jn8{k v:Ty}(hk:k.isKey=Ã)(q:k.den):∀{xs:F (k.den×v.den)}{es:F MapEntry},All2 (jkn S w k v) xs es->∀i:H,
  (@j38 _ _ k.keq xs q=Ã/\∃j e,è (keyD k) (keyV k q) es i=D (D (i+j,e.val))/\es[j]? = D e/\e.key=keyV k q/\VRep S w ⟨v,@j1x _ _ k.keq v.dflt xs q⟩ e.val/\
   ∀(z:v.den)(e':MapEntry),e'.key=keyV k q->VRep S w ⟨v,z⟩ e'.val->All2 (jkn S w k v) (@j2Y _ _ k.keq xs q z) (es.set j e'))\/
  (@j38 _ _ k.keq xs q=M/\è (keyD k) (keyV k q) es i=D U/\@j1x _ _ k.keq v.dflt xs q=v.dflt/\∀z,@j2Y _ _ k.keq xs q z=xs++[(q,z)])
 |[],[],_,i=> .inr ⟨rfl,rfl,rfl,λ_=>rfl⟩
 |x::xs,e::es,h,i=>by
  have hek:e.key=keyV k x.1:=(jiB hk).1 h.1.1;have hs:=jn7 hk q x.1;rw[<-hek]at hs;cases hb:@BEq.beq _ k.keq q x.1 with
  |true=>
   rw[hb]at hs;have hqx:=jBL hk hb;refine .inl ⟨by simp[j38,hb],0,e,by simp[è,hs],rfl,by rw[hek,hqx],?_,λz e' h1 h2=>?_⟩
   .simp only[j1x,hb,j6];exact h.1.2
   .simp only[j2Y,hb,j6,List.set_cons_zero];exact⟨⟨(jiB hk).2 h1,h2⟩,h.2⟩
  |false=>
   rw[hb]at hs;rcases jn8 hk q h.2 (i+1) with⟨h1,j,e',h2,h3,h4,h5,h6⟩|⟨h1,h2,h3,h4⟩
   .refine .inl ⟨by simp only[j38,ò,hb,Bool.false_or];exact h1,j+1,e',by simp only[è,hs,h2];congr 3;omega,by simpa using h3,h4,?_,λz e2 g1 g2=>?_⟩
    .simp only[j1x,hb,j7];exact h5
    .simp only[j2Y,hb,j7,List.set_cons_succ];exact⟨h.1,h6 z e2 g1 g2⟩
   .refine .inr ⟨by simp only[j38,ò,hb,Bool.false_or];exact h1,by simp only[è,hs,h2],?_,λz=>?_⟩
    .simp only[j1x,hb,j7];exact h3
    .simp only[j2Y,hb,j7,h4 z];rfl
 |[],_::_,h,_=>h.elim
 |_::_,[],h,_=>h.elim
theorem jz9{k v:Ty}(hk:k.isKey=Ã){q:k.den}:∀{xs:F (k.den×v.den)}{es:F MapEntry},All2 (jkn S w k v) xs es->@j38 _ _ k.keq xs q=M->∀e∈es,e.key≠keyV k q
 |[],[],_,_=>smp_
 |x::xs,e::es,h,hn=>by
  simp only[j38,ò,ê]at hn;intro e' he';rcases List.mem_cons.1 he' with rfl|he'
  .intro hq;have hek:=(jiB hk).1 h.1.1;have hs:=jn7 hk q x.1;rw[<-hek,hq,jn7 hk q q,hn.1]at hs;simp only[j5]at hs;have:=jrD hk q;cases k with
   |int z=>simp at hs
   |str=>have:=(ú q q).2 rfl;exact absurd (hs.symm.trans this) smp_
   |_=>simp[Ty.isKey]at hk
  .exact jz9 hk h.2 hn.2 e' he'
 |[],_::_,h,_=>h.elim
 |_::_,[],h,_=>h.elim
theorem jn9{P:À}{T:H->Â TyI}(hT:j1K P T){t:H}{k v:Ty}(h:jk6 T t=D (k,v)) :
  ∃kt vt tv,P.underlying t=D (.map kt vt)/\P.underlying kt=D (keyD k)/\k.isKey=Ã/\T vt=D tv/\tv.ty=D v:=by
 unfold jk6 at h;split at h
 .rename_i ti hti;split at h
  .rename_i k0 v0 hmp;split at h
   .rename_i tk tv htk htv;split at h
    .rename_i k1 v1 hk1 hv1;split at h
     .rename_i hik;simp only[j5,j9]at h;obtain⟨rfl,rfl⟩:=h;exact⟨k0,v0,tv,jAi hT hti hmp,jxR hT htk hk1 hik,hik,htv,hv1⟩
     .simp at h
    .simp at h
   .simp at h
  .simp at h
 .simp at h
theorem jux{rw:H->BS}(hrw:RdR σ rw){t:H}{k v:Ty}{x y:Leaf}{b:H}{ys:F (k.den×v.den)}{q:k.den}(h:mapC rw t k v x y=D (b,ys,q)) :
  x = .ol b/\y = .d k q/\σ.bx b = .live (.lst (4294967296+t) (.pair k v) ys M):=by
 unfold mapC at h;split at h
 .rename_i b0 tk key;split at h
  .rename_i e a0 xs hb;split at h
   .rename_i he;split at h
    .rename_i ys' q' h1 h2;simp only[j5,j9]at h;obtain⟨rfl,rfl,rfl⟩:=h;have e1:=jgi h1;have e2:=jgi h2;cases e1;cases e2;subst he;exact⟨rfl,rfl,hrw.live hb⟩
    .simp at h
   .simp at h
  .simp at h
 .simp at h
theorem jhp(t:H):isM (4294967296+t)=true:=by
 unfold isM;rw[Nat.ble_eq];exact Nat.le_add_right _ _
theorem juy(hR:Rel N np S0 w0 refs σ a w S γ){b t:H}{k v:Ty}{ys:F (k.den×v.den)}{f:ä}(hb:σ.bx b = .live (.lst (4294967296+t) (.pair k v) ys f)) :
  ∃g es clock,γ b = .map (D g)/\w.heap[g]? = D (.map es clock)/\All2 (jkn S w k v) ys es.toList/\jjm es clock:=by
 have h:=(hR.box b _ hb).1;rcases h with⟨hm,_⟩|⟨_,g,es,clock,h1,h2,h3,h4⟩
 .rw[jhp]at hm;simp at hm
 .exact⟨g,es,clock,h1,h2,h3,h4⟩
theorem juz{P:À}{T:H->Â TyI}(hT:j1K P T){n:H}{ti:TyI}(hn:T n=D ti){t:Ty}(hty:ti.ty=D t):∃z,(zeroValue n).run P w = .ok z w/\VRep S w ⟨t,t.dflt⟩ z:=by
 obtain⟨i,d,hi,hd,hs,_,ha,_,h⟩:=j5p hT hn;obtain⟨_,⟨z,hz,hc⟩,hdo⟩:=h t hty;have hzo:=jxy hT hn hi hd;refine⟨z,by simp[zeroValue,typeInfo,hi,hz],?_,?_,?_⟩
 .rw[hc];exact j8h t
 .intro hm;have:aggD d=true:=by cases d<;>cases t<;>simp_all[j91,jdn,aggD,Ty.agg]
  simp only[zOk,hz]at hzo;cases z<;>simp_all
 .intro hm;have:aggD d=false:=by cases d<;>cases t<;>simp_all[j91,jdn,aggD,Ty.agg]
  simp only[zOk,hz]at hzo;cases z<;>first|rfl|simp_all
theorem jq2{P:À}{E:Env}(hT:j1K P E.T)(hR:Rel N np S0 w0 refs σ a w S γ){rw:H->BS}(hrw:RdR σ rw){t:H}{k v:Ty}(ht:jk6 E.T t=D (k,v)){x y:Leaf}{b:H}{ys:F (k.den×v.den)}{q:k.den}
  (h:mapC rw t k v x y=D (b,ys,q)){zx zy:G}(hx:j08 S w γ σ.bx x zx)(hy:j08 S w γ σ.bx y zy) :
  ∃z,VRep S w ⟨v,@j1x _ _ k.keq v.dflt ys q⟩ z/\∀ok,(Instr.lookup t zx zy ok).run P w = .ok (if ok then .tuple #[z,.bool (@j38 _ _ k.keq ys q)] else z) w:=by
 obtain⟨kt,vt,tv,hund,hkd,hik,htv,htvy⟩:=jn9 hT ht;obtain⟨rfl,rfl,hb⟩:=jux hrw h;obtain⟨g,es,clock,hg,hh,ha,_⟩:=juy hR hb;have hzx:zx = .map (D g):=(hx.2.2 _ hb).trans hg;have hzy:zy=keyV k q:=(jiB hik).1 hy;subst hzx;subst hzy;have hck:=MapKept.run_checkKey (w:=w) hkd (jz8 hik q) es.isEmpty 9999;rcases jn8 hik q ha 0 with⟨h1,j,e,h2,h3,h4,h5,h6⟩|⟨h1,h2,h3,h4⟩
 .refine⟨e.val,h5,λok=>?_⟩;have hf:=Þ (w:=w) hkd h2;simp only[Instr.lookup,Á,run_underlying hund,I,Õ hh,Ä,hck,hf,h1]
 .obtain⟨z,hz,hzv⟩:=juz (S:=S) (w:=w) hT htv htvy;refine⟨z,by rw[h3];exact hzv,λok=>?_⟩;have hf:=Þ (w:=w) hkd h2;simp only[Instr.lookup,Á,run_underlying hund,I,Õ hh,Ä,hck,hf,h1,hz]
theorem juA(hR:Rel N np S0 w0 refs σ a w S γ){k:H}{b b':Bx}(hk:σ.bx k = .live b){g:H}(hg:blk (γ k)=D g)(hS:∀o,¬S g o)(hsh:j1W b b')
  {w':É}(hoth:∀i,i≠g->w'.heap[i]? = w.heap[i]?)(hsz:w'.heap.size=w.heap.size)(hos:w'.os=w.os)(htp:w'.tape=w.tape)(hout:w'.output=w.output)
  (hb:BxLe γ σ.bx γ (σ.setB k (.live b')).bx->j3m S w S w'->j2i S w' γ (σ.setB k (.live b')).bx k b') :
  Rel N np S0 w0 refs (σ.setB k (.live b')) a w' S γ:=by
 have hle:BxLe γ σ.bx γ (σ.setB k (.live b')).bx:=by
  intro k' hk';by_cases hkk:k'=k
  .subst hkk;rw[j0y];exact⟨smp_,rfl,λb1 hb1=>by simp at hb1;subst hb1;exact⟨b,hk,hsh⟩⟩
  .rw[j07 σ _ hkk];exact⟨hk',rfl,λb hb=>⟨b,hb,.refl b⟩⟩
 have hst:j3m S w S w':=by
  intro g' o h;refine⟨h,Û (hoth g' ?_)⟩
  rintro rfl
  exact hS o h
 have live':∀k' b1,(σ.setB k (.live b')).bx k' = .live b1->∃b2,σ.bx k' = .live b2:=by
  intro k' b1 h1;by_cases hkk:k'=k
  .subst hkk;exact⟨b,hk⟩
  .rw[j07 σ _ hkk]at h1;exact⟨b1,h1⟩
 refine Rel.step (bx':=(σ.setB k (.live b')).bx) hR hst hle ?_ ?_ ?_ hR.new ?_ ?_ ?_ (hos.trans hR.os) (htp.trans hR.tape) (hout.trans hR.output) (λg' _ _ h=>⟨hoth g' (λe=>h k b hk (e▸hg)),λk' b1 h1=>by
  obtain⟨b2,h2⟩:=live' k' b1 h1;exact h k' b2 h2⟩)
 .intro k' b1 h1;by_cases hkk:k'=k
  .subst hkk;rw[j0y]at h1;simp at h1;subst h1;exact hb hle hst
  .rw[j07 σ _ hkk]at h1;refine j2i.keep hst hle rfl (λg' hg'=>⟨?_,λ_=>ñ⟩) (hR.box k' b1 h1);exact hoth g' (λh=>hR.apart k' k b1 b g hkk h1 hk (h▸hg') hg)
 .intro k' b1 g' h1 hg';obtain⟨b2,h2⟩:=live' k' b1 h1;exact hR.own k' b2 g' h2 hg'
 .intro k1 k2 b1 b2 g' hne h1 h2 hg';obtain⟨b1',h1'⟩:=live' k1 b1 h1;obtain⟨b2',h2'⟩:=live' k2 b2 h2;exact hR.apart k1 k2 b1' b2' g' hne h1' h2' hg'
 .intro g' o h;rw[hsz];exact hR.here g' o h
 .intro g' hg' hr;rw[hoth g' ?_]
  .exact hR.below g' hg' hr
  .rintro rfl
   rcases hR.own k b _ hk hg with h|h
   .exact h.no omg_ hr
   .exact hr h.1
 .rw[hsz];exact hR.grow
theorem jsP{P:À}{E:Env}(hT:j1K P E.T)(hR:Rel N np S0 w0 refs σ a w S γ){rw:H->BS}(hrw:RdR σ rw){t:H}{k v:Ty}(ht:jk6 E.T t=D (k,v)){x y:Leaf}{b:H}{ys:F (k.den×v.den)}{q:k.den}
  (h:mapC rw t k v x y=D (b,ys,q)){zx zy zz:G}(hx:j08 S w γ σ.bx x zx)(hy:j08 S w γ σ.bx y zy){rdf:H->BS}(hrdf:RdF np σ rdf){c:Cel}{z:v.den}{u:Ups}(hd:jeD rdf v c=D (z,u))(hz:j0m S w γ σ.bx c zz) :
  ∃w' S',(í t zx zy zz).run P w = .ok () w'/\Rel N np S0 w0 refs (σ.upd (u++[(b,.live (.lst (4294967296+t) (.pair k v) (@j2Y _ _ k.keq ys q z) M))])) a w' S' γ:=by
 obtain⟨kt,vt,tv,hund,hkd,hik,htv,htvy⟩:=jn9 hT ht;obtain⟨rfl,rfl,hb⟩:=jux hrw h;obtain⟨hfl,hrep,_⟩:=jds hrdf hR.box hd hz;obtain⟨S1,hR1,hst1,hfz1,hsame⟩:=j4t u σ S hR hfl;have hnb:u.any (λy=>y.1==b)=false:=by rw[ã];intro y hy hyb;obtain⟨_,e,t',xs,f,h1,_,hm⟩:=hfl y hy;rw[show y.1=b by simpa using hyb,hb]at h1;cases h1;rw[jhp]at hm;simp at hm
 have hb1:(σ.upd u).bx b = .live (.lst (4294967296+t) (.pair k v) ys M):=(j2H u σ hnb).trans hb;obtain⟨g,es,clock,hg,hh,ha,hq⟩:=juy hR1 hb1;have hzx:zx = .map (D g):=(hx.2.2 _ hb).trans hg;have hzy:zy=keyV k q:=(jiB hik).1 hy;subst hzx;subst hzy;have hvz:=hrep S1 w hst1 hfz1;have hgb:blk (γ b)=D g:=by rw[hg];rfl
 have hS:∀o,¬S1 g o:=((hR1.box b _ hb1).2 g hgb).1 rfl;have hck:=MapKept.run_checkKey (w:=w) hkd (jz8 hik q) M 9999
 have main:∃es' clock',(í t (.map (D g)) (keyV k q) zz).run P w = .ok () { w with heap:=w.heap.setIfInBounds g (.map es' clock') }/\All2 (jkn S1 w k v) (@j2Y _ _ k.keq ys q z) es'.toList/\jjm es' clock':=by
  rcases jn8 hik q ha 0 with⟨h1,j,e,h2,h3,h4,h5,h6⟩|⟨h1,h2,h3,h4⟩
  .have hf:=Þ (w:=w) hkd h2;rw[Nat.zero_add]at hf;refine⟨es.modify j λe=>{ e with key:=keyV k q,val:=zz },clock,?_,?_,MapKept.stamped_modify hq.1 j _ (λ_ _=>rfl) (λe1 _ he1=>?_),?_⟩
   .have hjk:((es[j]?).map (·.key)).getD (keyV k q)=keyV k q:=by rw[show es[j]? = D e by simpa using h3];exact h4
    simp only[í,Á,run_underlying hund,I,Õ hh,hck,hf,Instr.keyThatStays,hjk,jrD hik q,if_true,Ä,MapKept.run_setObj_map _ hh]
   .have e1:(es.modify j λe=>{ e with key:=keyV k q,val:=zz }).toList=es.toList.set j { e with key:=keyV k q,val:=zz }:=by
     refine ô λi=>?_;rw[é,Array.getElem?_modify,List.getElem?_set];have h3':es[j]? = D e:=by simpa using h3
     by_cases hij:j=i
     .subst hij;simp only[if_true,h3',à];rw[if_pos (by simpa using (Array.getElem?_eq_some_iff.1 h3').1)]
     .simp[hij]
    rw[e1];exact h6 z _ rfl hvz
   .rw[show es[j]? = D e by simpa using h3]at he1;cases he1;exact h4.symm
   .rw[<-hq.2];refine ô λi=>?_;rw[õ,õ,é,é,Array.getElem?_modify];split
    .rename_i hij;subst hij;cases es[j]? <;> rfl
    .rfl
  .have hf:=Þ (w:=w) hkd h2;refine⟨es.push { key:=keyV k q,val:=zz,born:=clock },clock+1,?_,?_,MapKept.stamped_push hq.1 (jz9 hik ha h1),by rw[Array.toList_push,List.map_append,hq.2,List.range_succ];rfl⟩
   .simp only[í,Á,run_underlying hund,I,Õ hh,hck,hf,MapKept.run_setObj_map _ hh]
   .rw[h4 z,Array.toList_push];exact ha.append ⟨⟨(jiB hik).2 rfl,hvz⟩,trivial⟩
 obtain⟨es',clock',hrun,hall,hq'⟩:=main;have hlt:g<w.heap.size:=(Array.getElem?_eq_some_iff.1 hh).1;refine⟨_,S1,hrun,?_⟩;rw[j6S];refine juA hR1 hb1 hgb hS (b':= .lst (4294967296+t) (.pair k v) (@j2Y _ _ k.keq ys q z) M) ⟨rfl,rfl,λhm=>by rw[jhp]at hm;simp at hm⟩ (λi hi=>by simp[Ne.symm hi]) smp_ rfl rfl rfl λhle hst=>?_;refine⟨.inr ⟨jhp t,g,es',clock',hg,by simp[hlt],hall.mono λx e hx=>⟨Rep.keep hst _ _ _ hx.1,VRep.keep hst hx.2⟩,hq'⟩,λg' hg'=>?_⟩;rw[hgb]at hg';simp at hg';subst hg';exact⟨λ_=>hS,λh=>by simp at h⟩
theorem jsQ{P:À}(hR:Rel N np S0 w0 refs σ a w S γ){n t:H}{k v:Ty}(hn:σ.bx n = .free) :
  ∃γ',(Instr.makeMap t U).run P w = .ok (.map (D w.heap.size)) (w.alloc (.map #[] 0))/\Rel N np S0 w0 refs (σ.setB n (.live (.lst (4294967296+t) (.pair k v) [] M))) a (w.alloc (.map #[] 0)) S γ'/\
   j0m S (w.alloc (.map #[] 0)) γ' (σ.setB n (.live (.lst (4294967296+t) (.pair k v) [] M))).bx (.one (.ol n)) (.map (D w.heap.size)):=by
 have hnb:=jn3 hR hn (o:= .map #[] 0) (b:= .lst (4294967296+t) (.pair k v) [] M) (v:= .map (D w.heap.size)) (λg hg=>by simp[blk]at hg;exact hg.symm) (λhle=>by
  refine⟨.inr ⟨jhp t,w.heap.size, #[],0,j0p _ _ _,heap_alloc_new w _,trivial,MapKept.stamped_empty 0,rfl⟩,λg hg=>?_⟩;rw[j0p]at hg;simp[blk]at hg;subst hg;exact⟨λ_ o ho=>by have:=hR.here _ o ho;omega,λh=>by simp at h⟩)
 refine⟨_,rfl,hnb.1,⟨?_,rfl,λb hb=>(j0p _ _ _).symm⟩,λ_=>rfl⟩;rw[j0y];simp
theorem jsR{P:À}{E:Env}(hT:j1K P E.T)(hR:Rel N np S0 w0 refs σ a w S γ){rdf:H->BS}(hrdf:RdF np σ rdf){t:Ç}{ti:TyI}(ht:E.T t=D ti)
  {m:H}{el:Ty}(hty:ti.ty=D (.arr m el)){ps:F (H×Cel)}{vs:Î (H×G)}{xs:F el.den}{u:Ups}
  (hps:All2 (λp v=>p.1=v.1/\j0m S w γ σ.bx p.2 v.2) ps vs.toList)(h:j9P rdf el (O m el.dflt) [] ps=D (xs,u)) :
  ∃v S',(ç t vs).run P w = .ok v w/\Rel N np S0 w0 refs (σ.upd u) a w S' γ/\j0m S' w γ (σ.upd u).bx (.av m el xs) v:=by
 obtain⟨hund,hpos,te,hte,htety⟩:=jir hT ht hty;have hsz:=jb7 hT hte htety;obtain⟨z,hz,hzc⟩:=jdZ hT ht w hty;obtain⟨hfl,hrest⟩:=jiv hrdf hR.box hpos ps vs.toList hps h .nil;obtain⟨S1,hR1,hst1,hfz1,hsame⟩:=j4t u σ S hR hfl;obtain⟨hrl,css,hall,hflat⟩:=j8h (S:=S1) (w:=w) (.arr m el);obtain⟨cells',css',hfill,hall',hcells⟩:=hrest S1 hst1 hfz1 css z.cells hall (by rw[hzc];exact hflat);have hlen:∀(ps:F (H×Cel)){xs xs':F el.den}{u u':Ups},j9P rdf el xs u ps=D (xs',u')->xs'.length=xs.length:=by intro ps;induction ps<;>grind[j9P]
 have hxl:xs.length=m:=by grind
 refine⟨.agg cells',S1,?_,hR1,cells',rfl,hxl,css',hall',hcells⟩;simp only[ç,Á,hz,I,run_underlying hund,j2F hT hte,<-hsz,hfill,Ä]
theorem jsS{P:À}{E:Env}(hT:j1K P E.T){bx:H->BS}{t:Ç}{ti:TyI}(ht:E.T t=D ti){m:H}{el:Ty}(hty:ti.ty=D (.arr m el)) :
  ∃v,(ç t #[]).run P w = .ok v w/\j0m S w γ bx (.st (jhg (.arr m el))) v:=by
 obtain⟨hund,hpos,te,hte,htety⟩:=jir hT ht hty;obtain⟨z,hz,hzc⟩:=jdZ hT ht w hty;refine⟨.agg z.cells,?_,z.cells,rfl,by grind[jau],λu hu=>jjI hzc u (by simpa using hu)⟩;simp only[ç,Á,hz,I,run_underlying hund,j2F hT hte];rfl
theorem joD{rd:H->BS}(hrd:RdF np σ rd)(hB:jov S w γ σ.bx){el:Ty}:∀{ls:F Leaf}{xs:F el.den}{u:Ups}{zs:F G},jmT rd el ls=D (xs,u)->All2 (j08 S w γ σ.bx) ls zs->
  FrzL np σ.bx u/\∀S' w',j3m S w S' w'->Froz σ.bx γ S' w' u->All2 (λx z=>Rep S' w' el x [z]) xs zs
 |[],xs,u,zs,h,ha=>by
  simp[jmT]at h;obtain⟨rfl,rfl⟩:=h;cases zs with
  |nil=>exact⟨.nil,λ_ _ _ _=>trivial⟩
  |cons _ _=>exact ha.elim
 |l::ls,xs,u,zs,h,ha=>by
  cases zs with
  |nil=>exact ha.elim
  |cons z zs=>
   simp only[jmT]at h;split at h
   .rename_i x u1 xs1 u2 h1 h2;simp only[j5,j9]at h;obtain⟨rfl,rfl⟩:=h;obtain⟨f1,p1⟩:=jbH hrd hB h1 ha.1;obtain⟨f2,p2⟩:=joD hrd hB h2 ha.2;exact⟨FrzL.app.2 ⟨f1,f2⟩,λS' w' hk hf=>⟨p1 S' w' hk (Froz.app.1 hf).1,p2 S' w' hk (Froz.app.1 hf).2⟩⟩
   .simp at h
theorem jmq{el:Ty}{S':j09}{w':É}:∀{xs:F el.den}{zs:F G},All2 (λx z=>Rep S' w' el x [z]) xs zs->∃css,All2 (λx c=>Rep S' w' el x c) xs css/\zs=css.flatten
 |[],[],_=>⟨[],trivial,rfl⟩
 |x::xs,z::zs,h=>by
  obtain⟨css,h1,h2⟩:=jmq h.2;exact⟨[z]::css,⟨h.1,h1⟩,by simp[h2]⟩
 |[],_::_,h=>h.elim
 |_::_,[],h=>h.elim
theorem juB{P:À}{E:Env}(hT:j1K P E.T)(hR:Rel N np S0 w0 refs σ a w S γ){rd rdf:H->BS}(hrd:RdOk σ rd)(hrdf:RdF np σ rdf){t:Ç}{ti:TyI}(ht:E.T t=D ti)
  {x:Leaf}{m:H}{el:Ty}{ls:F Leaf}{xs:F el.den}{u:Ups}{v:G}(h:jhh rd ti.ty x=D (m,el,ls))(hg:jmT rdf el ls=D (xs,u))(hl:xs.length=m)(hx:j08 S w γ σ.bx x v) :
  ∃z S',(Instr.loadAt t v).run P w = .ok z w/\Rel N np S0 w0 refs (σ.upd u) a w S' γ/\j0m S' w γ (σ.upd u).bx (.av m el xs) z:=by
 unfold jhh at h;split at h
 .rename_i k;split at h
  .rename_i m' el' hty;split at h
   .split at h
    .rename_i ls' hk;simp only[j5,j9]at h;obtain⟨rfl,rfl,rfl⟩:=h;have hk:=hrd.live hk;obtain⟨g,hg',hu⟩:=hx.2.2 _ hk;obtain⟨g',cur,e,hg2,hh,ha,h1,_⟩:=hR.box k _ hk;rw[hg']at hg2;simp at hg2;subst hg2;obtain⟨hfl,hrest⟩:=joD hrdf hR.box hg ha;obtain⟨S1,hR1,hst1,hfz1,hsame⟩:=j4t u σ S hR hfl;obtain⟨css,hall,hcs⟩:=jmq (hrest S1 w hst1 hfz1);have hrep:Rep S1 w (.arr m' el') xs (cur.toList.take ls'.length):=⟨hl,css,hall,hcs⟩;obtain⟨hud,_,_⟩:=jir hT ht hty;have hsz:(cur.toList.take ls'.length).length=ti.size:=by have:=Rep.length _ _ _ hrep;rw[jb7 hT ht hty]at this;exact this
     refine⟨.agg (cur.toList.take ls'.length).toArray,S1,?_,hR1,(cur.toList.take ls'.length).toArray,rfl,by simpa using hrep⟩;subst hu
     have hld:=jot (w:=w) (g:=g) (o:=0) (cs:=cur.toList.take ls'.length) (λj v hv=>by
      grind[cell_of_row]) P
     rw[hsz]at hld;have hagg:(isAgg t).run P w = .ok Ã w:=by simp[isAgg,run_underlying hud]
     simp only[Instr.loadAt,Á,Instr.sureAddr,Ä,I,loadVar,hagg,if_true,j2F hT ht,hld]
    .simp at h
   .simp at h
  .simp at h
 .simp at h
def Slot.bare:Slot->ä
 |.cnd _ _ _=>M
 |_=>Ã
theorem joE{fr:ä}{e:H}{b:Ty}{n len:H}{ps:F (H×Cel)}{f:H}{args:F Arg}{mk:Ret->Â (Slot×Ups)}:one1 fr e b n len ps≠D (.call f args mk):=by
 unfold one1;grind
theorem jna(cs:F Cel):(jhj cs).bare=true:=by
 unfold jhj;split<;>rfl
theorem joF(hR:Rel N np S0 w0 refs σ a w S γ){act:F (H×ä)}(hact:jkf (tm a) act)(ps:F (H×Operand)) :
  All2 (λp v=>p.1=v.1/\j0m S w γ σ.bx p.2 v.2) (ps.map λp=>(p.1,(σ.ev p.2).cel act)) (ps.map λp=>(p.1,a.eval p.2)):=by
 induction ps with
 |nil=>trivial
 |cons p ps ih=>exact⟨⟨rfl,j1f hR hact p.2⟩,ih⟩
theorem jnb(hR:Rel N np S0 w0 refs σ a w S γ){act:F (H×ä)}(hact:jkf (tm a) act)(ps:F Operand) :
  All2 (j0m S w γ σ.bx) (ps.map λp=>(σ.ev p).cel act) (ps.map a.eval):=by
 induction ps with
 |nil=>trivial
 |cons p ps ih=>exact⟨j1f hR hact p,ih⟩
theorem jmr{rd:H->BS}(hrd:RdOk σ rd):RdF np σ (λk=>if parK np k then .gone else rd k):=by
 refine⟨λk=>?_,λk e a xs f h=>?_⟩
 rotate_left
 .dsimp only at h
  split at h
  .simp at h
  .exact hrd.2 k e a xs f h
 dsimp only
 split
 .exact .inr rfl
 .rename_i hp;rcases hrd.1 k with h|h;all_goals simp_all
theorem jcx{P:À}{o:Oper}{l:Leaf}{v:G}(hR:Rel N np S0 w0 refs σ a w S γ)(hr:(execOp a.eval o).run P w = .ok (.value v) w)
  (hs:j08 S w γ σ.bx l v)(h1:One v):jua P N np S0 w0 refs o σ a w S γ (.one (.one l)) []:=
 j2G hR hr ⟨hs,λ_=>h1⟩
theorem jsT{c:Cel}{l:Leaf}(h:lf c=l)(hd:l ≠ .dead):c = .one l:=by
 cases c<;>grind[lf]
theorem jq3{P:À}{E:Env}(hT:j1K P E.T)(hR:Rel N E.np S0 w0 refs σ a w S γ){act:F (H×ä)}(hact:jkf (tm a) act){rw:H->BS}(hrw:RdR σ rw)
  {o:Oper}{s:Slot}{u:Ups}(h:j5h E σ.ev rw act o=D (.val Ã s u)):jua P N E.np S0 w0 refs o σ a w S γ s u/\s.bare=true:=by
 have hrd:RdOk σ (mskM rw):=hrw.msk;have hrdf:=jmr (np:=E.np) hrd;have hex:∀op,o.op=op->execOp a.eval o=execOp a.eval { o with op:=op }:=λop h=>by subst h;rfl
 unfold j5h at h;dsimp only at h;split at h
 ·-- move
  rename_i x hop;split at h
  .rename_i l hl;simp only[j5,Act.val.injEq]at h;obtain⟨_,rfl,rfl⟩:=h;have:=jat hR x;rw[hl]at this;exact⟨j2G hR (v:=a.eval x) (by simp[execOp,hop]) this,rfl⟩
  .simp only[j5,Act.cel,Act.val.injEq]at h;obtain⟨_,rfl,rfl⟩:=h;exact⟨j2G hR (v:=a.eval x) (by simp[execOp,hop]) (j1f hR hact x),rfl⟩
 ·-- assign
  rename_i x hop;split at h
  .rename_i l hl;simp only[j5,Act.val.injEq]at h;obtain⟨_,rfl,rfl⟩:=h;have:=jat hR x;rw[hl]at this;exact⟨j2G hR (v:=a.eval x) (by simp[execOp,hop]) this,rfl⟩
  .simp only[j5,Act.cel,Act.val.injEq]at h;obtain⟨_,rfl,rfl⟩:=h;exact⟨j2G hR (v:=a.eval x) (by simp[execOp,hop]) (j1f hR hact x),rfl⟩
 ·-- pick
  rename_i x y z hop;split at h
  .rename_i v hv;have hx:=j1f hR hact x;have hxe:a.eval x = .bool v:=by have:=jsT hv smp_;grind[jah]
   have hrun:(execOp a.eval o).run P w = .ok (.value (if v then a.eval y else a.eval z)) w:=by simp[execOp,hop,hxe,asBool]
   have hy:v=Ã->j0m S w γ σ.bx ((σ.ev y).cel (jxu x Ã act)) (a.eval y):=by
    intro hvt;refine jpX ?_ (jat hR y);cases x with
    |tmp t=>
     intro g hg;rcases List.mem_cons.1 hg with rfl|hg
     .simp only;rw[<-hvt];exact hxe
     .exact hact g hg
    |_=>exact hact
   have hz:v=M->j0m S w γ σ.bx ((σ.ev z).cel (jxu x M act)) (a.eval z):=by
    intro hvt;refine jpX ?_ (jat hR z);cases x with
    |tmp t=>
     intro g hg;rcases List.mem_cons.1 hg with rfl|hg
     .simp only;rw[<-hvt];exact hxe
     .exact hact g hg
    |_=>exact hact
   split at h
   .rename_i t p t' q hp hq;split at h
    .rename_i q' hto;simp only[j5,Act.leaf,Act.val.injEq]at h;obtain⟨_,rfl,rfl⟩:=h;have:=jgi hto;cases this;refine⟨j2G hR hrun ?_,rfl⟩;cases v with
     |true=>have:=hy rfl;rw[hp]at this;exact this
     |false=>have:=hz rfl;rw[hq]at this;exact this
    .simp at h
   .rename_i t p hp hq;simp only[j5,Act.val.injEq]at h;obtain⟨hv',rfl,rfl⟩:=h;have hv':v=true:=hv';subst hv';refine⟨j2G hR hrun ?_,rfl⟩;have:=hy rfl;rw[hp]at this;exact this
   .rename_i t q hp hq;simp only[j5,Act.val.injEq]at h;obtain⟨hv',rfl,rfl⟩:=h;have hv':v=false:=by simpa using hv'
    subst hv';refine⟨j2G hR hrun ?_,rfl⟩;have:=hz rfl;rw[hq]at this;exact this
   .simp at h
  .simp at h
 ·-- alloc
  rename_i t hop;split at h
  .rename_i ti ht;split at h
   .rename_i hfree;have hd:=hrd.free hfree;split at h
    .rename_i k el hty;split at h
     .simp only[j5,Act.val.injEq]at h;obtain⟨_,rfl,rfl⟩:=h;obtain⟨z,hzc,hz⟩:=jki (w:=w) hT ht hty;obtain⟨hRn,hc⟩:=jn4 hR hd (ls:=jhg (.arr k el)) (cur:=z.cells) (e:=t) (by grind[jau]) (jjI hzc);exact⟨⟨_,_,S,_,.inl (by simp[execOp,hop,hz]),hRn,hc⟩,rfl⟩
     simp only[j5,Act.val.injEq]at h;obtain⟨_,rfl,rfl⟩:=h;obtain⟨z,hzc,hz⟩:=jki (w:=w) hT ht hty;obtain⟨hRn,hc⟩:=juj hR hd (m:=k) (t:=el) (xs:=O k el.dflt) (cur:=z.cells) (e:=t) (by rw[hzc];exact j8h (.arr k el));exact⟨⟨_,_,S,_,.inl (by simp[execOp,hop,hz]),hRn,hc⟩,rfl⟩
    .rename_i ty hne hty;simp only[j5,Act.val.injEq]at h;obtain⟨_,rfl,rfl⟩:=h;obtain⟨z,hzc,hz⟩:=jki (w:=w) hT ht hty;obtain⟨hRn,hc⟩:=jn4 hR hd (ls:=jhg ty) (cur:=z.cells) (e:=t) (by grind[jau]) (jjI hzc);exact⟨⟨_,_,S,_,.inl (by simp[execOp,hop,hz]),hRn,hc⟩,rfl⟩
    .simp at h
   .simp at h
  .simp at h
 ·-- box
  rename_i t x hop;split at h
  .rename_i hfree;have hd:=hrd.free hfree;have hx:=j1f hR hact x;split at h
   .rename_i k el xs hc;simp only[j5,Act.val.injEq]at h;obtain⟨_,rfl,rfl⟩:=h;rw[hc]at hx;obtain⟨cs,hu,hrep⟩:=hx;obtain⟨hRn,hcn⟩:=juj hR hd (m:=k) (t:=el) (xs:=xs) (cur:=(a.eval x).cells) (e:=t) (by rw[hu];exact hrep);exact⟨⟨_,_,S,_,.inl (by simp[execOp,hop,juk]),hRn,hcn⟩,rfl⟩
   .split at h
    .rename_i ls hls;simp only[j5,Act.val.injEq]at h;obtain⟨_,rfl,rfl⟩:=h;obtain⟨hl,h1⟩:=ja5 hls hx;obtain⟨hRn,hcn⟩:=jn4 hR hd (ls:=ls) (cur:=(a.eval x).cells) (e:=t) hl h1;exact⟨⟨_,_,S,_,.inl (by simp[execOp,hop,juk]),hRn,hcn⟩,rfl⟩
    .simp at h
  .simp at h
 ·-- build
  rename_i t ps hop;have hps:=joF hR hact ps.toList;have hps':All2 (λp v=>p.1=v.1/\j0m S w γ σ.bx p.2 v.2) (ps.toList.map λp=>(p.1,(σ.ev p.2).cel act)) (ps.map λp=>(p.1,a.eval p.2)).toList:=by simpa using hps
  split at h
  .rename_i ti ht;split at h
   .rename_i k el hty;split at h
    .rename_i hem;simp only[j5,Act.cel,Act.val.injEq]at h;obtain⟨_,rfl,rfl⟩:=h;obtain⟨v,hrun,hc⟩:=jsS (w:=w) (S:=S) (γ:=γ) (bx:=σ.bx) hT ht hty
     have hp0:ps = #[]:=by
      simp_all
     subst hp0;exact⟨j2G hR (v:=v) (by simp[execOp,hop,hrun]) hc,rfl⟩
    split at h
    .rename_i xs u' hb;simp only[j5,Act.val.injEq]at h;obtain⟨_,rfl,rfl⟩:=h;obtain⟨v,S',hrun,hRn,hc⟩:=jsR hT hR hrdf ht hty hps' hb;exact⟨⟨v,w,S',γ,.inl (by simp[execOp,hop,hrun]),hRn,hc⟩,rfl⟩
    .simp at h
   .rename_i ty hne hty;split at h
    .rename_i hag;split at h
     .rename_i ls hb;simp only[j5,Act.cel,Act.val.injEq]at h;obtain⟨_,rfl,rfl⟩:=h;obtain⟨v,hrun,hc⟩:=jsK hT ht hty hag hps' hb;exact⟨j2G hR (v:=v) (by simp[execOp,hop,hrun]) hc,rfl⟩
     .simp at h
    .simp at h
   .simp at h
  .simp at h
 ·-- buildSlice
  rename_i t len ps hop;have hps:=joF hR hact ps.toList;have hps':All2 (λp v=>p.1=v.1/\j0m S w γ σ.bx p.2 v.2) (ps.toList.map λp=>(p.1,(σ.ev p.2).cel act)) (ps.map λp=>(p.1,a.eval p.2)).toList:=by simpa using hps
  split at h
  .rename_i ti ht;split at h
   .rename_i el hty;split at h
    .obtain⟨_,rfl,v',w',γ',hrun,hRn,hc⟩:=jxK hT hR ht hty hrd.free hps' h;exact⟨⟨v',w',S,γ',.inl (by simp[execOp,hop,hrun]),hRn,hc⟩,rfl⟩
    split at h
    .simp at h
    .rename_i hlen;split at h
     .rename_i xs u' hb;split at h
      .rename_i hfree;simp only[j5,Act.val.injEq]at h;obtain⟨_,rfl,rfl⟩:=h;obtain⟨v',w',S',γ',hrun,hRn,hc⟩:=jlN hT hR hrdf ht hty omg_ hps' hb (hrd.free hfree);exact⟨⟨v',w',S',γ',.inl (by simp[execOp,hop,hrun]),hRn,hc⟩,rfl⟩
      .simp at h
     .simp at h
   .simp at h
  .simp at h
 ·-- load
  rename_i t x hop;split at h
  .rename_i ti ht;split at h
   .rename_i m el ls hla;split at h
    .rename_i xs u' hg;split at h
     .rename_i hlen;simp only[j5,Act.val.injEq]at h;obtain⟨_,rfl,rfl⟩:=h;obtain⟨z,S',hz,hRn,hcz⟩:=juB hT hR hrd hrdf ht hla hg hlen (j63 (j1f hR hact x));exact⟨⟨z,w,S',γ,.inl (by simp[execOp,hop,hz]),hRn,hcz⟩,rfl⟩
     .simp at h
    .simp at h
   unfold oCel at h;split at h
   .rename_i c hc;simp only[j5,Act.cel,Act.val.injEq]at h;obtain⟨_,rfl,rfl⟩:=h;obtain⟨z,hz,hcz⟩:=jou hT hR hrd ht hc (j63 (j1f hR hact x));exact⟨j2G hR (v:=z) (by simp[execOp,hop,hz]) hcz,rfl⟩
   .simp at h
  .simp at h
 ·-- store
  rename_i t x y hop;split at h
  .rename_i ti ht;split at h
   .rename_i u' hu;simp only[j5,Act.val.injEq]at h;obtain⟨_,rfl,rfl⟩:=h;obtain⟨w',S',hrun,hRn⟩:=jsI hT hR hrd hrdf ht hu (j63 (j1f hR hact x)) (j1f hR hact y);exact⟨⟨undef,w',S',γ,.inr ⟨by simp[execOp,hop,hrun],rfl⟩,hRn,⟨trivial,λh=>absurd rfl h⟩⟩,rfl⟩
   .simp at h
  .simp at h
 ·-- nilCheck
  rename_i x hop;have hx:=j1f hR hact x;split at h
  .rename_i k p hl;split at h
   .rename_i hlive;simp only[j5,Act.leaf,Act.val.injEq]at h;obtain⟨_,rfl,rfl⟩:=h;rw[jsT hl smp_]at hx;obtain⟨b,hb⟩:=jdq hlive;obtain⟨g,_,hu⟩:=hx.1.2.2 b (hrd.live hb);exact⟨j2G hR (v:=a.eval x) (by simp[execOp,hop,hu]) hx,rfl⟩
   .simp at h
  .rename_i k i p hl;split at h
   .rename_i hlive;simp only[j5,Act.leaf,Act.val.injEq]at h;obtain⟨_,rfl,rfl⟩:=h;rw[jsT hl smp_]at hx;obtain⟨b,hb⟩:=jdq hlive;have h3:=hx.1.2.2 b (hrd.live hb);have hu:∃g o,a.eval x = .pointer (D ⟨g,o,U⟩):=by grind
    obtain⟨g,ofs,hu⟩:=hu;exact⟨j2G hR (v:=a.eval x) (by simp[execOp,hop,hu]) hx,rfl⟩
   .simp at h
  .rename_i ls hl;simp only[j5,Act.leaf,Act.val.injEq]at h;obtain⟨_,rfl,rfl⟩:=h;rw[jsT hl smp_]at hx;obtain⟨g,ofs,cs,hu,_⟩:=hx.1;exact⟨j2G hR (v:=a.eval x) (by simp[execOp,hop,hu]) hx,rfl⟩
  .simp at h
 ·-- binOp
  rename_i op t x y rest hop;unfold oChk at h;split at h
  .rename_i b c hc;simp only[j5,Act.val.injEq]at h;obtain⟨rfl,rfl,rfl⟩:=h;obtain⟨z,hz,hl,h1⟩:=jxA (x:=x) (y:=y) hT hc (j1f hR hact x) (j1f hR hact y);refine⟨jcx hR ?_ hl h1,rfl⟩;simp only[execOp,hop];rw[Á,hz];rfl
  .simp at h
 ·-- unOp
  rename_i op t x hop;unfold jgD at h;split at h
  .rename_i c hc;simp only[j5,Act.leaf,Act.val.injEq]at h;obtain⟨_,rfl,rfl⟩:=h;obtain⟨z,hz,hl,h1⟩:=jAl hc (j1f hR hact x);refine⟨jcx hR ?_ hl h1,rfl⟩;simp only[execOp,hop];rw[Á,hz];rfl
  .simp at h
 ·-- convert
  rename_i src dst x hop;split at h
  .rename_i ts ti hts ht;split at h
   .rename_i k v k0 k' hl hty0 hty;simp only[j5,Act.leaf,Act.val.injEq]at h;obtain⟨_,rfl,rfl⟩:=h;have hx:=j1f hR hact x;rw[jsT hl smp_]at hx;have hu:=je0 hx;have hund:=jpV hT ht hty;refine⟨jcx hR (v:= .int k' (k'.wrap v)) ?_ rfl rfl,rfl⟩;have hund0:=jpV hT hts hty0;simp only[execOp,hop]
    simp_all[convert,run_underlying,Conv.intToInt]
   .simp at h
  .simp at h
 ·-- makeFunc
  rename_i f first caps hop
  split at h
  .rename_i hfirst;split at h
   .rename_i l u' hl;simp only[j5,Act.val.injEq]at h;obtain⟨_,rfl,rfl⟩:=h;have hargs:=jnb hR hact caps.toList;obtain⟨S',hRn,_,hcap,_⟩:=joA hrdf hl hR hargs;have hf0:first = #[]:=by simpa using hfirst
    refine⟨⟨.func (.func f) #[] (caps.map a.eval),w,S',γ,.inl ?_,hRn,⟨⟨_,rfl,by simpa using hcap⟩,λ_=>rfl⟩⟩,rfl⟩;simp[execOp,hop,hf0,Instr.makeFunc]
   .simp at h
  .simp at h
 ·-- fieldAddr
  rename_i t x i hop;split at h
  .rename_i ti ht;unfold jgD at h;split at h
   .rename_i c hc;simp only[j5,Act.leaf,Act.val.injEq]at h;obtain⟨_,rfl,rfl⟩:=h;obtain⟨z,hz,hl,h1⟩:=jsF hT hrd ht hc (j63 (j1f hR hact x));exact⟨jcx hR (by simp[execOp,hop,hz]) hl h1,rfl⟩
   .simp at h
  .simp at h
 ·-- field
  rename_i t x i hop;split at h
  .rename_i ti ht;split at h
   .rename_i ls f hc hf;split at h
    .rename_i tf htf;unfold oCel at h;split at h
     .rename_i c hmk;simp only[j5,Act.cel,Act.val.injEq]at h;obtain⟨_,rfl,rfl⟩:=h;have hx:=j1f hR hact x;rw[hc]at hx;obtain⟨cs,hu,hall,h1⟩:=hx;obtain⟨fs,hund,fl,hfl,ho1,ho2,tf',htf',hpos⟩:=ju9 hT ht hf;rw[<-ho2]at htf;have hall':=(hall.drop fl.offset).take tf.size;have h1':∀u∈(cs.toList.drop fl.offset).take tf.size,One u:=λu hu'=>h1 u (List.mem_of_mem_drop (Ú hu'));rw[<-ho1]at hmk
      have hpart:∃z,(part fl.type cs fl.offset).run P w = .ok z w/\j0m S w γ σ.bx c z:=by
       unfold jlL at hmk;split at hmk
       .rename_i hagg;split at hmk
        .rename_i hlen;simp only[j5]at hmk;subst hmk;refine⟨.agg (cs.extract fl.offset (fl.offset+tf.size)),?_,_,rfl,?_,?_⟩
         .grind[part,Á,jiq,I,j2F,Ä]
         all_goals simp_all
        .simp at hmk
       .rename_i hagg;split at hmk
        .rename_i l' hl';simp only[j5]at hmk;subst hmk;rw[hl']at hall';cases hq:(cs.toList.drop fl.offset).take tf.size with
         |nil=>rw[hq]at hall';exact hall'.elim
         |cons z zs=>
          rw[hq]at hall' h1'
          have hz:cs[fl.offset]? = D z:=by
           have:((cs.toList.drop fl.offset).take tf.size)[0]? = D z:=by rw[hq];rfl
           grind
          refine⟨z,?_,hall'.1,λ_=>h1' z smp_⟩;grind[part,Á,jiq,I,Ä]
        .simp at hmk
      obtain⟨z,hz,hcz⟩:=hpart;refine⟨j2G hR (v:=z) ?_ hcz,rfl⟩
      simp_all[execOp,Instr.field,run_underlying,asAgg]
     .simp at h
    .simp at h
   .simp at h
  .simp at h
 ·-- indexAddr
  rename_i t x i hop;split at h
  .rename_i ti ht;unfold oChk at h;split at h
   .rename_i b c hc;simp only[j5,Act.val.injEq]at h;obtain⟨rfl,rfl,rfl⟩:=h;obtain⟨z,hz,hl,h1⟩:=jsG hT hR hrd ht hc (j63 (j1f hR hact x)) (j63 (j1f hR hact i));exact⟨jcx hR (by simp[execOp,hop,hz]) hl h1,rfl⟩
   .simp at h
  .simp at h
 ·-- index
  rename_i t x i hop;split at h
  .rename_i ti ht;split at h
   .rename_i b c hc;simp only[j5,Act.val.injEq]at h;obtain⟨rfl,rfl,rfl⟩:=h;obtain⟨z,hz,hcz⟩:=jxD hT ht hc (j1f hR hact x) (j63 (j1f hR hact i));exact⟨j2G hR (v:=z) (by simp[execOp,hop,hz]) hcz,rfl⟩
   .simp at h
  .simp at h
 ·-- makeMap
  rename_i t hop;split at h
  .rename_i k v ht;split at h
   .rename_i hfr;simp only[j5,Act.val.injEq]at h;obtain⟨_,rfl,rfl⟩:=h;obtain⟨γ',hrun,hRn,hcn⟩:=jsQ (P:=P) (t:=t) (k:=k) (v:=v) hR (hrd.free hfr);exact⟨⟨_,_,S,γ',.inl (by simp[execOp,hop,hrun]),hRn,hcn⟩,rfl⟩
   .simp at h
  .simp at h
 ·-- lookup
  rename_i t x i ok hop;split at h
  .rename_i k v ht;split at h
   .rename_i b ys q hm;obtain⟨z,hz,hrun⟩:=jq2 hT hR hrw ht hm (j63 (j1f hR hact x)) (j63 (j1f hR hact i));split at h
    .simp only[j5,Act.val.injEq]at h;obtain⟨_,rfl,rfl⟩:=h;have hr:=hrun Ã;simp only[if_true]at hr;refine⟨j2G hR (v:= .tuple #[z,.bool (@j38 _ _ k.keq ys q)]) (by simp[execOp,hop,hr]) ?_,rfl⟩;exact⟨_,rfl,je4 hz,⟨rfl,λ_=>rfl⟩,trivial⟩
    .simp only[j5,Act.cel,Act.val.injEq]at h;obtain⟨_,rfl,rfl⟩:=h;have hr:=hrun M;simp only[Bool.false_eq_true,if_false]at hr;exact⟨j2G hR (v:=z) (by simp[execOp,hop,hr]) (je4 hz),rfl⟩
   .simp at h
  .simp at h
 ·-- mapUpdate
  rename_i t x i y hop;split at h
  .rename_i k v ht;split at h
   .rename_i b ys q z u' hm hd;simp only[j5,Act.val.injEq]at h;obtain⟨_,rfl,rfl⟩:=h;obtain⟨w',S',hrun,hRn⟩:=jsP hT hR hrw ht hm (j63 (j1f hR hact x)) (j63 (j1f hR hact i)) hrdf hd (j1f hR hact y);exact⟨⟨undef,w',S',γ,.inr ⟨by simp[execOp,hop,hrun],rfl⟩,hRn,⟨trivial,λh=>absurd rfl h⟩⟩,rfl⟩
   .simp at h
  .simp at h
 ·-- extract
  rename_i x i hop;split at h
  .rename_i l hl;split at h
   .rename_i c hc;simp only[j5,Act.cel,Act.val.injEq]at h;obtain⟨_,rfl,rfl⟩:=h;have hx:=jat hR x;rw[hl]at hx;obtain⟨vs,hu,hall⟩:=hx;obtain⟨z,hz,hcz⟩:=hall.get i c hc;refine⟨j2G hR (v:=z) ?_ hcz,rfl⟩
    simp_all[execOp,Instr.extract]
   .simp at h
  .simp at h
 ·-- call
  rename_i cl hop;have hargs:=jnb hR hact cl.args.toList;split at h
  ·-- len
   rename_i hcal;split at h
   .rename_i x t hxs hts;split at h
    .rename_i ti ht;unfold jgD at h;split at h
     .rename_i c hc;simp only[j5,Act.leaf,Act.val.injEq]at h;obtain⟨_,rfl,rfl⟩:=h;obtain⟨z,hz,hl,h1⟩:=jxE (ty:=o.type) hT hR hrd ht hc (j63 (j1f hR hact x));have e1:cl.args = #[x]:=by grind
      have e2:cl.argTypes = #[t]:=by grind
      refine⟨jcx hR (v:=z) ?_ hl h1,rfl⟩;simp[execOp,hop,resolve,hcal,invoke,builtin,e1,e2,hz]
     .simp at h
    .simp at h
   .simp at h
  ·-- min
   rename_i hcal;unfold jgD at h;split at h
   .rename_i c hc;simp only[j5,Act.leaf,Act.val.injEq]at h;obtain⟨_,rfl,rfl⟩:=h;obtain⟨z,hz,hl,h1⟩:=jAm (P:=P) (ts:=cl.argTypes) (ty:=o.type) hc hargs;refine⟨jcx hR (v:=z) ?_ hl h1,rfl⟩;have e1:cl.args.map a.eval=(cl.args.toList.map a.eval).toArray:=by apply ý;simp
    simp[execOp,hop,resolve,hcal,invoke,builtin,e1,hz]
   .simp at h
  ·-- max
   rename_i hcal;unfold jgD at h;split at h
   .rename_i c hc;simp only[j5,Act.leaf,Act.val.injEq]at h;obtain⟨_,rfl,rfl⟩:=h;obtain⟨z,hz,hl,h1⟩:=jAn (P:=P) (ts:=cl.argTypes) (ty:=o.type) hc hargs;refine⟨jcx hR (v:=z) ?_ hl h1,rfl⟩;have e1:cl.args.map a.eval=(cl.args.toList.map a.eval).toArray:=by apply ý;simp
    simp[execOp,hop,resolve,hcal,invoke,builtin,e1,hz]
   .simp at h
  ·-- append
   rename_i hcal;split at h
   .rename_i t t' s' x hts hxs;split at h
    .rename_i htt;subst htt;split at h
     .rename_i ti ht;split at h
      .rename_i el hty;split at h
       .rename_i b' v' u' hh;simp only[j5,Act.val.injEq]at h;obtain⟨rfl,rfl,rfl⟩:=h;obtain⟨z,w',hrun,hRn,hl,h1⟩:=jxG (ty:=o.type) hT hR hrd ht hty hh (j63 (j1f hR hact s')) (j63 (j1f hR hact x));have e1:cl.args = #[s',x]:=by grind
        have e2:cl.argTypes = #[t,t]:=by grind
        refine⟨⟨z,w',S,γ,.inl ?_,hRn,hl,λ_=>h1⟩,rfl⟩;simp[execOp,hop,resolve,hcal,invoke,builtin,e1,e2,hrun]
       split at h
       .rename_i v' u' hh;simp only[j5,Act.val.injEq]at h;obtain⟨_,rfl,rfl⟩:=h;obtain⟨z,w',γ',hrun,hRn,hl,h1⟩:=jxI (ty:=o.type) hT hR hrd hrdf ht hty hh (j63 (j1f hR hact s')) (j63 (j1f hR hact x));have e1:cl.args = #[s',x]:=by grind
        have e2:cl.argTypes = #[t,t]:=by grind
        refine⟨⟨z,w',S,γ',.inl ?_,hRn,hl,λ_=>h1⟩,rfl⟩;simp[execOp,hop,resolve,hcal,invoke,builtin,e1,e2,hrun]
       split at h
       .rename_i xs frz u' ys hs hx;split at h
        .rename_i hfree;simp only[j5,Act.val.injEq,decide_eq_true_eq]at h;obtain⟨hmax,rfl,rfl⟩:=h;obtain⟨v',w',S',γ',hrun,hRn,hcn⟩:=jsJ (ty:=o.type) hT hR hrd hrdf ht hty hs hx (hrd.free hfree) hmax (j63 (j1f hR hact s')) (j63 (j1f hR hact x));have e1:cl.args = #[s',x]:=by grind
         have e2:cl.argTypes = #[t,t]:=by grind
         refine⟨⟨v',w',S',γ',.inl ?_,hRn,hcn⟩,rfl⟩;simp[execOp,hop,resolve,hcal,invoke,builtin,e1,e2,hrun]
        .simp at h
       .simp at h
      .simp at h
     .simp at h
    .simp at h
   .simp at h
  ·-- value
   grind
  ·-- copy
   rename_i hcal;split at h
   .rename_i t t' x y hts hxs;split at h
    .rename_i htt;subst htt;split at h
     .rename_i ti ht;split at h
      .rename_i c u' hc;simp only[j5,Act.val.injEq]at h;obtain⟨_,rfl,rfl⟩:=h;obtain⟨v',w',hrun,hRn,hcn⟩:=jun (ty:=o.type) hT hR hrd ht hc (j63 (j1f hR hact x)) (j63 (j1f hR hact y));have e1:cl.args = #[x,y]:=by grind
       have e2:cl.argTypes = #[t,t]:=by grind
       refine⟨⟨v',w',S,γ,.inl ?_,hRn,hcn⟩,rfl⟩;simp[execOp,hop,resolve,hcal,invoke,builtin,e1,e2,hrun]
      .simp at h
     .simp at h
    .simp at h
   .simp at h
  ·-- clear
   rename_i hcal;split at h
   .rename_i t x hts hxs;split at h
    .rename_i ti ht;split at h
     .rename_i u' hc;simp only[j5,Act.val.injEq]at h;obtain⟨_,rfl,rfl⟩:=h;obtain⟨v',w',hrun,hRn⟩:=jsN (ty:=o.type) hT hR hrd ht hc (j63 (j1f hR hact x));have e1:cl.args = #[x]:=by grind
      have e2:cl.argTypes = #[t]:=by grind
      refine⟨⟨v',w',S,γ,.inl ?_,hRn,⟨trivial,λh=>absurd rfl h⟩⟩,rfl⟩;simp[execOp,hop,resolve,hcal,invoke,builtin,e1,e2,hrun]
     .simp at h
    .simp at h
   .simp at h
  .simp at h
 ·-- slice
  rename_i t x lo hi hop;split at h
  .rename_i ti ht;split at h
   .rename_i b c u' hc;simp only[j5,Act.val.injEq]at h;obtain⟨rfl,rfl,rfl⟩:=h
    have ho:∀y:Â Operand,ORep (j08 S w γ σ.bx) (y.map λx=>lf ((σ.ev x).cel act)) (y.map a.eval):=by
     intro y;cases y with
     |none=>trivial
     |some y=>exact j63 (j1f hR hact y)
    obtain⟨v',S',γ',hrun,hRn,hcn⟩:=jsL hT hR hrd ht (λk hk=>hrd.free hk) hc (j63 (j1f hR hact x)) (ho lo) (ho hi);refine⟨⟨v',w,S',γ',.inl ?_,hRn,hcn⟩,rfl⟩;simp[execOp,hop,hrun]
   .simp at h
  .simp at h
 ·-- slice with a capacity
  rename_i t x lo hi mx hop;split at h
  .rename_i ti ht;split at h
   .rename_i b hc;simp only[j5,Act.val.injEq]at h;obtain⟨rfl,rfl,rfl⟩:=h
    have ho:∀y:Â Operand,ORep (j08 S w γ σ.bx) (y.map λx=>lf ((σ.ev x).cel act)) (y.map a.eval):=by
     intro y;cases y with
     |none=>trivial
     |some y=>exact j63 (j1f hR hact y)
    obtain⟨v',hrun⟩:=jsM hT hR hrd ht hc (j63 (j1f hR hact x)) (ho lo) (ho hi) (j63 (j1f hR hact mx));refine⟨⟨v',w,S,γ,.inl ?_,hR,⟨trivial,λh=>absurd rfl h⟩⟩,rfl⟩;simp[execOp,hop,hrun]
   .simp at h
  .simp at h
 .simp at h
theorem jrE{P:À}{E:Env}(hR:Rel N E.np S0 w0 refs σ a w S γ){act:F (H×ä)}(hact:jkf (tm a) act){rw:H->BS}(hrw:RdR σ rw)
  {o:Oper}{f:H}{args:F Arg}{mk:Ret->Â (Slot×Ups)}(h:j5h E σ.ev rw act o=D (.call f args mk))(hf:Fun P f){K:Ret->Prop}(hspec:jxN P f args K) :
  ∃vals,(execOp a.eval o).run P w = .ok (.enter f vals) w/\
   (Calls P f vals w λe w'=>∃ret,K ret/\∀s u,mk ret=D (s,u)->∃v S' γ',e = .returned v/\Rel N E.np S0 w0 refs (σ.upd u) a w' S' γ'/\j4i S' w' γ' (σ.upd u).bx (tm a) s v)/\
   ∀ret s u,mk ret=D (s,u)->s.bare=true:=by
 have hrd:RdOk σ (mskM rw):=hrw.msk;have hrdf:=jmr (np:=E.np) hrd;unfold j5h at h;dsimp only at h;split at h
 case h_23 cl hop=>
  have hargs:=jnb hR hact cl.args.toList;split at h
  case h_5 x hcal=>
   split at h
   .rename_i g caps hl;split at h
    .rename_i as us fs has;split at h
     .rename_i hok;simp only[j5,Act.call.injEq]at h;obtain⟨rfl,rfl,rfl⟩:=h;have hx:=j1f hR hact x;rw[jsT hl smp_]at hx;obtain⟨cv,hu,hcv⟩:=hx.1;refine⟨_,jjL hf hop hcal hu,?_,?_⟩
      .have:=jsO hR hrw hrd hrdf has hargs hok hcv hspec ((o.dst.getD 0)*64+E.off);have e1:(cl.args.toList.map a.eval++cv.toList).toArray=cl.args.map a.eval++cv:=by apply ý;simp
       rwa[e1]at this
      .intro ret s u hmk;unfold jpP at hmk;split at hmk
       .unfold mkHd at hmk;split at hmk
        .split at hmk
         .split at hmk
          .simp only[j5,j9]at hmk;rw[<-hmk.1];rfl
          .simp at hmk
         .simp at hmk
        .simp at hmk
       .grind[jxt,jna]
       split at hmk
       .split at hmk
        .split at hmk
         .revert hmk;dsimp only;split<;>(intro hmk;simp only[j5,j9]at hmk;rw[<-hmk.1];rfl)
         .simp at hmk
        .simp at hmk
       .simp at hmk
     .simp at h
    .simp at h
   .simp at h
  all_goals (first|(simp at h;done)|skip)
  all_goals (exfalso;revert h;try simp only[jgD])
  all_goals (repeat' split)
  all_goals simp[Act.leaf]
 all_goals (first|(simp at h;done)|skip)
 all_goals (repeat' (first|(simp at h;done)|(exact absurd h joE)|split at h))<;>simp_all[jgD,oCel,oChk,Act.leaf,Act.cel]
 all_goals grind
end
end Go.Lft
