/- New variables; Kq W_ variables. -/
import Derived.Test.YtllkgjaoejhneaaGreatSELA
import Derived.MapKept
open Option renaming some->D,none->M,isNone_iff_eq_none->ç
open _root_ renaming List->F,Nat->H,Option->Á,Array->È,Bool->Ö
open Go renaming Value->G,Program->À,World->Â,TypeId->Æ,Act->Ý,Operand->ü,MapEntry->ÿ
open Go.Result renaming andThen_ok->I,andThen->ß
open Go.Sem renaming run_bind->J,run_pure->Ã,run_ite->û
open List renaming replicate->O,take->W,take_of_length_le->Y,drop->Ë,length->Î,take_append->Ø,take_left'->Û,take_take->Þ,set_cons_zero->á,getElem?_drop->â,any_cons->ä,getElem?_append_left->å,getElem_cons_drop->ê,any_append->ë,mem_map_of_mem->ò,range_succ->ý,drop_left'->þ
open Bool renaming false->U,true->Ä
open Go.Value.slice renaming injEq->Z
open Go.Addr renaming add_lit->Å
open Nat renaming add_mul->Ç,min_eq_left->É,add_zero->ô,one_mul->ú
open Go.Instr renaming buildSlice->Ê,fill->Ñ,build->Ù,findNow->Ú,mapUpdate->Ü,sliceAt->æ,sameBits->î,storeAt->ð,sameNow->ó,lookup->õ
open Go.Builtin renaming append_->Ì,firstCells->Ó,clear_->à,copy_->è,lenOf->ñ
open Go.MapKept renaming run_getObj_map->Í,run_findKey->Ò,bytes_beq->é,run_setObj_map->ì,run_checkKey->ï
open Array renaming range->Ï,getElem?_modify->í,toList_push->ù
open Go.World renaming cell?_of_block->Ð,alloc_eq->Ô,ownsRow_nil->Õ,ownsRow_lit->ø
open Iff renaming rfl->ã
set_option linter.unusedVariables false
namespace Go.Lft
section
variable{N:NT}{np:H}{S0:aU}{w0:Â}{refs:Refs}{σ:St}{a:Ý}{w:Â}{S:aU}{γ:H->G}
def gset(γ:H->G)(n:H)(v:G):H->Value:=λk=>if k=n then v else γ k
theorem ew(γ:H->G)(n:H)(v:G):gset γ n v n=v:=by simp[gset]
theorem fA(γ:H->G){n k:H}(v:G)(h:k≠n):gset γ n v k=γ k:=by simp[gset,h]
theorem xp(hR:Rel N np S0 w0 refs σ a w S γ)(o:Obj):dD S w S (w.alloc o):=
 λg i h=>⟨h,World.cell?_alloc_lt w o ⟨g,i,M⟩ (hR.here g i h)⟩
theorem jQ{bx:H->BS}{k:H}{b:Bx}(h:eM S w γ bx k b){g:H}(hg:blk (γ k)=D g):g<w.heap.size:=by
 cases b with
 |cell ls frz=>obtain⟨g',cur,e,h1,h2,_⟩:=h;rw[h1]at hg;simp[blk]at hg;subst hg;exact(jp.1 h2).1
 |lst e t xs frz=>exact h.1.lt hg
 |arr n t xs=>obtain⟨g',cur,e,h1,h2,_⟩:=h;rw[h1]at hg;simp[blk]at hg;subst hg;exact(jp.1 h2).1
 |row e t n ls=>
  obtain⟨_,⟨cs,h1,_⟩,_⟩:=h;rcases h1.2 with⟨hn,_⟩|⟨g',cap,cur,hv,_,hh,_⟩
  .rw[hn]at hg;simp[blk]at hg
  .rw[hv]at hg;simp[blk]at hg;subst hg;exact(jp.1 hh).1
theorem F8(hR:Rel N np S0 w0 refs σ a w S γ){n:H}(hn:σ.bx n = .free){o:Obj}{b:Bx}{v:G}(hv:∀g,blk v=D g->g=w.heap.size)
  (hb:BxLe γ σ.bx (gset γ n v) (σ.setB n (.live b)).bx->eM S (w.alloc o) (gset γ n v) (σ.setB n (.live b)).bx n b) :
  Rel N np S0 w0 refs (σ.setB n (.live b)) a (w.alloc o) S (gset γ n v)/\BxLe γ σ.bx (gset γ n v) (σ.setB n (.live b)).bx:=by
 have hle:BxLe γ σ.bx (gset γ n v) (σ.setB n (.live b)).bx:=by
  intro k hk;have br:k≠n:=by rintro rfl;exact hk hn
  rw[cu σ _ br,fA γ v br];exact⟨hk,rfl,λb hb=>⟨b,hb,.refl b⟩⟩
 have aO:=xp hR o
 refine⟨Rel.step (bx':=(σ.setB n (.live b)).bx) hR aO hle ?_ ?_ ?_ hR.new ?_ ?_ ?_ hR.os hR.tape hR.output (λg hg _ h=>⟨heap_alloc_old w o hg,λk b' aK db=>by
  by_cases hk:k=n
  .subst hk;rw[ew]at db;have:=hv g db;omega
  .rw[cu σ _ hk]at aK;rw[fA γ v hk]at db;exact h k b' aK db⟩),hle⟩
 .intro k b' aK;by_cases hk:k=n
  .subst hk;rw[fm]at aK;simp at aK;subst aK;exact hb hle
  .rw[cu σ _ hk]at aK;refine eM.keep aO hle (fA γ v hk) (λg hg=>⟨?_,λ_=>ã⟩) (hR.box k b' aK);exact heap_alloc_old w o (jQ (hR.box k b' aK) hg)
 .intro k b' g aK hg;by_cases hk:k=n
  .subst hk;rw[ew]at hg;exact .inl (.inl (by rw[hv g hg];exact hR.grow))
  .rw[cu σ _ hk]at aK;rw[fA γ v hk]at hg;exact hR.own k b' g aK hg
 .intro k k' b1 b2 g br h1 h2 hg az;by_cases hk:k=n
  .subst hk;have bk:k'≠k:=λh=>br h.symm;rw[ew]at hg;rw[cu σ _ bk]at h2;rw[fA γ v bk]at az;have:=jQ (hR.box k' b2 h2) az;rw[hv g hg]at this;omega
  .by_cases bk:k'=n
   .subst bk;rw[ew]at az;rw[cu σ _ hk]at h1;rw[fA γ v hk]at hg;have:=jQ (hR.box k b1 h1) hg;rw[hv g az]at this;omega
   .rw[cu σ _ hk]at h1;rw[cu σ _ bk]at h2;rw[fA γ v hk]at hg;rw[fA γ v bk]at az;exact hR.apart k k' b1 b2 g br h1 h2 hg az
 .intro g i h;have:=hR.here g i h;simp;omega
 .intro g hg hr;rw[heap_alloc_old w o (by have:=hR.grow;omega)];exact hR.below g hg hr
 .have:=hR.grow;simp;omega
theorem AL(hR:Rel N np S0 w0 refs σ a w S γ)(o:H):¬S w.heap.size o:=λh=>by have:=hR.here _ _ h;omega
theorem Kr(hR:Rel N np S0 w0 refs σ a w S γ){n:H}(hn:σ.bx n = .free){ls:F Leaf}{cur:È G}{e:Æ}
  (hl:All2 (bz S w γ σ.bx) ls cur.toList)(h1:∀u∈cur.toList,One u) :
  Rel N np S0 w0 refs (σ.setB n (.live (.cell ls U))) a (w.alloc (.cells cur e)) S (gset γ n (.pointer (D ⟨w.heap.size,0,M⟩)))/\
   bM S (w.alloc (.cells cur e)) (gset γ n (.pointer (D ⟨w.heap.size,0,M⟩))) (σ.setB n (.live (.cell ls U))).bx (.one (.bp n 0)) (.pointer (D ⟨w.heap.size,0,M⟩)):=by
 obtain⟨h,hle⟩:=F8 hR hn (o:= .cells cur e) (b:= .cell ls U) (v:= .pointer (D ⟨w.heap.size,0,M⟩)) (λg hg=>by simp[blk]at hg;exact hg.symm) (λhle=>
  ⟨w.heap.size,cur,e,ew _ _ _,heap_alloc_new w _,by rw[Y (Nat.le_of_eq hl.length.symm)];exact hl.mono (λx u hx=>bz.keep (xp hR _) hle hx),λu hu=>h1 u (qn hu),λ_ o=>AL hR o,af⟩)
 refine⟨h,⟨by rw[fm];simp,rfl,λb _=>⟨w.heap.size,ew _ _ _,rfl⟩⟩,λ_=>rfl⟩
theorem R4(hR:Rel N np S0 w0 refs σ a w S γ){n m:H}(hn:σ.bx n = .free){t:Ty}{xs:F t.den}{cur:È G}{e:Æ}
  (hl:Rep S w (.arr m t) xs cur.toList) :
  Rel N np S0 w0 refs (σ.setB n (.live (.arr m t xs))) a (w.alloc (.cells cur e)) S (gset γ n (.pointer (D ⟨w.heap.size,0,M⟩)))/\
   bM S (w.alloc (.cells cur e)) (gset γ n (.pointer (D ⟨w.heap.size,0,M⟩))) (σ.setB n (.live (.arr m t xs))).bx (.one (.bp n 0)) (.pointer (D ⟨w.heap.size,0,M⟩)):=by
 obtain⟨h,hle⟩:=F8 hR hn (o:= .cells cur e) (b:= .arr m t xs) (v:= .pointer (D ⟨w.heap.size,0,M⟩)) (λg hg=>by simp[blk]at hg;exact hg.symm) (λ_=>
  ⟨w.heap.size,cur,e,ew _ _ _,heap_alloc_new w _,Rep.keep (xp hR _) _ _ _ hl,λo=>AL hR o⟩)
 refine⟨h,⟨by rw[fm];simp,rfl,λb _=>⟨w.heap.size,ew _ _ _,rfl⟩⟩,λ_=>rfl⟩
theorem vF{bx:H->BS}:∀(t:Ty),All2 (bz S w γ bx) (nL t) (kI t)
 |.int _=>⟨rfl,trivial⟩
 |.bool=>⟨rfl,trivial⟩
 |.str=>⟨rfl,trivial⟩
 |.unit=>trivial
 |.wrap a=>vF a
 |.pair a b=>(vF a).append (vF b)
 |.list _=>⟨rfl,trivial⟩
 |.arr n a=>by
  show All2 _ ((List.range n).flatMap λ_=>nL a) ((O n (kI a)).flatten);induction n with
  |zero=>simp[All2]
  |succ n ih=>rw[ý,List.flatMap_append,List.replicate_succ',ym];refine ih.append ?_;simpa using vF a
theorem pH:∀(t:Ty),Rep S w t t.dflt (kI t)
 |.int _=>rfl
 |.bool=>rfl
 |.str=>rfl
 |.unit=>rfl
 |.wrap a=>pH a
 |.pair a b=>⟨_,_,rfl,pH a,pH b⟩
 |.list _=>⟨M,0,rfl,jy _,by simp[maxLen],λ_=>rfl,λb hb=>by simp at hb⟩
 |.arr n a=>by
  refine⟨z6,O n (kI a),?_,rfl⟩;have hz:=pH a
  have:∀n,All2 (λx c=>Rep S w a x c) (O n a.dflt) (O n (kI a)):=by
   intro n;induction n with
   |zero=>exact trivial
   |succ n ih=>exact⟨hz,ih⟩
  exact this n
theorem AM(hR:Rel N np S0 w0 refs σ a w S γ){k:H}{b b':Bx}(hk:σ.bx k = .live b){g:H}(hg:blk (γ k)=D g)(hS:∀o,¬S g o)(nO:kH b b')
  {old new:È G}{e:Æ}(hh:w.heap[g]? = D (.cells old e (0,0)))
  (hb:BxLe γ σ.bx γ (σ.setB k (.live b')).bx->dD S w S (w.setRow g new)->eM S (w.setRow g new) γ (σ.setB k (.live b')).bx k b') :
  Rel N np S0 w0 refs (σ.setB k (.live b')) a (w.setRow g new) S γ:=by
 have hle:BxLe γ σ.bx γ (σ.setB k (.live b')).bx:=by
  intro k' bk;by_cases bO:k'=k
  .subst bO;rw[fm];exact⟨af,rfl,λb1 dG=>by simp at dG;subst dG;exact⟨b,hk,nO⟩⟩
  .rw[cu σ _ bO];exact⟨bk,rfl,λb hb=>⟨b,hb,.refl b⟩⟩
 have aO:dD S w S (w.setRow g new):=by
  intro g' o h;refine⟨h,cell_setRow_other w g new ⟨g',o,M⟩ ?_⟩
  rintro rfl
  exact hS o h
 have bN:∀k' b1,(σ.setB k (.live b')).bx k' = .live b1->∃b2,σ.bx k' = .live b2:=by
  intro k' b1 h1;by_cases bO:k'=k
  .subst bO;exact⟨b,hk⟩
  .rw[cu σ _ bO]at h1;exact⟨b1,h1⟩
 have au:=(jp.1 hh).1
 refine Rel.step (bx':=(σ.setB k (.live b')).bx) hR aO hle ?_ ?_ ?_ hR.new ?_ ?_ ?_ hR.os hR.tape hR.output (λg' _ _ h=>⟨setRow_other w g g' new (λe=>h k b hk (e▸hg)),λk' b1 h1=>by
  obtain⟨b2,h2⟩:=bN k' b1 h1;exact h k' b2 h2⟩)
 .intro k' b1 h1;by_cases bO:k'=k
  .subst bO;rw[fm]at h1;simp at h1;subst h1;exact hb hle aO
  .rw[cu σ _ bO]at h1;refine eM.keep aO hle rfl (λg' az=>⟨?_,λ_=>ã⟩) (hR.box k' b1 h1);exact setRow_other w g g' new (λh=>hR.apart k' k b1 b g bO h1 hk (h▸az) hg)
 .intro k' b1 g' h1 az;obtain⟨b2,h2⟩:=bN k' b1 h1;exact hR.own k' b2 g' h2 az
 .intro k1 k2 b1 b2 g' br h1 h2 az;obtain⟨tA,lX⟩:=bN k1 b1 h1;obtain⟨tB,kX⟩:=bN k2 b2 h2;exact hR.apart k1 k2 tA tB g' br lX kX az
 .intro g' o h;rw[size_setRow];exact hR.here g' o h
 .intro g' az hr;rw[setRow_other w g g' new ?_]
  .exact hR.below g' az hr
  .rintro rfl
   rcases hR.own k b _ hk hg with h|h
   .exact h.no aa hr
   .exact hr h.1
 .rw[size_setRow];exact hR.grow
theorem CT{R:Leaf->G->Prop}{ls new:F Leaf}{cs zs:F G}{c:H}(h:All2 R ls cs)(h':All2 R new zs) :
  All2 R (ov ls c new) (cs.take c++zs++cs.drop (c+zs.length)):=by
 unfold ov;rw[h'.length];exact((h.take c).append h').append (h.drop _)
theorem Ks{X zs:F G}{c n:H}(h:c+zs.length<=n)(h':n<=X.length):(X.take c++zs++X.drop (c+zs.length)).take n=(X.take n).take c++zs++(X.take n).drop (c+zs.length):=by
 have e1:(X.take n).take c=X.take c:=by rw[Þ,É aa]
 have e2:(X.take c++zs).length=c+zs.length:=ay;rw[e1,Ø,Y (by rw[e2];exact h),e2,List.drop_take]
theorem R5{bx:H->BS}{b:Ty}:∀{ys:F (F b.den)}{css:F (F G)},All2 (λx c=>Rep S w (.list b) x c) ys css->All2 (bz S w γ bx) (ys.map λy=> .d (.list b) y) css.flatten
 |[],[],_=>trivial
 |[],_::_,h=>h.elim
 |_::_,[],h=>h.elim
 |y::ys,c::css,h=>by
  have h1:Rep S w (.list b) y c:=h.1;have h2:c.length=1:=Rep.length _ _ _ h1;match c,h2 with
  |[v],_=>exact⟨h1,R5 h.2⟩
theorem R6{α β:Type}(f:α->β)(d:α)(ys:F α):((List.range ys.length).map λi=>f (List.getD ys i d))=ys.map f:=by
 refine List.ext_getElem af λi h1 h2=>?_;have h3:i<ys.length:=by simpa using h2
 simp[List.getD,h3]
theorem xq{bx:H->BS}{c:Cel}{ls:F Leaf}{z:G}(h:c.leaves=D ls)(hc:bM S w γ bx c z) :
  All2 (bz S w γ bx) ls z.cells.toList/\∀u∈z.cells.toList,One u:=by
 unfold Cel.leaves at h;split at h
 .simp at h
 .rename_i l hd;simp at h;subst h;have h1:=hc.2 hd;rw[AK h1];exact⟨⟨hc.1,trivial⟩,λu hu=>by simp at hu;subst hu;exact h1⟩
 .simp at h;subst h;obtain⟨cs,rfl,ha,h1⟩:=hc;exact⟨ha,h1⟩
 .rename_i n b ys;simp only[jb]at h;obtain⟨cs,rfl,hn,css,ha,dj⟩:=hc;have h0:Î ys=n:=hn;subst h0;have e:ls=ys.map λy=> .d (.list b) y:=h.symm.trans (R6 (λy:F b.den=>Leaf.d (.list b) y) [] ys);have e2:(Value.agg cs).cells.toList=cs.toList:=rfl;rw[e,e2];refine⟨?_,Rep.one (.arr _ (.list b)) ys cs.toList ⟨rfl,css,ha,dj⟩⟩;rw[dj];exact R5 ha
 .simp at h
end
theorem xr{m:H}:∀{l:F (F G)},(∀c∈l,c.length=m)->l.flatten.length=l.length*m
 |[],_=>af
 |c::l,h=>by
  have h1:=h c af;have h2:=xr (l:=l) (λd hd=>h d (qv _ hd));simp only[kz,jn,jq,Ç,ú];omega
section
variable{N:NT}{np:H}{S0:aU}{w0:Â}{refs:Refs}{σ:St}{a:Ý}{w:Â}{S:aU}{γ:H->G}
theorem jR:∀(u:Ups)(σ:St){k:H},u.any (λy=>y.1==k)=U->(σ.upd u).bx k=σ.bx k
 |[],_,_,_=>rfl
 |e::u,σ,k,h=>by
  simp only[ä,ye,beq_eq_false_iff_ne]at h;show ((σ.setB e.1 e.2).upd u).bx k=_;rw[jR u _ h.2,cu σ _ (λhh=>h.1 hh.symm)]
theorem All2.all_len{t:Ty}{xs:F t.den}{css:F (F G)}(h:All2 (λx c=>Rep S w t x c) xs css):∀c∈css,c.length=t.size:=by
 intro c hc;obtain⟨x,_,hx⟩:=h.mem_right c hc;exact Rep.length _ _ _ hx
theorem Kt{cur:F G}{css:F (F G)}{m n i c:H}{ci zs:F G}(hm:∀c∈css,c.length=m)(hn:css.length=n)(ea:cur.take (n*m)=css.flatten)
  (hi:css[i]? = D ci)(hc:c+zs.length<=m) :
  (cur.take (i*m+c)++zs++cur.drop (i*m+c+zs.length)).take (n*m)=(css.set i (ci.take c++zs++ci.drop (c+zs.length))).flatten:=by
 have au:i<css.length:=(kf.1 hi).1;have nf:css[i]=ci:=(kf.1 hi).2;have dL:ci.length=m:=hm ci (kp hi);obtain⟨A,B,hA,hB,F9⟩:∃A B:F (F G),A.length=i/\A.length+1+B.length=n/\css=A++ci::B:=by refine⟨css.take i,css.drop (i+1),ay,ay,?_⟩;rw[<-nf,ê au,zh]
 have X_:∀c∈A,c.length=m:=λd hd=>hm d (by rw[F9];simp[hd]);have Y_:∀c∈B,c.length=m:=λd hd=>hm d (by rw[F9];simp[hd]);have lA:A.flatten.length=i*m:=by rw[xr X_,hA]
 have lB:=xr Y_;have qM:css.set i (ci.take c++zs++ci.drop (c+zs.length))=A++(ci.take c++zs++ci.drop (c+zs.length))::B:=by rw[F9,vz _ _ aa,hA,Nat.sub_self,á]
 have CU:cur=A.flatten++(ci++(B.flatten++cur.drop (n*m))):=by have:=zh (n*m) cur;rw[ea,F9,ym,kz]at this;rw[<-jo ci,<-jo];exact this.symm
 have dX:ci=ci.take c++((ci.drop c).take zs.length++ci.drop (c+zs.length)):=by have h1:=zh c ci;have h2:=zh zs.length (ci.drop c);rw[List.drop_drop]at h2;rw[h2,h1]
 have lp:(ci.take c).length=c:=ay;have lq:((ci.drop c).take zs.length).length=zs.length:=ay;have lr:(ci.drop (c+zs.length)).length=m-(c+zs.length):=by simp[dL]
 generalize ci.take c=p at *
 generalize (ci.drop c).take zs.length=q at *
 generalize ci.drop (c+zs.length)=r at *
 generalize cur.drop (n*m)=tl at *
 have e1:cur.take (i*m+c)=A.flatten++p:=by rw[CU,dX];simp only[<-jo];rw[jo,jo,jo];exact Û (by simp[lA,lp])
 have e2:cur.drop (i*m+c+zs.length)=r++(B.flatten++tl):=by rw[CU,dX];have:A.flatten++(p++(q++r)++(B.flatten++tl))=(A.flatten++p++q)++(r++(B.flatten++tl)):=af;rw[this];exact þ (by simp[lA,lp,lq];omega)
 rw[e1,e2,qM,ym,kz];have:A.flatten++p++zs++(r++(B.flatten++tl))=(A.flatten++(p++zs++r++B.flatten))++tl:=af;rw[this];refine Û ?_;simp only[jn,lA,lp,lr,lB];have:n*m=i*m+m+B.length*m:=by rw[<-hB,hA,Ç,Ç,ú]
 omega
theorem CX{P:À}{T:H->Á TyI}(hT:cI P T){t:Æ}{ti:TyI}(ht:T t=D ti){g o:H}{z:G}{cur:È G}{e:Æ}
  (hh:w.heap[g]? = D (.cells cur e (0,0)))(hs:z.cells.toList.length=ti.size)(hl:o+z.cells.toList.length<=cur.size)(h1:∀u∈z.cells.toList,One u) :
  (ð t (.pointer (D ⟨g,o,M⟩)) z).run P w = .ok () (w.setRow g (cur.toList.take o++z.cells.toList++cur.toList.drop (o+z.cells.toList.length)).toArray):=by
 have aO:=run_storeCells_at P g o e z.cells.toList 0 cur w hh (by simpa using hl) h1;simp only[ô]at aO;have br:¬z.cells.size≠ti.size:=by simpa using hs
 simp only[ð,J,Instr.sureAddr,Ã,I,storeVar,iV hT ht,û,if_neg br,aO]
theorem Z_{P:À}{E:Env}(hT:cI P E.T)(hR:Rel N np S0 w0 refs σ a w S γ){rd rdf:H->BS}(aW:RdOk σ rd)(bn:RdF np σ rdf){t:Æ}{ti:TyI}(ht:E.T t=D ti)
  {x:Leaf}{val:Cel}{u:Ups}{ux z:G}(h:uO rd rdf ti.size val x=D u)(hx:bz S w γ σ.bx x ux)(hz:bM S w γ σ.bx val z) :
  ∃w' S',(ð t ux z).run P w = .ok () w'/\Rel N np S0 w0 refs (σ.upd u) a w' S' γ:=by
 unfold uO at h;split at h
 .rename_i k c;split at h
  .rename_i ls hk;have hk:=aW.live hk;split at h
   .rename_i new eb;split at h
    .rename_i hc;simp only[jb]at h;subst h;obtain⟨bT,hle⟩:=hc;obtain⟨ha,h1⟩:=xq eb hz;obtain⟨g,hg,hu⟩:=hx.2.2 _ hk;obtain⟨g',cur,e,az,hh,ea,eS,hS,_⟩:=hR.box k _ hk;rw[hg]at az;simp at az;subst az;subst hu;have hlen:=ha.length;have tD:=ea.length;simp at tD;refine⟨_,S,CX hT ht hh aa (by simp at hlen ⊢;omega) h1,?_⟩;refine AM hR hk (by rw[hg];rfl) (hS rfl) (b':= .cell (ov ls c new) U) trivial hh (λhle aO=>?_);refine⟨g,_,e,hg,setRow_heap w g cur _ e (0,0) hh,?_,?_,λ_=>hS rfl,af⟩
     .have:=CT (c:=c) (ea.mono (λx u hx=>bz.keep aO hle hx)) (ha.mono (λx u hx=>bz.keep aO hle hx));have eN:(ov ls c new).length=ls.length:=by simp[ov];omega
      rw[eN];have:=Ks (X:=cur.toList) (zs:=z.cells.toList) (c:=c) (n:=ls.length) aa ay;simp only[this];assumption
     .intro v hv;have eN:(ov ls c new).length=ls.length:=by simp[ov];omega
      rw[eN]at hv;have Ku:=Ks (X:=cur.toList) (zs:=z.cells.toList) (c:=c) (n:=ls.length) aa ay;simp only[Ku]at hv;simp only[js]at hv;rcases hv with (hv|hv)|hv
      .exact eS v (qn hv)
      .exact h1 v hv
      .exact eS v (zp hv)
    .simp at h
   .simp at h
  .rename_i n el xs hk;have hk:=aW.live hk;split at h
   .rename_i gI;subst gI;split at h
    .rename_i n' a' ys;split at h
     .rename_i JZ iX;split at h
      .rename_i bT;simp only[jb]at h;subst h;have tE:=mJ iX;simp only[TV.mk.injEq,Ty.arr.injEq]at tE;obtain⟨⟨rfl,rfl⟩,tE⟩:=tE;obtain rfl:=eq_of_heq tE;obtain⟨cs,rfl,hr⟩:=hz;obtain⟨g,hg,hu⟩:=hx.2.2 _ hk;obtain⟨g',cur,e,az,hh,bI,hS⟩:=hR.box k _ hk;rw[hg]at az;simp at az;subst az;subst hu;have mM:=Rep.length _ _ _ hr;have sw:=Rep.length _ _ _ bI;have e1:(Value.agg cs).cells.toList=cs.toList:=rfl;refine⟨_,S,CX hT ht hh (by rw[e1,mM,bT];rfl) (by rw[e1,mM,<-sw];simp) (by rw[e1];exact Rep.one _ _ _ hr),?_⟩;refine AM hR hk (by rw[hg];rfl) hS (b':= .arr _ _ _) ⟨rfl,rfl⟩ hh (λhle aO=>?_);refine⟨g,_,e,hg,setRow_heap w g cur _ e (0,0) hh,?_,hS⟩;have hd:cur.toList.drop (0+cs.toList.length)=[]:=jj (by rw[mM,sw];omega);have hX:(cur.toList.take 0++(Value.agg cs).cells.toList++cur.toList.drop (0+(Value.agg cs).cells.toList.length)).toArray.toList=cs.toList:=by rw[e1,hd];simp
       rw[hX];exact Rep.keep aO _ _ _ hr
      .simp at h
     .simp at h
    .simp at h
   .simp at h
  .simp at h
 .rename_i k i c;split at h
  .rename_i el at_ xs hk;have bY:=aW.nm hk;have hk:=aW.live hk;split at h
   .rename_i new eb;split at h
    .rename_i hc;obtain⟨bT,hle⟩:=hc;split at h
     .rename_i en u1 xt;split at h
      .simp at h
      .rename_i sx;simp only[jb]at h;subst h;obtain⟨ha,h1⟩:=xq eb hz;have hlen:=ha.length;have pI:z.cells.toList.length=z.cells.size:=qg;obtain⟨_,hi,g,cap,hg,hu⟩:=hx.2.2 _ hk;obtain⟨css,aL,aw,R7⟩:=iI bY (hR.box k _ hk);rcases aL.2 with⟨_,h0⟩|⟨g',gj,cur,az,fk,hh,iv,iu,dj,dM⟩
       .omega
       rw[hg]at az;simp at az;obtain⟨rfl,rfl⟩:=az;subst hu;obtain⟨ci,nf,bI,dK⟩:=xo (λx c hx=>Rep.length at_ x c hx) aw i at_.dflt hi;have dL:=Rep.length _ _ _ bI;have dX:=CT (c:=c) (qI (oE at_ _ ci bI)) ha;obtain⟨hf,he,hp⟩:=vE bn hR.box at_ xt dX;obtain⟨S1,bB,cO,eG,cR⟩:=na u1 σ S hR hf;have dm:(σ.upd u1).bx k = .live (.lst el at_ xs U):=by rw[jR u1 σ (qj.2 sx)];exact hk
       obtain⟨Α,R8,R9,Sa⟩:=iI bY (bB.box k _ dm);have vG:∀o,¬S1 g o:=(Sa g (by rw[hg];rfl)).1 rfl;have Kv:i*at_.size+at_.size<=xs.length*at_.size:=by have:(i+1)*at_.size<=xs.length*at_.size:=kg _ aa;rwa[vj]at this
       have Β:xs.length*at_.size<=cap*at_.size:=kg _ iv;have fo:c+z.cells.toList.length<=at_.size:=aa;refine⟨_,S1,CX hT ht hh aa (by rw[dj];omega) h1,?_⟩;rw[iW];refine AM bB dm (by rw[hg];rfl) vG (b':= .lst el at_ (xs.set i en) U) ⟨rfl,rfl,λ_=>af⟩ hh (λeV cW=>?_);have qN:Rep S1 w at_ en (ci.take c++z.cells.toList++ci.drop (c+z.cells.toList.length)):=by have:=hp S1 w cO eG;rwa[Y ay]at this
       refine AD bY ⟨css.set i (ci.take c++z.cells.toList++ci.drop (c+z.cells.toList.length)),⟨?_,.inr ⟨g,cap,_,?_,kq _,setRow_heap w g cur _ el (0,0) hh,by simpa using iv,iu,?_,?_⟩⟩,?_,λg' az=>?_⟩
       .rw[xr (m:=at_.size)]
        .simp[aw.length]
        .intro d hd;rcases List.mem_or_eq_of_mem_set hd with hd|rfl
         .exact All2.all_len aw d hd
         .simp;omega
       .simpa using hg
       .simp only[yc,jn,qq,zd,qg];omega
       .simp only[vk];exact Kt (All2.all_len aw) aw.length.symm dM nf fo
       .exact(aw.mono (λx c hx=>Rep.keep (cO.trans cW) _ _ _ hx)).set i _ _ (Rep.keep cW _ _ _ qN)
       .rw[hg]at az;simp[blk]at az;subst az;exact⟨λ_=>vG,af⟩
     .simp at h
    .simp at h
   .simp at h
  .rename_i n at_ xs hk;have hk:=aW.live hk;split at h
   .rename_i new eb;split at h
    .rename_i hc;obtain⟨bT,hle⟩:=hc;split at h
     .rename_i en u1 xt;split at h
      .simp at h
      .rename_i sx;simp only[jb]at h;subst h;obtain⟨ha,h1⟩:=xq eb hz;have hlen:=ha.length;have pI:z.cells.toList.length=z.cells.size:=qg;obtain⟨hi,g,hg,hu⟩:=hx.2.2 _ hk;obtain⟨g',cur,e,az,hh,⟨hn,css,aw,ea⟩,hS⟩:=hR.box k _ hk;rw[hg]at az;simp at az;subst az;subst hu;obtain⟨ci,nf,bI,dK⟩:=xo (λx c hx=>Rep.length at_ x c hx) aw i at_.dflt aa;have dL:=Rep.length _ _ _ bI;have dX:=CT (c:=c) (qI (oE at_ _ ci bI)) ha;obtain⟨hf,he,hp⟩:=vE bn hR.box at_ xt dX;obtain⟨S1,bB,cO,eG,cR⟩:=na u1 σ S hR hf;have dm:(σ.upd u1).bx k = .live (.arr n at_ xs):=by rw[jR u1 σ (qj.2 sx)];exact hk
       obtain⟨g1,Γ,e1,pJ,hh1,_,vG⟩:=bB.box k _ dm;rw[hg]at pJ;simp at pJ;subst pJ;have CY:cur.toList.length=n*at_.size:=by rw[ea,xr (All2.all_len aw),<-aw.length,hn]
       have Kv:i*at_.size+at_.size<=n*at_.size:=by have:(i+1)*at_.size<=n*at_.size:=kg _ aa;rwa[vj]at this
       have fo:c+z.cells.toList.length<=at_.size:=aa;refine⟨_,S1,CX hT ht hh aa (by rw[<-qg,CY];omega) h1,?_⟩;rw[iW];refine AM bB dm (by rw[hg];rfl) vG (b':= .arr n at_ (xs.set i en)) ⟨rfl,rfl⟩ hh (λeV cW=>?_);have qN:Rep S1 w at_ en (ci.take c++z.cells.toList++ci.drop (c+z.cells.toList.length)):=by have:=hp S1 w cO eG;rwa[Y ay]at this
       refine⟨g,_,e,hg,setRow_heap w g cur _ e (0,0) hh,⟨?_,css.set i (ci.take c++z.cells.toList++ci.drop (c+z.cells.toList.length)),?_,?_⟩,vG⟩
       .show Î (List.set xs i en)=n;rw[vk];exact hn
       .exact(aw.mono (λx c hx=>Rep.keep (cO.trans cW) _ _ _ hx)).set i _ _ (Rep.keep cW _ _ _ qN)
       .have AN:=Kt (cur:=cur.toList) (n:=n) (zs:=z.cells.toList) (All2.all_len aw) (by rw[<-aw.length,hn]) (by rw[<-CY,List.take_length,ea]) nf fo;rw[<-AN];symm;refine(Y ?_).trans af;simp only[jn,qq,zd];omega
     .simp at h
    .simp at h
   .simp at h
  .rename_i e0 el n ls hk;have hk:=aW.live hk;split at h
   .rename_i new eb;split at h
    .rename_i hc;simp only[jb]at h;subst h;obtain⟨bT,hle⟩:=hc;obtain⟨ha,h1⟩:=xq eb hz;have hlen:=ha.length;have pI:z.cells.toList.length=z.cells.size:=qg;obtain⟨_,hi,g,cap,hg,hu⟩:=hx.2.2 _ hk;obtain⟨bY,⟨cs,aL,aw,Sb⟩,hS⟩:=hR.box k _ hk;rcases aL.2 with⟨_,h0⟩|⟨g',gj,cur,az,fk,hh,iv,iu,dj,dM⟩
     .omega
     rw[hg]at az;simp at az;obtain⟨rfl,rfl⟩:=az;subst hu;have Kv:i*el.size+el.size<=n*el.size:=by have:(i+1)*el.size<=n*el.size:=kg _ aa;rwa[vj]at this
     have Β:n*el.size<=cap*el.size:=kg _ iv;have dL:cur.toList.length=cap*el.size:=by rw[qg,dj]
     have CZ:cs.length=n*el.size:=aL.1;have dX:=Ks (X:=cur.toList) (zs:=z.cells.toList) (c:=i*el.size+c) (n:=n*el.size) aa aa;refine⟨_,S,CX hT ht hh aa (by rw[dj];omega) h1,?_⟩;refine AM hR hk (by rw[hg];rfl) (hS g (by rw[hg];rfl)) (b':= .row e0 el n (ov ls (i*el.size+c) new)) ⟨rfl,rfl,rfl⟩ hh (λeV cW=>?_);refine⟨bY,⟨cs.take (i*el.size+c)++z.cells.toList++cs.drop (i*el.size+c+z.cells.toList.length),⟨?_,.inr ⟨g,cap,_,hg,kq _,setRow_heap w g cur _ e0 (0,0) hh,iv,iu,?_,?_⟩⟩,?_,?_⟩,λg' az=>hS g' az⟩
     .simp only[jn,qq,zd];omega
     .simp only[yc,jn,qq,zd];omega
     .show W _ (_++_++_)=_;rw[dX,dM]
     .exact CT (aw.mono (λx u hx=>bz.keep cW eV hx)) (ha.mono (λx u hx=>bz.keep cW eV hx))
     .intro v hv;simp only[js]at hv;rcases hv with (hv|hv)|hv
      .exact Sb v (qn hv)
      .exact h1 v hv
      .exact Sb v (zp hv)
    .simp at h
   .simp at h
  .simp at h
 .simp at h
end
theorem vH{m:H}:∀{l:F (F G)}(i:H),(∀c∈l,c.length=m)->(l.take i).flatten=l.flatten.take (i*m)
 |[],i,_=>af
 |c::l,0,_=>af
 |c::l,i+1,h=>by
  have hc:=h c af;have ih:=vH (l:=l) i (λd hd=>h d (by simp[hd]));rw[List.take_succ_cons,kz,ih,kz,vj,Nat.add_comm,Ø,hc];rw[Y (l:=c) aa,show m+i*m-m=i*m by omega]
theorem C0{m:H}:∀{l:F (F G)}(i:H),(∀c∈l,c.length=m)->(l.drop i).flatten=l.flatten.drop (i*m)
 |[],i,_=>af
 |c::l,0,_=>af
 |c::l,i+1,h=>by
  have hc:=h c af;have ih:=C0 (l:=l) i (λd hd=>h d (by simp[hd]));rw[List.drop_succ_cons,ih,kz,vj,Nat.add_comm,List.drop_append,hc];rw[jj (l:=c) aa,kc,show m+i*m-m=i*m by omega]
section
variable{N:NT}{np:H}{S0:aU}{w0:Â}{refs:Refs}{σ:St}{a:Ý}{w:Â}{S:aU}{γ:H->G}
theorem AO(hR:Rel N np S0 w0 refs σ a w S γ){k:H}{b:Bx}(hk:σ.bx k = .live b):Rel N np S0 w0 refs (σ.setB k .gone) a w S γ:=by
 have hle:BxLe γ σ.bx γ (σ.setB k .gone).bx:=by
  intro k' bk;by_cases bO:k'=k
  .subst bO;rw[fm];exact⟨af,rfl,λb hb=>by simp at hb⟩
  .rw[cu σ _ bO];exact⟨bk,rfl,λb hb=>⟨b,hb,.refl b⟩⟩
 have bN:∀k' b1,(σ.setB k .gone).bx k' = .live b1->σ.bx k' = .live b1:=by
  intro k' b1 h1;by_cases bO:k'=k
  .subst bO;rw[fm]at h1;simp at h1
  .rwa[cu σ _ bO]at h1
 exact Rel.step (bx':=(σ.setB k .gone).bx) hR (.refl S w) hle (λk' b' h=>eM.keep (.refl S w) hle rfl (λ_ _=>⟨rfl,λ_=>ã⟩) (hR.box k' b' (bN k' b' h)))
  (λk' b' g h=>hR.own k' b' g (bN k' b' h)) (λk1 k2 b1 b2 g br h1 h2=>hR.apart k1 k2 b1 b2 g br (bN _ _ h1) (bN _ _ h2)) hR.new hR.here hR.below hR.grow hR.os hR.tape hR.output
  (λg _ _ h=>⟨rfl,λk' b' aK=>h k' b' (bN k' b' aK)⟩)
theorem Δ(hR:Rel N np S0 w0 refs σ a w S γ){d:H}(hd:σ.bx d = .free){w':Â}{v':G}{b:Bx}
  (aO:dD S w S w')(ga:∀g,g<w.heap.size->blk v'≠D g->w'.heap[g]? = w.heap[g]?)(bT:w.heap.size<=w'.heap.size)
  (hv:∀g,blk v'=D g->Own w0 refs g/\(∀k b,σ.bx k = .live b->blk (γ k)≠D g)/\g<w'.heap.size)
  (os:w'.os=w.os)(tape:w'.tape=w.tape)(output:w'.output=w.output)
  (hb:BxLe γ σ.bx (gset γ d v') (σ.setB d (.live b)).bx->eM S w' (gset γ d v') (σ.setB d (.live b)).bx d b)(xu:∀g,blk v'=D g->refs.kw g=M) :
  Rel N np S0 w0 refs (σ.setB d (.live b)) a w' S (gset γ d v')/\BxLe γ σ.bx (gset γ d v') (σ.setB d (.live b)).bx:=by
 have hle:BxLe γ σ.bx (gset γ d v') (σ.setB d (.live b)).bx:=by
  intro k hk;have br:k≠d:=by rintro rfl;exact hk hd
  rw[cu σ _ br,fA γ v' br];exact⟨hk,rfl,λb hb=>⟨b,hb,.refl b⟩⟩
 refine⟨Rel.step (bx':=(σ.setB d (.live b)).bx) hR aO hle ?_ ?_ ?_ hR.new ?_ ?_ (qc hR.grow bT) (os.trans hR.os) (tape.trans hR.tape) (output.trans hR.output) (λg hg ng h=>⟨ga g hg (λhh=>ng (xu g hh)),λk b' aK db=>by
  by_cases hk:k=d
  .subst hk;rw[ew]at db;exact ng (xu g db)
  .rw[cu σ _ hk]at aK;rw[fA γ v' hk]at db;exact h k b' aK db⟩),hle⟩
 .intro k b' aK;by_cases hk:k=d
  .subst hk;rw[fm]at aK;simp at aK;subst aK;exact hb hle
  .rw[cu σ _ hk]at aK;refine eM.keep aO hle (fA γ v' hk) (λg hg=>⟨?_,λ_=>ã⟩) (hR.box k b' aK);exact ga g (jQ (hR.box k b' aK) hg) (λhh=>(hv g hh).2.1 k b' aK hg)
 .intro k b' g aK hg;by_cases hk:k=d
  .subst hk;rw[ew]at hg;exact .inl (hv g hg).1
  .rw[cu σ _ hk]at aK;rw[fA γ v' hk]at hg;exact hR.own k b' g aK hg
 .intro k k' b1 b2 g br h1 h2 hg az;by_cases hk:k=d
  .subst hk;have bk:k'≠k:=λh=>br h.symm;rw[ew]at hg;rw[cu σ _ bk]at h2;rw[fA γ v' bk]at az;exact(hv g hg).2.1 k' b2 h2 az
  .by_cases bk:k'=d
   .subst bk;rw[ew]at az;rw[cu σ _ hk]at h1;rw[fA γ v' hk]at hg;exact(hv g az).2.1 k b1 h1 hg
   .rw[cu σ _ hk]at h1;rw[cu σ _ bk]at h2;rw[fA γ v' hk]at hg;rw[fA γ v' bk]at az;exact hR.apart k k' b1 b2 g br h1 h2 hg az
 .intro g o hs;have:=hR.here g o hs;omega
 .intro g hg hr;by_cases hb:blk v'=D g
  .exact((hv g hb).1.no hg hr).elim
  .rw[ga g (by have:=hR.grow;omega) hb];exact hR.below g hg hr
theorem AP(hR:Rel N np S0 w0 refs σ a w S γ){d:H}(hd:σ.bx d = .free){w':Â}{S':aU}{v':G}{e:H}(hm:isM e=U){el:Ty}{zs:F el.den}{frz:Ö}{css:F (F G)}
  (aO:dD S w S' w')(ga:∀g,g<w.heap.size->blk v'≠D g->w'.heap[g]? = w.heap[g]?)(bT:w.heap.size<=w'.heap.size)
  (hv:∀g,blk v'=D g->Own w0 refs g/\(∀k b,σ.bx k = .live b->blk (γ k)≠D g)/\g<w'.heap.size)
  (hS:∀g o,S' g o->S g o\/blk v'=D g)(os:w'.os=w.os)(tape:w'.tape=w.tape)(output:w'.output=w.output)
  (cd:w'.ownsRow 0 e el.size v' zs.length css.flatten)(aw:All2 (λx c=>Rep S' w' el x c) zs css)
  (Kw:∀g,blk v'=D g->(frz=U->∀o,¬S' g o)/\(frz=Ä->∀o,S' g o↔o<zs.length*el.size))(xu:∀g,blk v'=D g->refs.kw g=M) :
  Rel N np S0 w0 refs (σ.setB d (.live (.lst e el zs frz))) a w' S' (gset γ d v')/\
   bM S' w' (gset γ d v') (σ.setB d (.live (.lst e el zs frz))).bx (.one (.ol d)) v':=by
 have hle:BxLe γ σ.bx (gset γ d v') (σ.setB d (.live (.lst e el zs frz))).bx:=by
  intro k hk;have br:k≠d:=by rintro rfl;exact hk hd
  rw[cu σ _ br,fA γ v' br];exact⟨hk,rfl,λb hb=>⟨b,hb,.refl b⟩⟩
 have cV:One v':=by rcases cd.2 with⟨rfl,_⟩|⟨g,cap,cur,rfl,_⟩<;>rfl
 refine⟨Rel.step (bx':=(σ.setB d (.live (.lst e el zs frz))).bx) hR aO hle ?_ ?_ ?_ ?_ ?_ ?_ (qc hR.grow bT) (os.trans hR.os) (tape.trans hR.tape) (output.trans hR.output) (λg hg ng h=>⟨ga g hg (λhh=>ng (xu g hh)),λk b' aK db=>by
  by_cases hk:k=d
  .subst hk;rw[ew]at db;exact ng (xu g db)
  .rw[cu σ _ hk]at aK;rw[fA γ v' hk]at db;exact h k b' aK db⟩),?_⟩
 .intro k b hb;by_cases hk:k=d
  .subst hk;rw[fm]at hb;simp at hb;subst hb;refine AD hm ⟨css,by rw[ew];exact cd,aw,λg hg=>?_⟩;rw[ew]at hg;exact Kw g hg
  .rw[cu σ _ hk]at hb;refine eM.keep aO hle (fA γ v' hk) (λg hg=>?_) (hR.box k b hb);have xv:=jQ (hR.box k b hb) hg;have br:blk v'≠D g:=λhh=>(hv g hh).2.1 k b hb hg;exact⟨ga g xv br,λo=>⟨λhs=>(hS g o hs).resolve_right br,λhs=>(aO g o hs).1⟩⟩
 .intro k b g hb hg;by_cases hk:k=d
  .subst hk;rw[ew]at hg;exact .inl (hv g hg).1
  .rw[cu σ _ hk]at hb;rw[fA γ v' hk]at hg;exact hR.own k b g hb hg
 .intro k k' b1 b2 g br h1 h2 hg az;by_cases hk:k=d
  .subst hk;have bk:k'≠k:=λh=>br h.symm;rw[ew]at hg;rw[cu σ _ bk]at h2;rw[fA γ v' bk]at az;exact(hv g hg).2.1 k' b2 h2 az
  .by_cases bk:k'=d
   .subst bk;rw[ew]at az;rw[cu σ _ hk]at h1;rw[fA γ v' hk]at hg;exact(hv g az).2.1 k b1 h1 hg
   .rw[cu σ _ hk]at h1;rw[cu σ _ bk]at h2;rw[fA γ v' hk]at hg;rw[fA γ v' bk]at az;exact hR.apart k k' b1 b2 g br h1 h2 hg az
 .intro g o hs;rcases hS g o hs with hs|hs
  .exact hR.new g o hs
  .exact .inr (hv g hs).1
 .intro g o hs;rcases hS g o hs with hs|hs
  .have:=hR.here g o hs;omega
  .exact(hv g hs).2.2
 .intro g hg hr;by_cases hb:blk v'=D g
  .exact((hv g hb).1.no hg hr).elim
  .rw[ga g (by have:=hR.grow;omega) hb];exact hR.below g hg hr
 .refine⟨⟨by rw[fm];simp,cV,λb hb=>(ew γ d v').symm⟩,λ_=>cV⟩
theorem Sc{P:À}{T:H->Á TyI}(hT:cI P T){t ty:Æ}{ti:TyI}(ht:T t=D ti){el:Ty}(bD:ti.ty=D (.list el))
  {v:G}{n:H}{xs:F G}(aL:w.ownsRow 0 ti.elem el.size v n xs){ad:Á Addr}{m c:H}{news:F G}(eX:ad=M->m=0/\c=0)(hl:news.length=m*el.size)
  (gJ:∀b,ad=D b->∀(j:H)(u:G),news[j]? = D u->w.cell? (b.add j)=D u)(h1:∀u∈news,One u)(eI:n+m<=aF) :
  ∃v' w',(Ì #[t,t] ty #[v,.slice ad m c]).run P w = .ok v' w'/\w'.ownsRow 0 ti.elem el.size v' (n+m) (xs++news)/\w'.os=w.os/\w'.tape=w.tape/\w'.output=w.output/\w.heap.size<=w'.heap.size/\
   ((v'=v/\w'=w)\/(blk v'=blk v/\(∃g,blk v=D g)/\∀g,blk v≠D g->w'.heap[g]? = w.heap[g]?)\/(blk v'=D w.heap.size/\∀g,g<w.heap.size->w'.heap[g]? = w.heap[g]?)):=by
 obtain⟨hd,bU,te,cP,cN⟩:=mX hT ht bD;have bT:=lU hT cP cN;obtain⟨i,de,hi,hde,his,Kx,_,_,hz⟩:=mI hT cP;obtain⟨_,⟨z,hz,gm⟩,_⟩:=hz el cN;have fF:i.size=el.size:=aa;have iJ:z.cells.size=el.size:=by have h:=Rep.length el el.dflt _ (pH (S:=λ_ _=>False) (w:=w) el);rw[<-gm]at h;simpa using h
 have C1:n+m<=maxLen:=by simp only[maxLen,aF]at *;omega
 have kY:(n+m)*i.bytes<=140737488355328:=by have:(n+m)*i.bytes<=aF*32768:=z7 eI Kx;simp only[aF]at this;omega
 have hlen:(xs++news).length=(n+m)*el.size:=by rw[jn,aL.1,hl,Ç]
 cases ad with
 |none=>obtain⟨rfl,rfl⟩:=eX rfl;have kK:news=[]:=ke (by simpa using hl);subst kK;exact⟨v,w,run_append_owned_none (P:=P) w 0 t ty ti.elem i el.size hd hi v n xs aL,by simpa using aL,rfl,rfl,rfl,jy _,.inl ⟨rfl,rfl⟩⟩
 |some b=>
  have gJ:=gJ b rfl;rcases aL.2 with⟨rfl,rfl⟩|⟨g,cap,cur,rfl,_,hg,iv,iu,dj,dM⟩
  .have vI:w.ownsRow w.heap.size ti.elem el.size (.slice M 0 0) 0 xs:=⟨aL.1,.inl ⟨rfl,rfl⟩⟩;obtain⟨v',w',hr,ho,nP,hv⟩:=run_append_own (P:=P) w w.heap.size t ty ti.elem i z el.size i.bytes hd hi hz fF rfl iJ bU _ 0 xs vI b m c news hl gJ h1 C1 kY (jy _);refine⟨v',w',hr,⟨ho.1,ho.2.imp id (λ⟨g,cap,cur,h1,_,h3⟩=>⟨g,cap,cur,h1,kq _,h3⟩)⟩,nP.os,nP.tape,nP.output,nP.size,?_⟩;by_cases hm:m=0
   .subst hm;have kK:news=[]:=ke (by simpa using hl);subst kK;have:=run_append_own (P:=P) w w.heap.size t ty ti.elem i z el.size i.bytes hd hi hz fF rfl iJ bU _ 0 xs vI b 0 c [] hl gJ h1 C1 kY (jy _);left;have hx:(Ì #[t,t] ty #[.slice M 0 0,.slice (D b) 0 c]).run P w = .ok (.slice M 0 0) w:=by simp[Ì,run_underlying hd,sizeOf,typeInfo,hi,ñ,Ó,loadCells,loadCellsFrom]
    rw[hx]at hr;simp at hr;exact⟨hr.1.symm,hr.2.symm⟩
   .have tF:=run_append_nil (P:=P) w t ty ti.elem i z hd hi hz b m c news (by rw[fF];exact hl) gJ aa (by simp only[maxLen]at C1;omega) (by have:=kY;simp only[ko]at this;omega);rw[tF]at hr;simp at hr;obtain⟨rfl,rfl⟩:=hr;exact .inr (.inr ⟨rfl,λg hg=>heap_alloc_old w.drew _ hg⟩)
  .by_cases qO:n+m<=cap
   .have C2:n*i.size+news.length<=cur.size:=by rw[fF,hl,dj,<-Ç];exact kg _ qO
    have hr:=run_append_room (P:=P) w t ty ti.elem i hd hi g n cap cur hg b m c news (by rw[fF];exact hl) gJ h1 qO C2;rw[fF]at hr C2;refine⟨_,_,hr,⟨hlen,.inr ⟨g,cap,_,rfl,kq _,setRow_heap w g cur _ ti.elem _ hg,qO,iu,?_,?_⟩⟩,rfl,rfl,rfl,by rw[size_setRow];exact jy _,.inr (.inl ⟨rfl,⟨g,rfl⟩,λg' az=>?_⟩)⟩
    .simp only[yc,jn,qq,zd,qg];omega
    .rw[dM,<-hlen];exact List.take_left
    .exact setRow_other w g g' _ (λh=>az (by rw[h];rfl))
   .have holds:∀(j:H)(u:G),xs[j]? = D u->w.cell? ((⟨g,0,M⟩:Addr).add j)=D u:=aL.cells (g:=g) rfl;have hr:=run_append_grow (P:=P) w t ty ti.elem i z hd hi hz ⟨g,0,M⟩ n cap xs (by rw[fF];exact aL.1) holds b m c news (by rw[fF];exact hl) gJ aa (by simp only[maxLen]at C1;omega) (growslice_fits aa kY);have nh:=grownCap_ge w (n+m) cap ti.elem;refine⟨_,_,hr,⟨hlen,.inr ⟨w.heap.size,_,_,rfl,kq _,heap_alloc_new w.drew _,nh,grownCap_le_maxLen w (n+m) cap ti.elem C1,?_,?_⟩⟩,rfl,rfl,rfl,af,.inr (.inr ⟨rfl,λg' az=>heap_alloc_old w.drew _ az⟩)⟩
    .simp only[Array.size_append,yc,size_zeroCells,iJ,aL.1,hl,<-Ç];congr 1;omega
    .simp only[Array.toList_append,jo];rw[<-jo,<-hlen];exact List.take_left
theorem Sd(hR:Rel N np S0 w0 refs σ a w S γ){rd:H->BS}(aW:RdOk σ rd){el:Ty}{y:Leaf}{ys:F el.den}{z:G}(h:appX rd el y=D ys)(hy:bz S w γ σ.bx y z) :
  ∃ad c css,z = .slice ad ys.length c/\(ad=M->ys.length=0/\c=0)/\All2 (λx c=>Rep S w el x c) ys css/\
   ∀b,ad=D b->∀(j:H)(u:G),css.flatten[j]? = D u->w.cell? (b.add j)=D u:=by
 unfold appX at h;split at h
 .rename_i k;split at h
  .rename_i e Ga xs f hk;have:=mJ h;cases this;have bY:=aW.nm hk;have hk:=aW.live hk;have hz:=hy.2.2 _ hk;obtain⟨css,aL,aw,_⟩:=iI bY (hR.box k _ hk);rcases aL.2 with⟨hg,h0⟩|⟨g,cap,cur,hg,_⟩
   .exact⟨M,0,css,by rw[hz,hg,h0],λ_=>⟨h0,rfl⟩,aw,λb hb=>by simp at hb⟩
   .refine⟨D ⟨g,0,M⟩,cap,css,by rw[hz,hg],af,aw,λb hb j u hu=>?_⟩;simp at hb;subst hb;exact aL.cells (g:=g) (by rw[hg];rfl) j u hu
  .simp at h
 .rename_i t xs;have:=mJ h;cases this;obtain⟨ad,cap,hz,hle,iu,hn,hb⟩:=hy;simp at hz;cases ad with
  |none=>have h0:=hn rfl;have ix:Î ys=0:=aa;have:ys=[]:=ke ix;subst this;exact⟨M,cap,[],hz,λ_=>⟨rfl,h0⟩,trivial,λb hb=>by simp at hb⟩
  |some b=>
   obtain⟨dX,css,ha,hl⟩:=hb b rfl;refine⟨D b,cap,css,hz,af,ha,λb' aK j u hu=>?_⟩;simp at aK;subst aK
   have dX:=dX (λe=>by
    rw[e]at ha;cases css with
    |nil=>simp at hu
    |cons c cs=>exact ha)
   obtain⟨g,o,sp⟩:=b;simp at dX;subst dX;rw[Å];exact(hl j u hu).2
 .simp at h;subst h;exact⟨M,0,[],hy,λ_=>⟨rfl,rfl⟩,trivial,λb hb=>by simp at hb⟩
 .rename_i k j;split at h
  .rename_i e Ga xs f hk;split at h
   .rename_i dg iX;have:=mJ iX;cases this;simp only[jb]at h;subst h;have bY:=aW.nm hk;have hk:=aW.live hk;obtain⟨_,hj,ad,gj,az,hu⟩:=hy.2.2 _ hk;obtain⟨css,aL,aw,_⟩:=iI bY (hR.box k _ hk);have dL:=All2.all_len aw;have hlen:(Ë j dg).length=dg.length-j:=af;rcases aL.2 with⟨hg,h0⟩|⟨g,cap,cur,hg,_,hh,iv,_⟩
    .rw[hg]at az;simp only[Z]at az;obtain⟨rfl,_,rfl⟩:=az;have xw:dg=[]:=ke h0;subst xw;refine⟨M,0,[],by rw[hu];simp,λ_=>⟨af,rfl⟩,by simp;trivial,λb hb=>by simp at hb⟩
    .rw[hg]at az;simp only[Z,qm]at az;obtain⟨rfl,rfl⟩:=az;by_cases hc:cap=j
     .have xw:Ë j dg=[]:=jj aa;rw[xw];rw[if_pos hc]at hu;exact⟨D ⟨g,0,M⟩,cap-j,[],by rw[hu];simp;omega,af,trivial,λb hb q v hq=>by simp at hq⟩
     .rw[if_neg hc]at hu;simp only[qa,Å,ko]at hu;refine⟨D ⟨g,j*el.size,M⟩,cap-j,css.drop j,by rw[hu,hlen],af,aw.drop j,λb hb q v hq=>?_⟩;simp at hb;subst hb;have Ε:(css.drop j).flatten=css.flatten.drop (j*el.size):=C0 j dL;rw[Ε,â]at hq;have:=aL.cells (g:=g) (by rw[hg];rfl) _ v hq;rw[Å]at this ⊢;simpa using this
   .simp at h
  .simp at h
 .simp at h
theorem Ζ{P:À}{E:Env}(hT:cI P E.T)(hR:Rel N np S0 w0 refs σ a w S γ){rd rdf:H->BS}(aW:RdOk σ rd)(bn:RdF np σ rdf){t ty:Æ}{ti:TyI}(ht:E.T t=D ti)
  {el:Ty}(bD:ti.ty=D (.list el)){x y:Leaf}{xs ys:F el.den}{frz:Ö}{u:Ups}{d:H}{vx vy:G}(h1:appS rdf ti.elem el x=D (xs,frz,u))(h2:appX rd el y=D ys)
  (hd:σ.bx d = .free)(eI:xs.length+ys.length<=aF)(hx:bz S w γ σ.bx x vx)(hy:bz S w γ σ.bx y vy) :
  ∃v' w' S' γ',(Ì #[t,t] ty #[vx,vy]).run P w = .ok v' w'/\Rel N np S0 w0 refs (σ.upd (u++[(d,.live (.lst ti.elem el (xs++ys) frz))])) a w' S' γ'/\
   bM S' w' γ' (σ.upd (u++[(d,.live (.lst ti.elem el (xs++ys) frz))])).bx (.one (.ol d)) v':=by
 obtain⟨ad,c,cy,Gb,eX,xx,dK⟩:=Sd hR aW h2 hy;subst Gb;have Ky:cy.flatten.length=ys.length*el.size:=All2.flatten_length (λx c hx=>Rep.length el x c hx) xx;have Η:∀u∈cy.flatten,One u:=by intro u hu;obtain⟨c,hc,tw⟩:=List.mem_flatten.1 hu;obtain⟨x,_,hx⟩:=xx.mem_right c hc;exact Rep.one el x c hx u tw
 obtain⟨mZ,bU,te,cP,cN⟩:=mX hT ht bD
 have src:∃σ1,σ.upd u=σ1/\Rel N np S0 w0 refs σ1 a w S γ/\σ1.bx d = .free/\∃cx,w.ownsRow 0 ti.elem el.size vx xs.length cx.flatten/\All2 (λx c=>Rep S w el x c) xs cx/\
   ∀g,blk vx=D g->Own w0 refs g/\g<w.heap.size/\(∀k b,σ1.bx k = .live b->blk (γ k)≠D g)/\(frz=U->∀o,¬S g o)/\(frz=Ä->∀o,S g o↔o<xs.length*el.size)/\refs.kw g=none:=by
  unfold appS at h1;split at h1
  .rename_i k;split at h1
   .rename_i e' Ga dg f hk;split at h1
    .rename_i R2 iX;split at h1
     .rename_i he;simp only[jb,jf]at h1;obtain⟨rfl,rfl,rfl⟩:=h1;have:=mJ iX;cases this;subst he;have nQ:=bn.par hk;have bY:=bn.ok.nm hk;have hk:=bn.ok.live hk;have hz:=hx.2.2 _ hk;obtain⟨css,aL,aw,hS⟩:=iI bY (hR.box k _ hk);have sy:d≠k:=by rintro rfl;rw[hd]at hk;simp at hk
      refine⟨σ.setB k .gone,rfl,AO hR hk,by rw[cu σ _ sy];exact hd,css,by rw[hz];exact aL,aw,λg hg=>?_⟩;rw[hz]at hg;refine⟨?_,jQ (hR.box k _ hk) hg,λk' b' aK az=>?_,(hS g hg).1,(hS g hg).2,hR.kw_live hk hg⟩
      .rcases hR.own k _ g hk hg with h|h
       .exact h
       .rw[nQ]at h;simp at h
      .have bO:k'≠k:=by rintro rfl;rw[fm]at aK;simp at aK
       rw[cu σ _ bO]at aK;exact hR.apart k' k _ _ g bO aK hk az hg
     .simp at h1
    .simp at h1
   .simp at h1
  .simp only[jb,jf]at h1;obtain⟨rfl,rfl,rfl⟩:=h1;have hz:vx = .slice M 0 0:=hx;subst hz;exact⟨σ,rfl,hR,hd,[],Õ w 0 ti.elem el.size,trivial,λg hg=>by simp[blk]at hg⟩
  .simp at h1
 obtain⟨σ1,Θ,bB,pG,cx,aL,Gc,hblk⟩:=src;rw[iW,Θ];obtain⟨v',w',hr,cd,os,tape,output,bT,cE⟩:=Sc hT ht bD (ty:=ty) aL eX Ky dK Η eI;have hlx:cx.flatten.length=xs.length*el.size:=aL.1;let S':aU:=λg o=>S g o\/(frz=Ä/\blk v'=D g/\o<(xs++ys).length*el.size)
 have aO:dD S w S' w':=by
  intro g o hs;refine⟨.inl hs,?_⟩;rcases cE with⟨rfl,rfl⟩|⟨hb,⟨g0,kZ⟩,hh⟩|⟨hb,hh⟩
  .rfl
  .by_cases hg:g=g0
   .subst hg;obtain⟨_,_,_,hf,sA,_⟩:=hblk g kZ;cases frz with
    |false=>exact absurd hs (hf rfl o)
    |true=>
     have ho:=(sA rfl o).1 hs
     have gn:v'.ownBlock=D g:=by
      rw[kZ]at hb;rcases cd.2 with⟨hn,_⟩|⟨g1,cap,cur,hn,_⟩
      .rw[hn]at hb;simp[blk]at hb
      .rw[hn]at hb ⊢;simp[blk]at hb;simp[Value.ownBlock,hb]
     have C3:vx.ownBlock=D g:=by
      rcases aL.2 with⟨hn,_⟩|⟨g1,cap,cur,hn,_⟩
      .rw[hn]at kZ;simp[blk]at kZ
      .rw[hn]at kZ ⊢;simp[blk]at kZ;simp[Value.ownBlock,kZ]
     have C4:(cx.flatten)[o]? = D (cx.flatten[o]'aa):=kb aa;have e1:=aL.cells C3 o _ C4;have e2:=cd.cells gn o (cx.flatten[o]'aa) (by rw[å aa];exact C4);rw[Å,ko]at e1 e2;rw[e1,e2]
   .have:=hh g (by rw[kZ];simpa using λh=>hg h.symm);exact Ð (a:=⟨g,o,M⟩) this
  .exact Ð (a:=⟨g,o,M⟩) (hh g (hR.here g o hs))
 have Gd:∀g,blk v'=D g->Own w0 refs g/\(∀k b,σ1.bx k = .live b->blk (γ k)≠D g)/\g<w'.heap.size:=by
  intro g hg
  have au:g<w'.heap.size:=by
   rcases cd.2 with⟨hn,_⟩|⟨g1,cap,cur,hn,_,hh,_⟩
   .rw[hn]at hg;simp[blk]at hg
   .rw[hn]at hg;simp[blk]at hg;subst hg;exact(jp.1 hh).1
  rcases cE with⟨rfl,rfl⟩|⟨hb,⟨g0,kZ⟩,hh⟩|⟨hb,hh⟩
  .obtain⟨q1,q2,q3,_⟩:=hblk g hg;exact⟨q1,q3,au⟩
  .rw[hb]at hg;obtain⟨q1,q2,q3,_⟩:=hblk g hg;exact⟨q1,q3,au⟩
  .rw[hb]at hg;simp at hg;subst hg;exact⟨.inl hR.grow,λk b hk az=>by have:=jQ (bB.box k b hk) az;omega,au⟩
 obtain⟨dh,gz⟩:=AP bB pG (hm:=Kf hT ht) (w':=w') (S':=S') (v':=v') (e:=ti.elem) (el:=el) (zs:=xs++ys) (frz:=frz) (css:=cx++cy) aO (λg hg br=>by
   rcases cE with⟨rfl,rfl⟩|⟨hb,_,hh⟩|⟨hb,hh⟩
   .rfl
   .exact hh g (by rw[<-hb];exact br)
   .exact hh g hg) bT Gd (λg o hs=>hs.imp id (λh=>h.2.1)) os tape output (by rw[ym,jn];exact cd)
  ((
   Gc.mono (λx c hx=>Rep.keep aO _ _ _ hx)).append (xx.mono (λx c hx=>Rep.keep aO _ _ _ hx))) (λg hg=>by
   have hold:∀o,S g o->frz=Ä/\o<xs.length*el.size:=by
    intro o hs;rcases cE with⟨rfl,rfl⟩|⟨hb,⟨g0,kZ⟩,hh⟩|⟨hb,hh⟩
    .obtain⟨_,_,_,hf,sA,_⟩:=hblk g hg;cases frz with
     |false=>exact absurd hs (hf rfl o)
     |true=>exact⟨rfl,(sA rfl o).1 hs⟩
    .rw[hb]at hg;obtain⟨_,_,_,hf,sA,_⟩:=hblk g hg;cases frz with
     |false=>exact absurd hs (hf rfl o)
     |true=>exact⟨rfl,(sA rfl o).1 hs⟩
    .rw[hb]at hg;simp at hg;subst hg;exact absurd hs (AL hR o)
   refine⟨λhf o hs=>?_,λhf o=>⟨λhs=>?_,λho=> .inr ⟨hf,hg,ho⟩⟩⟩
   .rcases hs with hs|hs
    .rw[hf]at hold;simp at hold;exact hold o hs
    .rw[hf]at hs;simp at hs
   .rcases hs with hs|hs
    .have:=(hold o hs).2;rw[jn,Ç];omega
    .exact hs.2.2) (λg hg=>by
   rcases cE with⟨rfl,rfl⟩|⟨hb,⟨g0,kZ⟩,hh⟩|⟨hb,hh⟩
   .exact(hblk g hg).2.2.2.2.2
   .rw[hb]at hg;exact(hblk g hg).2.2.2.2.2
   .rw[hb]at hg;simp at hg;subst hg;exact hR.kw_new (jy _))
 exact⟨v',w',S',_,hr,dh,gz⟩
end
theorem Ι(L l:F G)(v:G)(n:H)(h:n<L.length) :
  (L.set n v).take (n+1)++l++(L.set n v).drop (n+1+l.length)=L.take n++v::l++L.drop (n+(l.length+1)):=by
 obtain⟨A,x,B,hA,rfl⟩:∃A x B,Î A=n/\L=A++x::B:=⟨L.take n,L[n],L.drop (n+1),ay,by rw[ê h,zh]⟩;subst hA;rw[vz _ _ (jy _),Nat.sub_self,á];have e1:(A++v::B).take (A.length+1)=A++[v]:=by rw[show A++v::B=(A++[v])++B by simp];exact Û af
 have e2:(A++x::B).take A.length=A:=Û rfl;have e3:∀y,(A++y::B).drop (A.length+1+l.length)=B.drop l.length:=by intro y;rw[show A++y::B=(A++[y])++B by simp,<-List.drop_drop,þ af]
 rw[e1,e2,e3,show A.length+(l.length+1)=A.length+1+l.length by omega,e3];simp
theorem Se(off:H):∀(l:F G)(k:H)(cells:È G),off+k+l.length<=cells.size->
  ((l.zipIdx k).foldl (λcs x=>cs.setIfInBounds (off+x.2) x.1) cells).toList=cells.toList.take (off+k)++l++cells.toList.drop (off+k+l.length)
 |[],k,cells,_=>af
 |v::l,k,cells,h=>by
  simp only[jq]at h;rw[List.zipIdx_cons,List.foldl_cons,Se off l (k+1) _ ay];simp only[Array.toList_setIfInBounds];rw[show off+(k+1)=off+k+1 by omega];exact Ι cells.toList l v (off+k) ay
theorem Kz(cells:È G)(off:H)(zs:È G)(h:off+zs.size<=cells.size) :
  (zs.zipIdx.foldl (λcs (x:G×H)=>cs.setIfInBounds (off+x.2) x.1) cells).toList=cells.toList.take off++zs.toList++cells.toList.drop (off+zs.size):=by
 rw[<-Array.foldl_toList,Array.toList_zipIdx];have:=Se off zs.toList 0 cells (by simpa using h);simpa using this
theorem Sf(z:F G):∀(n p:H),p<n*z.length->(O n z).flatten[p]? = z[p%z.length]?
 |0,p,h=>by simp at h
 |n+1,p,h=>by
  rw[List.replicate_succ,kz];by_cases hp:p<z.length
  .rw[å hp,Nat.mod_eq_of_lt hp]
  .rw[kv aa,Sf z n (p-z.length) (by rw[Ç]at h;omega)];congr 1;exact(Nat.mod_eq_sub_mod aa).symm
theorem Sh(z:È G)(n:H)(hz:0<z.size):((Ï (n*z.size)).map (λi=>z[i%z.size]!)).toList=(O n z.toList).flatten:=by
 apply yb;intro p;by_cases hp:p<n*z.size
 .rw[Sf z.toList n p (by simpa using hp)];have hm:p%z.size<z.size:=Nat.mod_lt _ hz;simp[hp,hm]
 .rw[qz ay,qz (by rw[List.length_flatten];simp;omega)]
section
variable{N:NT}{np:H}{S0:aU}{w0:Â}{refs:Refs}{σ:St}{a:Ý}{w:Â}{S:aU}{γ:H->G}
theorem Ge{t:Ty}{z:G}(h:z.cells.toList=kI t):z.cells.size=t.size:=by
 have:=Rep.length t t.dflt _ (pH (S:=λ_ _=>False) (w:=(default:Â)) t);rw[<-h]at this;simpa using this
theorem Gf{t:Ty}{z:G}(h:z.cells.toList=kI t):∀u∈z.cells.toList,One u:=by
 rw[h];exact Rep.one t t.dflt _ (pH (S:=λ_ _=>False) (w:=(default:Â)) t)
theorem KA{P:À}{T:H->Á TyI}(hT:cI P T){t:Æ}{ti:TyI}(ht:T t=D ti){ty:Ty}(bD:ti.ty=D ty) :
  ∃z:G,z.cells.toList=kI ty/\(Instr.alloc t Ä (.tuple #[])).run P w = .ok (.pointer (D ⟨w.heap.size,0,M⟩)) (w.alloc (.cells z.cells t)):=by
 obtain⟨z,hz,hc⟩:=xl hT ht w bD;refine⟨z,hc,?_⟩;simp only[Instr.alloc,J,hz,I,newVar,newRow,run_newObj,Ã,Ô]
theorem Si{P:À}(t:Æ)(v:G):(Instr.box t v).run P w = .ok (.pointer (D ⟨w.heap.size,0,M⟩)) (w.alloc (.cells v.cells t)):=by
 simp only[Instr.box,J,newVar,newRow,run_newObj,I,Ã,Ô]
theorem Sj{P:À}{α β:Type}(f:α->Sem β)(g:α->β):∀(l:F α),(∀x∈l,(f x).run P w = .ok (g x) w)->(l.mapM f).run P w = .ok (l.map g) w
 |[],_=>af
 |x::l,h=>by
  rw[List.mapM_cons];simp only[J,h x af,I,Sj f g l (λy hy=>h y (by simp[hy])),Ã,qe]
theorem Sk{bx:H->BS}{ti:TyI}{sz:H->Á H}{place:H->Á (H×H)}(hp:∀i f n,ti.flds[i]? = D f->sz f.2=D n->place i=D (f.1,n)) :
  ∀(ps:F (H×Cel))(vs:F (H×G)){ls gf:F Leaf}{cells:È G},All2 (λp v=>p.1=v.1/\bM S w γ bx p.2 v.2) ps vs->Am ti sz ls ps=D gf->
   All2 (bz S w γ bx) ls cells.toList->(∀u∈cells.toList,One u)->∃bF,Ñ place cells vs=D bF/\All2 (bz S w γ bx) gf bF.toList/\∀u∈bF.toList,One u
 |[],[],ls,gf,cells,_,h,ha,h1=>by
  simp[Am]at h;subst h;exact⟨cells,rfl,ha,h1⟩
 |(i,c)::ps,(j,v)::vs,ls,gf,cells,⟨⟨ee,hc⟩,gU⟩,h,ha,h1=>by
  simp only at ee;subst ee;simp only[Am]at h;split at h
  .rename_i f hf;split at h
   .rename_i new eb;split at h
    .rename_i cg;obtain⟨bT,hle⟩:=cg;obtain⟨hl,mM⟩:=xq eb hc;have hlen:=hl.length;have tD:=ha.length;have iK:v.cells.size=new.length:=by rw[hlen];simp
     have dj:cells.size=ls.length:=by rw[tD];simp
     have AQ:=Kz cells f.1 v.cells aa;have dX:=CT (c:=f.1) ha hl
     obtain⟨bF,fH,h2,h3⟩:=Sk hp ps vs (cells:=(v.cells.zipIdx.foldl (λcs (x:G×H)=>cs.setIfInBounds (f.1+x.2) x.1) cells)) gU h
      (by rw[AQ];simpa using dX) (by
       rw[AQ];intro u hu;simp only[js]at hu;rcases hu with (hu|hu)|hu
       .exact h1 u (qn hu)
       .exact mM u hu
       .exact h1 u (zp hu))
     refine⟨bF,?_,h2,h3⟩;simp only[Ñ,hp i f _ hf bT];rw[if_neg (by simp[iK];omega)];exact fH
    .simp at h
   .simp at h
  .simp at h
 |[],_::_,_,_,_,h,_,_,_=>h.elim
 |_::_,[],_,_,_,h,_,_,_=>h.elim
theorem Κ{P:À}{E:Env}(hT:cI P E.T){bx:H->BS}{t:Æ}{ti:TyI}(ht:E.T t=D ti){ty:Ty}(bD:ti.ty=D ty)(mY:ty.agg=Ä)
  {ps:F (H×Cel)}{vs:È (H×G)}{ls:F Leaf}(gU:All2 (λp v=>p.1=v.1/\bM S w γ bx p.2 v.2) ps vs.toList)
  (h:Am ti (λt=>(E.T t).map (·.size)) (nL ty) ps=D ls) :
  ∃z,(Ù t vs).run P w = .ok z w/\bM S w γ bx (.st ls) z:=by
 obtain⟨z,hz,gm⟩:=xl hT ht w bD;obtain⟨i,d,hi,hd,_,_,_,fD,eU⟩:=mI hT ht;have mZ:=(eU ty bD).2.2;cases d with
 |struct fs=>
  simp only[CL,ji,jr]at fD;obtain⟨nd,qL⟩:=fD
  have tG:(fs.mapM (λf=>do pure (f.offset,<-sizeOf f.type):Field->Sem (H×H))).run P w = .ok (fs.map λf=>(f.offset,((E.T f.type).map (·.size)).getD 0)) w:=by
   rw[yf]
   have:=Sj (P:=P) (w:=w) (λf=>(do pure (f.offset,<-sizeOf f.type):Sem (H×H))) (λf:Field=>(f.offset,((E.T f.type).map (·.size)).getD 0)) fs.toList (λf hf=>by
    have:=ka.1 qL f hf;split at this
    .rename_i tf qG;simp only[J,iV hT qG,I,Ã,qG,qa,zj]
    .simp at this)
   simp only[Sem.run_map,this,I];congr 1;apply qf;simp
  have hp:∀(i:H)(f:H×H)(n:H),ti.flds[i]? = D f->(E.T f.2).map (·.size)=D n->(fs.map λf=>(f.offset,((E.T f.type).map (·.size)).getD 0))[i]? = D (f.1,n):=by
   intro i f n hf hn;rw[<-nd,qt]at hf;cases hq:fs.toList[i]? with
   |none=>simp[hq]at hf
   |some fl=>
    simp only[hq,qa,jb]at hf;subst hf;have C5:fs[i]? = D fl:=by simpa using hq
    simp only at hn;simp[C5,hn]
  obtain⟨bF,fH,ha,h1⟩:=Sk (S:=S) (w:=w) (γ:=γ) (place:=λi=>(fs.map λf=>(f.offset,((E.T f.type).map (·.size)).getD 0))[i]?) hp ps vs.toList (cells:=z.cells) gU h (by rw[gm];exact vF ty) (Gf gm);refine⟨.agg bF,?_,bF,rfl,ha,h1⟩;simp only[Ù,J,hz,I,run_underlying hd,tG,fH,Ã]
 |_=>exfalso;revert mZ mY;cases ty<;>simp[kU,Ty.agg]
theorem Sl{rd:H->BS}{el:Ty}:∀(ps:F (H×Cel)){xs dg:F el.den}{u u':Ups},kF rd el xs u ps=D (dg,u')->∃u2,u'=u++u2
 |[],_,_,u,u',h=>by simp[kF]at h;exact⟨[],by simp[h.2]⟩
 |(i,c)::ps,xs,dg,u,u',h=>by
  simp only[kF]at h;split at h
  .split at h
   .obtain⟨u2,hu⟩:=Sl ps h;exact⟨_,by rw[hu,jo]⟩
   .simp at h
  .simp at h
theorem KB{rd:H->BS}(aW:RdF np σ rd)(hB:vC S w γ σ.bx){el:Ty}(bU:0<el.size):∀(ps:F (H×Cel))(vs:F (H×G)){xs dg:F el.den}{u u':Ups},
  All2 (λp v=>p.1=v.1/\bM S w γ σ.bx p.2 v.2) ps vs->kF rd el xs u ps=D (dg,u')->FrzL np σ.bx u->
  FrzL np σ.bx u'/\∀S',dD S w S' w->Froz σ.bx γ S' w u'->∀(css:F (F G))(cells:È G),All2 (λx c=>Rep S' w el x c) xs css->cells.toList=css.flatten->
   ∃bF la,Ñ (λi=>D (i*el.size,el.size)) cells vs=D bF/\All2 (λx c=>Rep S' w el x c) dg la/\bF.toList=la.flatten
 |[],[],xs,dg,u,u',_,h,hf=>by
  simp[kF]at h;obtain⟨rfl,rfl⟩:=h;exact⟨hf,λS' _ _ css cells ha hc=>⟨cells,css,rfl,ha,hc⟩⟩
 |(i,c)::ps,(j,v)::vs,xs,dg,u,u',⟨⟨ee,hc⟩,gU⟩,h,hf=>by
  simp only at ee;subst ee;simp only[kF]at h;split at h
  .rename_i x u1 hx;split at h
   .rename_i hi;obtain⟨nd,xy,mM⟩:=CS aW hB hx hc;obtain⟨Λ,eY⟩:=KB aW hB bU ps vs gU h (FrzL.app.2 ⟨hf,nd⟩);obtain⟨u2,C6⟩:=Sl ps h;refine⟨Λ,λS' aO eG css cells ha dx=>?_⟩;have Μ:=(xy S' w aO (Froz.app.1 (Froz.app.1 (C6▸eG)).1).2).1;have CZ:cells.size=xs.length*el.size:=by have:=All2.flatten_length (λx c hx=>Rep.length el x c hx) ha;rw[<-dx]at this;simpa using this
    have Kv:i*el.size+el.size<=xs.length*el.size:=by have:(i+1)*el.size<=xs.length*el.size:=kg _ aa;rwa[vj]at this
    have mM:v.cells.toList.length=el.size:=mM;have iK:v.cells.size=el.size:=by simpa using mM
    have pI:v.cells.toList.length=v.cells.size:=qg;have AQ:=Kz cells (i*el.size) v.cells aa;obtain⟨ci,nf⟩:∃ci,css[i]? = D ci:=⟨css[i]'(by rw[<-ha.length];exact hi),kb _⟩;have AN:=Kt (cur:=cells.toList) (n:=xs.length) (c:=0) (zs:=v.cells.toList) (All2.all_len ha) ha.length.symm (by rw[dx,<-dx];exact Y (by simp[CZ])) nf aa;have dL:ci.length=el.size:=All2.all_len ha ci (kp nf)
    have eb:cells.toList.take (i*el.size)++v.cells.toList++cells.toList.drop (i*el.size+v.cells.size)=(css.set i v.cells.toList).flatten:=by
     have e1:ci.take 0++v.cells.toList++ci.drop (0+v.cells.toList.length)=v.cells.toList:=by rw[jj aa];simp
     rw[e1]at AN;rw[<-AN];symm;refine(Y ?_).trans ?_
     .simp;omega
     .simp
    obtain⟨bF,la,h1,h2,h3⟩:=eY S' aO eG (css.set i v.cells.toList) _ (ha.set i x v.cells.toList Μ) (AQ.trans eb);refine⟨bF,la,?_,h2,h3⟩;simp only[Ñ];rw[if_neg (by simp[iK];omega)];exact h1
   .simp at h
  .simp at h
 |[],_::_,_,_,_,_,h,_,_=>h.elim
 |_::_,[],_,_,_,_,h,_,_=>h.elim
end
theorem Sn{P:À}{t e:Æ}(h:P.underlying t=D (.slice e)):P.elem t=e:=by simp[Program.elem,h]
def VB(d:H)(o:Á G)(i:H):Prop:=(o=M/\i=d)\/∃k,o=D (.int k (i:Int))
theorem xz{P:À}{w:Â}{t:Æ}{e s:H}(hd:P.underlying t=D (.slice e))(hs:(sizeOf e).run P w = .ok s w){ad:Á Addr}{len cap i j:H}{lo hi:Á G}
  (iL:VB 0 lo i)(iM:VB len hi j)(ee:i<=j)(hj:j<=cap) :
  (æ t (.slice ad len cap) lo hi M).run P w = .ok (.slice (if cap=i then ad else ad.map (·.add (i*s))) (j-i) (cap-i)) w:=by
 have he:=Sn hd;have fW:P.underlying t=D (.slice (P.elem t)):=by rw[he];exact hd
 rw[run_sliceAt_slice w t _ _ _ _ fW];have dy:(sizeOf (P.elem t)).run P w = .ok s w:=by rw[he];exact hs
 rcases iL with⟨rfl,rfl⟩|⟨kl,rfl⟩
 .rcases iM with⟨rfl,rfl⟩|⟨kh,rfl⟩
  .rw[run_slice_all w t ad _ cap fW,dy];simp[ß,sliced]
  .rw[run_slice_h w t ad len cap fW kh _ aa aa,dy];simp[ß,sliced]
 .rcases iM with⟨rfl,rfl⟩|⟨kh,rfl⟩
  .rw[run_slice_l w t ad _ cap fW kl _ aa aa,dy];simp[ß,sliced]
  .rw[run_slice_lh w t ad len cap fW kl kh _ _ aa aa aa,dy];simp[ß,sliced]
section
variable{N:NT}{np:H}{S0:aU}{w0:Â}{refs:Refs}{σ:St}{a:Ý}{w:Â}{S:aU}{γ:H->G}
theorem Sp{el:Ty}{xs:F el.den}{ad:Á Addr}{cap:H}(h:Rep S w (.list el) xs [.slice ad (Î xs) cap]){i j:H}(ee:i<=j)(hj:j<=Î xs) :
  Rep S w (.list el) ((xs.take j).drop i) [.slice (if cap=i then ad else ad.map (·.add (i*el.size))) (j-i) (cap-i)]:=by
 obtain⟨Ν,gj,he,hle,iu,hn,hb⟩:=h;simp only[yt,Z,and_true,qm]at he;obtain⟨rfl,rfl⟩:=he;have hlen:((xs.take j).drop i).length=j-i:=ay;refine⟨_,_,by rw[hlen],by rw[hlen];omega,aa,λh=>?_,λb aK=>?_⟩
 .have:ad=none:=by
   split at h
   .exact h
   .simpa using h
  have:=hn this;omega
 .by_cases hc:cap=i
  .rw[if_pos hc]at aK;have hz:(xs.take j).drop i=[]:=ke aa;rw[hz];exact⟨λh=>absurd rfl h,[],trivial,λj v hv=>by simp at hv⟩
  .rw[if_neg hc]at aK;cases ad with
   |none=>simp at aK
   |some b0=>
    simp only[qa,jb]at aK;subst aK;obtain⟨dX,css,ha,hl⟩:=hb b0 rfl;by_cases hx:(xs.take j).drop i=[]
    .rw[hx];exact⟨λh=>absurd rfl h,[],trivial,λj v hv=>by simp at hv⟩
    .have fX:xs≠[]:=λh=>hx (by rw[h];simp);obtain⟨g,o,sp⟩:=b0;have dX:=dX fX;simp at dX;subst dX;have xA:(⟨g,o,M⟩:Addr).add (i*el.size)=⟨g,o+i*el.size,M⟩:=Å _ _ _;rw[xA];refine⟨λ_=>rfl,(css.take j).drop i,(ha.take j).drop i,λq v hq=>?_⟩;have dL:=All2.all_len ha;rw[C0 i (λc hc=>dL c (qn hc)),vH j dL,â,za]at hq;split at hq
     .have:=hl _ v hq;simpa[Nat.add_assoc]using this
     .simp at hq
def ORep(R:Leaf->G->Prop):Á Leaf->Á G->Prop
 |none,M=>True
 |some l,D v=>R l v
 |_,_=>False
theorem tH{d:H}{o:Á Leaf}{vo:Á G}{i:Int}{bx:H->BS}(h:bnd d o=D i)(ho:ORep (bz S w γ bx) o vo)(hi:0<=i):VB d vo i.toNat:=by
 unfold bnd at h;split at h
 .cases vo with
  |none=>simp at h;exact .inl ⟨rfl,aa⟩
  |some v=>exact ho.elim
 .cases vo with
  |none=>exact ho.elim
  |some v=>simp at h;rename_i k n;have hv:v = .int k n:=oD (S:=S) (w:=w) ho;refine .inr ⟨k,?_⟩;rw[hv,show (n:Int)=i from h,Int.toNat_of_nonneg hi]
 .simp at h
theorem Ξ{P:À}{E:Env}(hT:cI P E.T)(hR:Rel N np S0 w0 refs σ a w S γ){rd:H->BS}(aW:RdOk σ rd){t:Æ}{ti:TyI}(ht:E.T t=D ti)
  {d:H}{x l:Leaf}{lo hi:Á Leaf}{vx:G}{qP sE:Á G}{u:Ups}(bd:∀k,gT (rd k)=Ä->σ.bx k = .free)(h:An (parK np) rd ti d x lo hi=D (Ä,l,u))
  (hx:bz S w γ σ.bx x vx)(iL:ORep (bz S w γ σ.bx) lo qP)(iM:ORep (bz S w γ σ.bx) hi sE) :
  ∃v S' γ',(æ t vx qP sE M).run P w = .ok v w/\Rel N np S0 w0 refs (σ.upd u) a w S' γ'/\bM S' w γ' (σ.upd u).bx (.one l) v:=by
 unfold An at h;split at h
 ·-- a datum
  rename_i el xs;split at h
  .rename_i bD;obtain⟨hd,_,te,cP,cN⟩:=mX hT ht bD;have bT:=lU hT cP cN;split at h
   .rename_i i j ct jI;simp only[jb,jf,ji,jr]at h;obtain⟨⟨h0,h1,h2⟩,rfl,rfl⟩:=h;have mL:=hx;obtain⟨ad,cap,hv,hle,_⟩:=hx;simp at hv;subst hv;have hlen:((Î xs:H):Int)=Int.ofNat (Î xs):=rfl;refine⟨_,S,γ,xz hd (s:=el.size) ?_ (tH ct iL h0) (tH jI iM aa) aa aa,hR,Sp mL aa aa,λ_=>rfl⟩;rw[iV hT cP,bT]
   .simp at h
  .simp at h
 .rename_i k;split at h
  ·-- the tail
   split at h
   .rename_i e el xs f hk;split at h
    .rename_i bD;obtain⟨hd,_,te,cP,cN⟩:=mX hT ht bD;have bT:=lU hT cP cN;split at h
     .rename_i i ct;simp only[jb,jf,ji,jr]at h;obtain⟨⟨h0,h1⟩,rfl,rfl⟩:=h;have bY:=aW.nm hk;have hk:=aW.live hk;have hz:=hx.2.2 _ hk;obtain⟨css,aL,_⟩:=iI bY (hR.box k _ hk)
      obtain⟨ad,cap,hg,dO⟩:∃ad cap,γ k = .slice ad xs.length cap/\xs.length<=cap:=by
       rcases aL.2 with⟨hg,hn⟩|⟨g,cap,cur,hg,_,_,iv,_⟩
       .exact⟨M,0,by rw[hg,hn],aa⟩
       .exact⟨_,cap,hg,iv⟩
      have tI:VB xs.length sE xs.length:=by
       cases sE with
       |none=>exact .inl ⟨rfl,rfl⟩
       |some v=>exact iM.elim
      subst hz;have aM:=xz (ad:=ad) (w:=w) hd (s:=el.size) (by rw[iV hT cP,bT]) (tH ct iL h0) tI aa dO;rw[<-hg]at aM;refine⟨_,S,γ,aM,hR,⟨hx.1,rfl,λb hb=>?_⟩,λ_=>rfl⟩;rw[show (σ.upd []).bx k=σ.bx k from rfl,hk]at hb;cases hb;exact⟨bY,aa,ad,cap,hg,rfl⟩
     .simp at h
    .simp at h
   .simp at h
  .rename_i hh;split at h
   .rename_i e el xs f hk;split at h
    .rename_i bD;obtain⟨hd,_,te,cP,cN⟩:=mX hT ht bD;have bT:=lU hT cP cN;split at h
     .rename_i i j ct jI;have bY:=aW.nm hk;have hk:=aW.live hk;have hz:=hx.2.2 _ hk;split at h
      ·-- a vJ: its head
       split at h
       .rename_i AR;simp only[ç]at AR;subst AR;simp only[jb,jf,ji,jr]at h;obtain⟨⟨h0,h1⟩,rfl,rfl⟩:=h;obtain⟨css,aL,_⟩:=iI bY (hR.box k _ hk)
        have vK:VB 0 qP 0:=by
         cases qP with
         |none=>exact .inl ⟨rfl,rfl⟩
         |some v=>exact iL.elim
        have tI:=tH jI iM h0
        obtain⟨ad,cap,hg,dO,Ο⟩:∃ad cap,γ k = .slice ad xs.length cap/\xs.length<=cap/\(if cap=0 then ad else ad.map (·.add (0*el.size)))=ad:=by
         rcases aL.2 with⟨hg,hn⟩|⟨g,cap,cur,hg,_,_,iv,_⟩
         .exact⟨M,0,by rw[hg,hn],aa,rfl⟩
         .exact⟨_,cap,hg,iv,by simp[Å]⟩
        have aM:=xz (ad:=ad) (w:=w) hd (s:=el.size) (by rw[iV hT cP,bT]) vK tI aa (show j.toNat<=cap by omega);rw[<-hg,Ο]at aM;subst hz;refine⟨_,S,γ,aM,hR,⟨hx.1,rfl,λb hb=>?_⟩,λ_=>rfl⟩;rw[show (σ.upd []).bx k=σ.bx k from rfl,hk]at hb;cases hb;exact⟨bY,aa,ad,cap,hg,rfl⟩
       .simp at h
      rename_i nQ;have nQ:parK np k=false:=by simpa using nQ
      split at h
      ·-- cut short
       rename_i eZ;simp only[ji,ç,Bool.not_eq_eq_eq_not,jk]at eZ;obtain⟨rfl,rfl⟩:=eZ;split at h
       .rename_i gH;simp only[jb,jf,ji,jr]at h;obtain⟨⟨h0,h1⟩,rfl,rfl⟩:=h;have C7:=bd d gH;have sy:d≠k:=by rintro rfl;rw[C7]at hk;simp at hk
        obtain⟨css,aL,aw,hS⟩:=iI bY (hR.box k _ hk);have dL:=All2.all_len aw
        have vK:VB 0 qP 0:=by
         cases qP with
         |none=>exact .inl ⟨rfl,rfl⟩
         |some v=>exact iL.elim
        have tI:=tH jI iM h0;have bB:=AO hR hk;have pG:(σ.setB k .gone).bx d = .free:=by rw[cu σ _ sy];exact C7
        have qQ:j.toNat<=xs.length:=aa;have C8:css.length=xs.length:=aw.length.symm
        have key:∃v',(æ t vx qP sE M).run P w = .ok v' w/\w.ownsRow 0 e el.size v' (W j.toNat xs).length (W j.toNat css).flatten/\blk v'=blk vx:=by
         rw[hz];have au:(W j.toNat xs).length=j.toNat:=ay;rcases aL.2 with⟨hg,hn⟩|⟨g,cap,cur,hg,_,hh,iv,iu,dj,dM⟩
         .rw[hg];have KC:j.toNat=0:=aa;refine⟨_,xz hd (s:=el.size) (len:=0) (by rw[iV hT cP,bT]) vK (by rw[hn]at tI;exact tI) aa aa,?_,by simp;rfl⟩;rw[KC];simpa using Õ w 0 e el.size
         .rw[hg];refine⟨_,xz hd (s:=el.size) (by rw[iV hT cP,bT]) vK tI aa aa,?_,?_⟩
          .refine⟨?_,.inr ⟨g,cap,cur,?_,kq _,hh,aa,iu,dj,?_⟩⟩
           .rw[vH _ dL,qq,aL.1,au];exact É (kg _ qQ)
           .rw[au];by_cases hc:cap=0
            .simp[hc]
            .simp[hc,Å]
           .rw[au,vH _ dL,<-dM,Þ,É (kg _ qQ)]
          .by_cases hc:cap=0
           .simp[hc];rfl
           .simp[hc,Å];rfl
        obtain⟨v',aM,cd,hblk⟩:=key
        have ni:∀g,blk v'=D g->Own w0 refs g/\(∀k' b,(σ.setB k .gone).bx k' = .live b->blk (γ k')≠D g)/\g<w.heap.size:=by
         intro g hg;rw[hblk,hz]at hg;refine⟨?_,λk' b' aK az=>?_,jQ (hR.box k _ hk) hg⟩
         .rcases hR.own k _ g hk hg with h|h
          .exact h
          .rw[nQ]at h;simp at h
         .have bO:k'≠k:=by rintro rfl;rw[fm]at aK;simp at aK
          rw[cu σ _ bO]at aK;exact hR.apart k' k _ _ g bO aK hk az hg
        obtain⟨dh,gz⟩:=AP bB pG (hm:=bY) (w':=w) (S':=S) (v':=v') (e:=e) (el:=el) (zs:=W j.toNat xs) (frz:=U) (css:=W j.toNat css) (.refl S w) (λg hg br=>rfl) (jy _) ni
         (λg o hs=> .inl hs) rfl rfl rfl cd (aw.take _) (λg hg=>⟨λ_=>(hS g (by rw[<-hz,<-hblk];exact hg)).1 rfl,af⟩) (λg hg=>hR.kw_live hk (by rw[<-hz,<-hblk];exact hg))
        exact⟨v',S,_,aM,dh,gz⟩
       .simp at h
      ·-- shared
       simp only[jb,jf,ji,jr]at h;obtain⟨⟨h0,h1,h2⟩,rfl,rfl⟩:=h;obtain⟨S',cT,aO,bI⟩:=Kp hR bY hk nQ;have lY:=bI;obtain⟨ad,cap,hv,hle,_⟩:=bI;simp at hv;rw[hv]at lY;refine⟨_,S',γ,by rw[hz,hv];exact xz hd (s:=el.size) (by rw[iV hT cP,bT]) (tH ct iL h0) (tH jI iM aa) aa aa,cT,Sp lY aa aa,λ_=>rfl⟩
     .simp at h
    .simp at h
   .simp at h
 ·-- of a head
  rename_i k m;split at h
  .rename_i e el xs f hk;split at h
   .rename_i bD;obtain⟨bD,Ρ⟩:=bD;obtain⟨hd,_,te,cP,cN⟩:=mX hT ht bD;have bT:=lU hT cP cN;split at h
    .rename_i i j ct jI;simp only[jb,jf,ji,jr]at h;obtain⟨⟨h0,h1,h2⟩,rfl,rfl⟩:=h;have bY:=aW.nm hk;have hk:=aW.live hk;obtain⟨_,hm,ad,cap,hg,hz⟩:=hx.2.2 _ hk;obtain⟨css,aL,_⟩:=F3 hg (hR.box k _ hk)
     have dO:xs.length<=cap:=by
      rcases aL.2 with⟨az,hn⟩|⟨g,gj,cur,az,_,_,iv,_⟩
      .omega
      .rw[hg]at az;simp only[Z,qm]at az;omega
     have tI:VB m sE xs.length:=by
      have:=tH jI iM aa;rw[h2,je]at this;rcases this with⟨h3,_⟩|h3
      .cases hi with
       |none=>simp at Ρ
       |some y=>subst h3;exact iM.elim
      .exact .inr h3
     have aM:=xz (ad:=ad) (w:=w) hd (s:=el.size) (by rw[iV hT cP,bT]) (tH ct iL h0) tI aa dO;subst hz;refine⟨_,S,γ,aM,hR,⟨hx.1,rfl,λb hb=>?_⟩,λ_=>rfl⟩;rw[show (σ.upd []).bx k=σ.bx k from rfl,hk]at hb;cases hb;exact⟨bY,aa,ad,cap,hg,rfl⟩
    .simp at h
   .simp at h
  .simp at h
 .simp at h
theorem Τ{P:À}{E:Env}(hT:cI P E.T)(hR:Rel N np S0 w0 refs σ a w S γ){rd:H->BS}(aW:RdOk σ rd){t:Æ}{ti:TyI}(ht:E.T t=D ti)
  {x mx:Leaf}{lo hi:Á Leaf}{vx vm:G}{qP sE:Á G}(h:Ao rd ti x lo hi mx=D Ä)
  (hx:bz S w γ σ.bx x vx)(iL:ORep (bz S w γ σ.bx) lo qP)(iM:ORep (bz S w γ σ.bx) hi sE)(qR:bz S w γ σ.bx mx vm) :
  ∃v,(æ t vx qP sE (D vm)).run P w = .ok v w:=by
 unfold Ao at h;split at h
 case h_2=>simp at h
 rename_i k k1 i k2 j k3 m;split at h
 case h_2=>simp at h
 rename_i e el xs f hk;split at h
 case isFalse=>simp at h
 rename_i bD;simp only[jb,ji,jr]at h;obtain⟨h0,h1,h2,h3⟩:=h;obtain⟨hd,_,te,cP,cN⟩:=mX hT ht bD;have bT:=lU hT cP cN;have bY:=aW.nm hk;have hk:=aW.live hk;have hz:=hx.2.2 _ hk;cases qP with
 |none=>exact iL.elim
 |some vl=>
 cases sE with
 |none=>exact iM.elim
 |some vh=>
 have e1:vl = .int k1 i:=oD (S:=S) (w:=w) iL;have e2:vh = .int k2 j:=oD (S:=S) (w:=w) iM;have e3:vm = .int k3 m:=oD (S:=S) (w:=w) qR;subst e1 e2 e3;obtain⟨css,aL,_⟩:=iI bY (hR.box k _ hk);have he:=Sn hd;have fW:P.underlying t=D (.slice (P.elem t)):=by rw[he];exact hd
 rw[run_sliceAt_slice w t _ _ _ _ fW];have dy:(sizeOf (P.elem t)).run P w = .ok el.size w:=by rw[he];rw[iV hT cP,bT]
 have key:∀ad n cap,(m:Int)<=(cap:H)->∃v,(Instr.slice t (.slice ad n cap) (D (.int k1 i)) (D (.int k2 j)) (D (.int k3 m))).run P w = .ok v w:=by intro ad n cap hc;rw[run_slice_lhm w t ad n cap fW _ _ _ _ _ _ h0 h1 h2 hc,dy];exact⟨_,rfl⟩
 rcases aL.2 with⟨hg,hn⟩|⟨g,cap,cur,hg,_,hh,iv,_⟩
 .rw[hz,hg];exact key _ _ _ (z8 h3 aa)
 .rw[hz,hg];exact key _ _ _ (z8 h3 aa)
theorem Sq(hR:Rel N np S0 w0 refs σ a w S γ){x:Leaf}{k i e:H}{el:Ty}{xs:F el.den}{f:Ö}{vx:G}(h:FT x=D (k,i))(bY:isM e=U)(hk:σ.bx k = .live (.lst e el xs f))
  (hx:bz S w γ σ.bx x vx):i<=xs.length/\((xs.length=0/\vx = .slice M 0 0)\/
   ∃g cap,γ k = .slice (D ⟨g,0,M⟩) xs.length cap/\xs.length<=cap/\vx = .slice (D ⟨g,if cap=i then 0 else i*el.size,M⟩) (xs.length-i) (cap-i)):=by
 obtain⟨css,aL,aw,hS⟩:=iI bY (hR.box k _ hk);unfold FT at h;split at h
 .simp only[jb,jf]at h;obtain⟨rfl,rfl⟩:=h;have hz:=hx.2.2 _ hk;refine⟨kq _,?_⟩;rcases aL.2 with⟨hg,hn⟩|⟨g,cap,cur,hg,_,hh,iv,iu,dj,dM⟩
  .exact .inl ⟨hn,by rw[hz,hg]⟩
  .exact .inr ⟨g,cap,hg,iv,by rw[hz,hg];simp⟩
 .rename_i k' i';simp only[jb,jf]at h;obtain⟨rfl,rfl⟩:=h;obtain⟨_,hi,ad,cap,az,hv⟩:=hx.2.2 _ hk;refine⟨hi,?_⟩;rcases aL.2 with⟨hg,hn⟩|⟨g,gj,cur,hg,_,hh,iv,iu,dj,dM⟩
  .rw[hg]at az;simp only[Z]at az;obtain⟨rfl,_,rfl⟩:=az;exact .inl ⟨hn,by rw[hv];simp;omega⟩
  .rw[hg]at az;simp only[Z,qm]at az;obtain⟨rfl,rfl⟩:=az;refine .inr ⟨g,gj,hg,iv,?_⟩;rw[hv];by_cases hc:gj=i'
   .rw[if_pos hc,if_pos hc]
   .rw[if_neg hc,if_neg hc];simp[Å]
 .simp at h
theorem KD{P:À}(hR:Rel N np S0 w0 refs σ a w S γ){k i e g cap:H}{el:Ty}{xs zs:F el.den}(hk:σ.bx k = .live (.lst e el xs U))(hg:γ k = .slice (D ⟨g,0,M⟩) xs.length cap)
  {cz:F (F G)}(hz:All2 (λx c=>Rep S w el x c) zs cz)(hl:i+zs.length<=xs.length) :
  ∃w',(storeCells ⟨g,i*el.size,M⟩ cz.flatten).run P w = .ok () w'/\Rel N np S0 w0 refs (σ.setB k (.live (.lst e el (W i xs++(zs++Ë (i+zs.length) xs)) U))) a w' S γ:=by
 have bY:=RK hg (hR.box k _ hk);obtain⟨css,aL,aw,hS⟩:=iI bY (hR.box k _ hk);have pK:cz.flatten.length=zs.length*el.size:=All2.flatten_length (λx c hx=>Rep.length el x c hx) hz;have h1:∀u∈cz.flatten,One u:=by intro u hu;obtain⟨c,hc,tw⟩:=List.mem_flatten.1 hu;obtain⟨x,_,hx⟩:=hz.mem_right c hc;exact Rep.one el x c hx u tw
 rcases aL.2 with⟨az,hn⟩|⟨g',gj,cur,az,_,hh,iv,iu,dj,dM⟩
 .rw[hg]at az;simp at az
 rw[hg]at az;simp only[Z,jb,Addr.mk.injEq,and_true,qm]at az;obtain⟨rfl,rfl⟩:=az;have gZ:i*el.size+zs.length*el.size<=xs.length*el.size:=by rw[<-Ç];exact kg _ hl
 have gV:xs.length*el.size<=cap*el.size:=kg _ iv;have aO:=run_storeCells_at P g (i*el.size) e cz.flatten 0 cur w hh (by rw[pK,dj];omega) h1;simp only[ô]at aO;refine⟨_,aO,?_⟩;have dL:=All2.all_len aw;have KE:=All2.all_len hz;have vG:∀o,¬S g o:=(hS g (by rw[hg];rfl)).1 rfl;refine AM hR hk (by rw[hg];rfl) vG (b':= .lst e el _ U) ⟨rfl,rfl,λ_=>ay⟩ hh (λeV cW=>?_);have hlen:(W i xs++(zs++Ë (i+zs.length) xs)).length=xs.length:=ay;refine AD bY ⟨css.take i++(cz++css.drop (i+zs.length)),⟨?_,.inr ⟨g,cap,_,?_,kq _,setRow_heap w g cur _ e (0,0) hh,by rw[hlen];exact iv,iu,?_,?_⟩⟩,?_,λg' az=>?_⟩
 .rw[hlen,xr (m:=el.size)]
  .have:=aw.length;have:=hz.length;simp only[jn,qq,zd];congr 1;omega
  .intro d hd;simp only[js]at hd;rcases hd with hd|hd|hd
   .exact dL d (qn hd)
   .exact KE d hd
   .exact dL d (zp hd)
 .rw[hlen];exact hg
 .simp only[yc,jn,qq,zd,qg];omega
 .rw[hlen];simp only[ym,vH i dL,C0 _ dL,<-dM];have hA:(cur.toList.take (i*el.size)).length=i*el.size:=ay;rw[jo,Ø,hA,Y aa,Þ,É aa];congr 1;rw[Ø,pK,Y aa,Ç];congr 1;rw[List.drop_take];congr 1;omega
 .exact((aw.mono (λx c hx=>Rep.keep cW _ _ _ hx)).take _).append ((hz.mono (λx c hx=>Rep.keep cW _ _ _ hx)).append ((aw.mono (λx c hx=>Rep.keep cW _ _ _ hx)).drop _))
 .rw[hg]at az;simp[blk]at az;subst az;exact⟨λ_=>vG,af⟩
theorem Sr{σ:St}{k:H}{b:BS}(h:σ.bx k=b):σ.setB k b=σ:=by
 unfold St.setB;congr 1;funext j;split
 .rename_i hj;subst hj;exact h.symm
 .rfl
theorem Υ{P:À}{E:Env}(hT:cI P E.T)(hR:Rel N np S0 w0 refs σ a w S γ){rd:H->BS}(aW:RdOk σ rd){t ty:Æ}{ti:TyI}(ht:E.T t=D ti)
  {x y l:Leaf}{u:Ups}{vx vy:G}(h:Ap rd ti.ty x y=D (l,u))(hx:bz S w γ σ.bx x vx)(hy:bz S w γ σ.bx y vy) :
  ∃v w',(è #[t,t] ty #[vx,vy]).run P w = .ok v w'/\Rel N np S0 w0 refs (σ.upd u) a w' S γ/\bM S w' γ (σ.upd u).bx (.one l) v:=by
 unfold Ap at h;split at h
 .rename_i k i C9;split at h
  .rename_i e el xs hk;split at h
   .rename_i bD;split at h
    .rename_i ys lZ;simp only[jb,jf]at h;obtain⟨rfl,rfl⟩:=h;have bY:=aW.nm hk;have hk:=aW.live hk;obtain⟨hd,bU,te,cP,cN⟩:=mX hT ht bD;have bT:=lU hT cP cN;have fF:(sizeOf ti.elem).run P w = .ok el.size w:=by rw[iV hT cP,bT]
     obtain⟨ad,c,cy,Gb,eX,xx,dK⟩:=Sd hR aW lZ hy;subst Gb;obtain⟨hi,cE⟩:=Sq hR C9 bY hk hx;have Da:=All2.all_len xx;have tJ:cy.length=ys.length:=xx.length.symm;have fo:(W (xs.length-i) ys).length=min ys.length (xs.length-i):=ay
     have xB:over xs i ys=W i xs++(W (xs.length-i) ys++Ë (i+(W (xs.length-i) ys).length) xs):=by
      unfold over;congr 2;rw[fo];by_cases h:ys.length<=xs.length-i
      .rw[É h]
      .rw[Nat.min_eq_right aa,jj aa,jj aa]
     have vL:(Ó el.size (min ys.length (xs.length-i)) (.slice ad ys.length c)).run P w = .ok (W (xs.length-i) cy).flatten.toArray w:=by
      cases ad with
      |none=>have h0:=(eX rfl).1;have:cy=[]:=ke aa;subst this;simp[Ó]
      |some b=>
       have e1:(W (xs.length-i) cy).flatten.length=min ys.length (xs.length-i)*el.size:=by rw[xr (m:=el.size) (λc hc=>Da c (qn hc)),qq,tJ,Nat.min_comm]
       have:=run_loadCells_list (P:=P) w b (W (xs.length-i) cy).flatten (λj v hj=>by
        rw[vH _ Da,za]at hj;split at hj
        .exact dK b rfl j v hj
        .simp at hj)
       rw[e1]at this;simpa[Ó]using this
     have aM:∀base dl dc w',vx = .slice base dl dc->dl=xs.length-i->(base=M->w'=w)->(∀ab,base=D ab->(storeCells ab (W (xs.length-i) cy).flatten).run P w = .ok () w')->
       (è #[t,t] ty #[vx,.slice ad ys.length c]).run P w = .ok (goInt ((min ys.length (xs.length-i):H):Int)) w':=by
      intro base dl dc w' hv tK dG eF;subst hv tK;have nj:Nat.min ys.length (xs.length-i)=min ys.length (xs.length-i):=rfl;cases base with
      |none=>simp[è,run_underlying hd,ñ,fF,nj,vL,dG rfl]
      |some ab=>simp[è,run_underlying hd,ñ,fF,nj,vL,eF ab rfl]
     by_cases hn:min ys.length (xs.length-i)=0
     .have hz:W (xs.length-i) ys=[]:=ke (by rw[fo];exact hn);have gm:(W (xs.length-i) cy).flatten=[]:=by have:W (xs.length-i) cy=[]:=ke (by rw[qq,tJ];omega);rw[this];rfl
      have KF:over xs i ys=xs:=by rw[xB,hz];simp
      refine⟨_,w,?_,?_,⟨rfl,λ_=>rfl⟩⟩
      .rcases cE with⟨h0,hv⟩|⟨g,cap,hg,dO,hv⟩
       .exact aM M 0 0 w hv aa (λ_=>rfl) (λab cX=>by simp at cX)
       .refine aM _ _ _ w hv rfl (λ_=>rfl) (λab cX=>?_);rw[gm];rfl
      .show Rel N np S0 w0 refs (σ.setB k (.live (.lst e el (over xs i ys) U))) a w S γ;rw[KF,Sr hk];exact hR
     .rcases cE with⟨h0,hv⟩|⟨g,cap,hg,dO,hv⟩
      .omega
      .have nf:cap≠i:=aa;rw[if_neg nf]at hv;obtain⟨w',aO,dh⟩:=KD (P:=P) hR hk hg (i:=i) (xx.take (xs.length-i)) (by rw[fo];omega);refine⟨_,w',aM _ _ _ w' hv rfl (λh=>by simp at h) (λab cX=>?_),?_,⟨rfl,λ_=>rfl⟩⟩
       .simp only[jb]at cX;subst cX;exact aO
       .show Rel N np S0 w0 refs (σ.setB k (.live (.lst e el (over xs i ys) U))) a w' S γ;rw[xB];exact dh
    .simp at h
   .simp at h
  .simp at h
 .simp at h
theorem Φ{P:À}{E:Env}(hT:cI P E.T)(hR:Rel N np S0 w0 refs σ a w S γ){rd:H->BS}(aW:RdOk σ rd){t ty:Æ}{ti:TyI}(ht:E.T t=D ti)
  {x:Leaf}{u:Ups}{vx:G}(h:Aq rd ti.ty x=D u)(hx:bz S w γ σ.bx x vx) :
  ∃v w',(à #[t] ty #[vx]).run P w = .ok v w'/\Rel N np S0 w0 refs (σ.upd u) a w' S γ:=by
 unfold Aq at h;split at h
 .rename_i k i C9;split at h
  .rename_i e el xs hk;split at h
   .rename_i bD;simp only[jb]at h;subst h;have bY:=aW.nm hk;have hk:=aW.live hk;obtain⟨hd,bU,te,cP,cN⟩:=mX hT ht bD;have bT:=lU hT cP cN;obtain⟨z,hz,gm⟩:=xl hT cP w cN;obtain⟨hi,cE⟩:=Sq hR C9 bY hk hx;by_cases hn:xs.length-i=0
    .have xB:W i xs++O (xs.length-i) el.dflt=xs:=by rw[hn];simp[Y (show xs.length<=i by omega)]
     refine⟨.tuple #[],w,?_,?_⟩
     .rcases cE with⟨h0,hv⟩|⟨g,cap,hg,dO,hv⟩
      .simp[à,run_underlying hd,hv]
      .rw[hn]at hv;simp[à,run_underlying hd,hv]
     .show Rel N np S0 w0 refs (σ.setB k (.live (.lst e el (W i xs++O (xs.length-i) el.dflt) U))) a w S γ;rw[xB,Sr hk];exact hR
    .rcases cE with⟨h0,hv⟩|⟨g,cap,hg,dO,hv⟩
     .omega
     .have nf:cap≠i:=aa;rw[if_neg nf]at hv
      have Ss:All2 (λx c=>Rep S w el x c) (O (xs.length-i) el.dflt) (O (xs.length-i) (kI el)):=by
       have h0:=pH (S:=S) (w:=w) el
       have:∀n,All2 (λx c=>Rep S w el x c) (O n el.dflt) (O n (kI el)):=by
        intro n;induction n with
        |zero=>exact trivial
        |succ n ih=>exact⟨h0,ih⟩
       exact this _
      obtain⟨w',aO,dh⟩:=KD (P:=P) hR hk hg (i:=i) Ss ay;refine⟨.tuple #[],w',?_,?_⟩
      .have Χ:0<z.cells.size:=by have:=Ge gm;omega
       have dx:(Builtin.zeroCells z.cells (xs.length-i)).toList=(O (xs.length-i) (kI el)).flatten:=by rw[<-gm];exact Sh z.cells (xs.length-i) Χ
       rw[hv];obtain⟨m,hm⟩:∃m,xs.length-i=m+1:=⟨xs.length-i-1,aa⟩;rw[hm]at dx aO ⊢;simp[à,run_underlying hd,hz,dx,aO]
      .show Rel N np S0 w0 refs (σ.setB k (.live (.lst e el (W i xs++O (xs.length-i) el.dflt) U))) a w' S γ;have:Ë (i+(O (xs.length-i) el.dflt).length) xs=[]:=jj ay;rw[this,qh]at dh;exact dh
   .simp at h
  .simp at h
 .simp at h
theorem Ψ{P:À}{E:Env}(hT:cI P E.T)(hR:Rel N np S0 w0 refs σ a w S γ){rd:H->BS}(aW:RdOk σ rd){t ty:Æ}{ti:TyI}(ht:E.T t=D ti){el:Ty}(bD:ti.ty=D (.list el))
  {s x v:Leaf}{u:Ups}{vs vx:G}(h:appH rd ti.elem el s x=D (Ä,v,u))(hs:bz S w γ σ.bx s vs)(hx:bz S w γ σ.bx x vx) :
  ∃z w',(Ì #[t,t] ty #[vs,vx]).run P w = .ok z w'/\Rel N np S0 w0 refs (σ.upd u) a w' S γ/\bz S w' γ (σ.upd u).bx v z/\One z:=by
 unfold appH at h;split at h
 case h_2=>simp at h
 rename_i k i k' j;split at h
 case isFalse=>simp at h
 rename_i bO;subst bO;split at h
 case h_2=>simp at h
 rename_i e b xs hk;split at h
 case isFalse=>simp at h
 rename_i hb;obtain⟨hb,he⟩:=hb;subst hb;subst he;simp only[jb,jf,jr]at h;obtain⟨ee,rfl,rfl⟩:=h;obtain⟨hd,_,te,cP,cN⟩:=mX hT ht bD;have bT:=lU hT cP cN;obtain⟨inf,d,hi,_,lM,_⟩:=mI hT cP;have lb:inf.size=b.size:=by rw[lM,<-bT]
 have bY:=aW.nm hk;have hk:=aW.live hk;obtain⟨_,gK,ad,cap,hg,iK⟩:=hs.2.2 _ hk;obtain⟨_,vM,Ν,gj,az,C3⟩:=hx.2.2 _ hk;rw[hg]at az;simp only[Z,qm]at az;obtain⟨rfl,rfl⟩:=az;obtain⟨css,aL,aw,hS⟩:=F3 hg (hR.box k _ hk);have dL:=All2.all_len aw;have nR:(W i xs++(Ë j xs++Ë (i+(xs.length-j)) xs)).length=xs.length:=ay;have kL:∀(w':Â),bz S w' γ (σ.setB k (.live (.lst ti.elem b (W i xs++(Ë j xs++Ë (i+(xs.length-j)) xs)) U))).bx (.hd k (i+(xs.length-j))) (.slice ad (i+(xs.length-j)) cap):=by intro w';refine⟨by rw[fm];simp,rfl,λb' aK=>?_⟩;rw[fm]at aK;cases aK;exact⟨bY,by rw[nR];omega,ad,cap,by rw[nR];exact hg,rfl⟩
 rcases aL.2 with⟨gC,hn⟩|⟨g,Db,cur,gC,_,hh,iv,iu,dj,dM⟩
 .rw[hg]at gC;simp only[Z]at gC;obtain⟨rfl,_,rfl⟩:=gC;have xw:xs=[]:=ke hn;subst xw;have Ω:i=0:=by simpa using gK
  have KC:j=0:=by simpa using vM
  subst Ω KC;have aM:=run_append_owned_none (P:=P) w 0 t ty ti.elem inf b.size hd hi (.slice M 0 0) 0 [] (Õ w 0 ti.elem b.size)
  have δ:σ.setB k (.live (.lst ti.elem b ([]:F b.den) U))=σ:=by
   show St.mk σ.sl _=σ
   have:(λj=>if j=k then BS.live (.lst ti.elem b ([]:F b.den) U) else σ.bx j)=σ.bx:=by
    funext j
    by_cases hj:j=k
    .subst hj;simp[hk]
    .simp[hj]
   rw[this]
  refine⟨_,w,by rw[iK,C3];exact aM,?_,kL w,rfl⟩;show Rel N np S0 w0 refs (σ.setB k (.live (.lst ti.elem b ([]:F b.den) U))) a w S γ;rw[δ];exact hR
 .rw[hg]at gC;simp only[Z,qm]at gC;obtain⟨rfl,rfl⟩:=gC;obtain⟨w',aO,dh⟩:=KD (P:=P) (i:=i) hR hk hg (aw.drop j) ay;have pK:(css.drop j).flatten.length=(xs.length-j)*b.size:=by have:=All2.flatten_length (λx c hx=>Rep.length b x c hx) (aw.drop j);simpa using this
  have h1:∀u∈(css.drop j).flatten,One u:=by intro u hu;obtain⟨c,hc,tw⟩:=List.mem_flatten.1 hu;obtain⟨x,_,hx⟩:=(aw.drop j).mem_right c hc;exact Rep.one b x c hx u tw
  have gZ:i*b.size+(xs.length-j)*b.size<=xs.length*b.size:=by rw[<-Ç];exact kg _ aa
  have gV:xs.length*b.size<=cap*b.size:=kg _ iv;have cW:=run_storeCells_at P g (i*b.size) _ (css.drop j).flatten 0 cur w hh (by rw[pK,dj];omega) h1;simp only[ô]at cW;have hw:w'=w.setRow g (cur.toList.take (i*b.size)++(css.drop j).flatten++cur.toList.drop (i*b.size+(css.drop j).flatten.length)).toArray:=by have:=aO.symm.trans cW;simpa using this
  have dx:∀q u,(css.drop j).flatten[q]? = D u->w.cell? ((⟨g,if cap=j then 0 else j*b.size,M⟩:Addr).add q)=D u:=by
   intro q u hq;have Su:q<(xs.length-j)*b.size:=by rw[<-pK];exact(kf.1 hq).1
   have hc:¬cap=j:=by intro hc;have:xs.length-j=0:=aa;rw[this]at Su;simp at Su
   rw[if_neg hc,Å];rw[C0 j dL,â]at hq;have:=aL.cells (g:=g) (by rw[hg];rfl) _ u hq;rwa[Å,ko]at this
  have aM:=run_append_room (P:=P) w t ty ti.elem inf hd hi g i cap cur (by exact hh) ⟨g,if cap=j then 0 else j*b.size,M⟩ (xs.length-j) (cap-j) (css.drop j).flatten (by rw[lb];exact pK) dx h1 aa
   (by rw[lb,pK,dj];omega)
  have KG:vx = .slice (D ⟨g,if cap=j then 0 else j*b.size,M⟩) (xs.length-j) (cap-j):=by
   rw[C3];by_cases hc:cap=j
   .rw[if_pos hc,if_pos hc]
   .rw[if_neg hc,if_neg hc];simp[Å]
  refine⟨_,w',by rw[iK,KG,aM,hw,lb],?_,kL w',rfl⟩;have:(Ë j xs).length=xs.length-j:=af;rw[this]at dh;exact dh
theorem ε(hR:Rel N np S0 w0 refs σ a w S γ){rdf:H->BS}(bn:RdF np σ rdf){e:H}{el:Ty}{s:Leaf}{m:H}{ls:F Leaf}{u:Ups}{vs:G}(h:rowS rdf e el s=D (m,ls,u))(hs:bz S w γ σ.bx s vs) :
  ∃cs,w.ownsRow 0 e el.size vs m cs/\All2 (bz S w γ σ.bx) ls cs/\(∀u∈cs,One u)/\Rel N np S0 w0 refs (σ.upd u) a w S γ/\BxLe γ σ.bx γ (σ.upd u).bx/\
   (∀k,σ.bx k = .free->(σ.upd u).bx k = .free)/\∀g,blk vs=D g->(∀o,¬S g o)/\Own w0 refs g/\refs.kw g=M/\g<w.heap.size/\∀k b,(σ.upd u).bx k = .live b->blk (γ k)≠D g:=by
 unfold rowS at h;split at h
 .simp only[jb,jf]at h;obtain⟨rfl,rfl,rfl⟩:=h;have hz:vs = .slice M 0 0:=hs;subst hz;exact⟨[],Õ w 0 e el.size,trivial,af,hR,.refl _ _,λk h=>h,λg hg=>by simp[blk]at hg⟩
 .rename_i k;split at h
  case h_2=>simp at h
  rename_i e' a' m' gf hk;split at h
  case isFalse=>simp at h
  rename_i hc;obtain⟨rfl,rfl⟩:=hc;simp only[jb,jf]at h;obtain⟨rfl,rfl,rfl⟩:=h;have bk:=bn.ok.live hk;have hz:vs=γ k:=hs.2.2 _ bk;subst hz;obtain⟨_,⟨cs,aL,aw,h1⟩,hS⟩:=hR.box k _ bk;refine⟨cs,aL,aw,h1,AO hR bk,?_,?_,λg hg=>⟨hS g hg,?_,hR.kw_live bk hg,jQ (hR.box k _ bk) hg,?_⟩⟩
  .intro k' eR;show (σ.setB k .gone).bx k'≠_/\_;by_cases bO:k'=k
   .subst bO;exact⟨by rw[fm];simp,rfl,λb hb=>by have hb:(σ.setB k' .gone).bx k' = .live b:=hb;rw[fm]at hb;simp at hb⟩
   .exact⟨by rw[cu _ _ bO];exact eR,rfl,λb hb=>by have hb:(σ.setB k .gone).bx k' = .live b:=hb;rw[cu _ _ bO]at hb;exact⟨b,hb,.refl b⟩⟩
  .intro k' h;show (σ.setB k .gone).bx k'=_;rw[cu _ _ (by rintro rfl;rw[h]at bk;simp at bk)];exact h
  .rcases hR.own k _ g bk hg with h|h
   .exact h
   .rw[bn.par hk]at h;simp at h
  .intro k' b hb az;have hb:(σ.setB k .gone).bx k' = .live b:=hb;by_cases bO:k'=k
   .subst bO;rw[fm]at hb;simp at hb
   .rw[cu _ _ bO]at hb;exact hR.apart k' k _ _ g bO hb bk az hg
 .simp at h
theorem ζ{P:À}{E:Env}(hT:cI P E.T)(hR:Rel N np S0 w0 refs σ a w S γ){rd rdf:H->BS}(aW:RdOk σ rd)(bn:RdF np σ rdf){t ty:Æ}{ti:TyI}(ht:E.T t=D ti){el:Ty}(bD:ti.ty=D (.list el)){n:H}
  {s x v:Leaf}{u:Ups}{vs vx:G}(h:appN rd rdf ti.elem el n s x=D (v,u))(hs:bz S w γ σ.bx s vs)(hx:bz S w γ σ.bx x vx) :
  ∃z w' γ',(Ì #[t,t] ty #[vs,vx]).run P w = .ok z w'/\Rel N np S0 w0 refs (σ.upd u) a w' S γ'/\bz S w' γ' (σ.upd u).bx v z/\One z:=by
 unfold appN at h;split at h
 case h_2=>simp at h
 rename_i k;split at h
 case h_2=>simp at h
 rename_i e' a' m ls hk;split at h
 case h_2=>simp at h
 rename_i m0 FW u0 AN;split at h
 case isFalse=>simp at h
 rename_i hc;obtain⟨⟨rfl,rfl⟩,gp,eI,gH⟩:=hc;simp only[jb,jf]at h;obtain⟨rfl,rfl⟩:=h;have hn:=aW.free gH;have bk:=bn.ok.live hk;have hz:vx=γ k:=hx.2.2 _ bk;subst hz;obtain⟨bY,⟨cs,aL,aw,h1⟩,R7⟩:=hR.box k _ bk;obtain⟨η,Dc,qS,θ,bB,gL,xC,iK⟩:=ε hR bn AN hs;have dm:(σ.upd u0).bx k = .live (.row ti.elem a' m ls):=(jR u0 σ gp).trans bk;have cB:=AO bB dm;have xD:((σ.upd u0).setB k .gone).bx n = .free:=by rw[cu _ _ (by rintro rfl;rw[hn]at bk;simp at bk)];exact xC n hn
 have eV:BxLe γ σ.bx γ ((σ.upd u0).setB k .gone).bx:=by
  intro k' eR;obtain⟨q1,q2,q3⟩:=gL k' eR;by_cases bO:k'=k
  .subst bO;exact⟨by rw[fm];simp,rfl,λb hb=>by rw[fm]at hb;simp at hb⟩
  .rw[cu _ _ bO];exact⟨q1,q2,q3⟩
 obtain⟨ad,c,KH,eX,gJ⟩:∃ad c,γ k = .slice ad m c/\(ad=M->m=0/\c=0)/\∀b,ad=D b->∀(j:H)(u:G),cs[j]? = D u->w.cell? (b.add j)=D u:=by
  rcases aL.2 with⟨h2,h3⟩|⟨g,cap,cur,h2,_,hh,_,_,_,dM⟩
  .exact⟨M,0,by rw[h2,h3],λ_=>⟨h3,rfl⟩,λb hb=>by simp at hb⟩
  .exact⟨D ⟨g,0,M⟩,cap,h2,λh=>by simp at h,λb hb j u hu=>by
    simp at hb;subst hb;exact aL.cells (g:=g) (by rw[h2];rfl) j u hu⟩
 obtain⟨v',w',hr,cd,os,tape,output,bT,cE⟩:=Sc (ty:=ty) hT ht bD Dc (ad:=ad) (m:=m) (c:=c) (news:=cs) eX aL.1 gJ h1 (by simp only[aF];omega)
 have ga:∀g,g<w.heap.size->blk v'≠D g->w'.heap[g]? = w.heap[g]? := by
  intro g hg br;rcases cE with⟨_,rfl⟩|⟨h2,_,h3⟩|⟨_,h3⟩
  .rfl
  .exact h3 g (by rw[<-h2];exact br)
  .exact h3 g hg
 have fE:∀g,blk v'=D g->g<w'.heap.size:=λg hg=>by
  rcases cd.2 with⟨h2,_⟩|⟨g2,Db,KI,h2,_,ι,_⟩
  .rw[h2]at hg;simp[blk]at hg
  .rw[h2]at hg;simp[blk]at hg;subst hg;exact(jp.1 ι).1
 have hv:∀g,blk v'=D g->(∀o,¬S g o)/\Own w0 refs g/\refs.kw g=M/\∀k' b,((σ.upd u0).setB k .gone).bx k' = .live b->blk (γ k')≠D g:=by
  intro g hg
  have old:blk vs=D g->(∀o,¬S g o)/\Own w0 refs g/\refs.kw g=M/\∀k' b,((σ.upd u0).setB k .gone).bx k' = .live b->blk (γ k')≠D g:=by
   intro h2;obtain⟨q1,q2,q3,_,q4⟩:=iK g h2;refine⟨q1,q2,q3,λk' b hb=>?_⟩;by_cases bO:k'=k
   .subst bO;rw[fm]at hb;simp at hb
   .rw[cu _ _ bO]at hb;exact q4 k' b hb
  rcases cE with⟨rfl,_⟩|⟨h2,_,_⟩|⟨h2,_⟩
  .exact old hg
  .exact old (by rw[<-h2];exact hg)
  .rw[hg]at h2;simp at h2;subst h2;exact⟨λo=>AL hR o,.inl hR.grow,hR.kw_new (jy _),λk' b hb aK=>by have:=jQ (cB.box k' b hb) aK;omega⟩
 have aO:dD S w S w':=λg o h=>⟨h,Ð (ga g (hR.here g o h) (λhb=>(hv g hb).1 o h))⟩
 obtain⟨dh,_⟩:=Δ cB xD (b:= .row ti.elem a' (m0+m) (FW++ls)) aO ga bT (λg hg=>⟨(hv g hg).2.1,(hv g hg).2.2.2,fE g hg⟩) os tape output (λhle=>by
  have oF:BxLe γ σ.bx (gset γ n v') (((σ.upd u0).setB k .gone).setB n (.live (.row ti.elem a' (m0+m) (FW++ls)))).bx:=λk' eR=>by
   obtain⟨q1,q2,q3⟩:=eV k' eR;obtain⟨p1,p2,p3⟩:=hle k' q1
   exact⟨p1,p2.trans q2,λb' aK=>by
    obtain⟨b1,dG,kJ⟩:=p3 b' aK;obtain⟨b2,eF,lM⟩:=q3 b1 dG;exact⟨b2,eF,lM.trans kJ⟩⟩
  refine⟨bY,⟨η++cs,by rw[ew];exact cd,(qS.append aw).mono (λx u hx=>bz.keep aO oF hx),λu hu=>(js.1 hu).elim (θ u) (h1 u)⟩,λg hg o=>?_⟩;rw[ew]at hg;exact(hv g hg).1 o) (λg hg=>(hv g hg).2.2.1)
 have cV:One v':=by rcases cd.2 with⟨h2,_⟩|⟨g2,Db,KI,h2,_⟩<;>rw[h2]<;>rfl
 refine⟨v',w',gset γ n v',by rw[KH];exact hr,?_,?_,cV⟩
 .rw[iW];exact dh
 .rw[iW];exact⟨by show (((σ.upd u0).setB k .gone).setB n _).bx n≠_;rw[fm];simp,cV,λb _=>(ew γ n v').symm⟩
theorem ν(hR:Rel N np S0 w0 refs σ a w S γ){k d e m:H}{el:Ty}{xs:F el.den}(hk:σ.bx k = .live (.lst e el xs U))(nQ:parK np k=U)(C7:σ.bx d = .free){ad:Á Addr}{cap:H}(hm:m<=xs.length)
  (hg:γ k = .slice ad xs.length cap) :
  ∃γ',Rel N np S0 w0 refs (σ.upd [(k,.gone),(d,.live (.lst e el (W m xs) U))]) a w S γ'/\bM S w γ' (σ.upd [(k,.gone),(d,.live (.lst e el (W m xs) U))]).bx (.one (.ol d)) (.slice ad m cap):=by
 have sy:d≠k:=by rintro rfl;rw[C7]at hk;simp at hk
 have bY:=RK hg (hR.box k _ hk);obtain⟨css,aL,aw,hS⟩:=iI bY (hR.box k _ hk);have dL:=All2.all_len aw;have bB:=AO hR hk;have pG:(σ.setB k .gone).bx d = .free:=by rw[cu σ _ sy];exact C7
 have au:(W m xs).length=m:=ay;have hblk:blk (.slice ad m cap)=blk (γ k):=by rw[hg];cases ad<;>rfl
 have cd:w.ownsRow 0 e el.size (.slice ad m cap) (W m xs).length (W m css).flatten:=by
  refine⟨?_,?_⟩
  .rw[vH _ dL,qq,aL.1,au];exact É (kg _ hm)
  .rcases aL.2 with⟨az,hn⟩|⟨g,gj,cur,az,_,hh,iv,iu,dj,dM⟩
   .rw[hg]at az;simp only[Z]at az;obtain⟨rfl,_,rfl⟩:=az;exact .inl ⟨by rw[show m=0 by omega],aa⟩
   .rw[hg]at az;simp only[Z,qm]at az;obtain⟨rfl,rfl⟩:=az;refine .inr ⟨g,cap,cur,by rw[au],kq _,hh,aa,iu,dj,?_⟩;rw[au,vH _ dL,<-dM,Þ,É (kg _ hm)]
 have ni:∀g,blk (.slice ad m cap)=D g->Own w0 refs g/\(∀k' b,(σ.setB k .gone).bx k' = .live b->blk (γ k')≠D g)/\g<w.heap.size:=by
  intro g hg;rw[hblk]at hg;refine⟨?_,λk' b' aK az=>?_,jQ (hR.box k _ hk) hg⟩
  .rcases hR.own k _ g hk hg with h|h
   .exact h
   .rw[nQ]at h;simp at h
  .have bO:k'≠k:=by rintro rfl;rw[fm]at aK;simp at aK
   rw[cu σ _ bO]at aK;exact hR.apart k' k _ _ g bO aK hk az hg
 obtain⟨dh,gz⟩:=AP bB pG (hm:=bY) (w':=w) (S':=S) (v':= .slice ad m cap) (e:=e) (el:=el) (zs:=W m xs) (frz:=U) (css:=W m css) (.refl S w) (λg hg br=>rfl) (jy _) ni
  (λg o hs=> .inl hs) rfl rfl rfl cd (aw.take _) (λg hg=>⟨λ_=>(hS g (by rw[<-hblk];exact hg)).1 rfl,af⟩) (λg hg=>hR.kw_live hk (by rw[<-hblk];exact hg))
 exact⟨_,dh,gz⟩
end
section
variable{N:NT}{np:H}{S0:aU}{w0:Â}{refs:Refs}{σ:St}{a:Ý}{w:Â}{S:aU}{γ:H->G}
theorem ξ{el:Ty}{z:G}(hz:z.cells.toList=kI el)(n:H)(bU:0<el.size) :
  ∃css,All2 (λx c=>Rep S w el x c) (O n el.dflt) css/\((Ï (n*z.cells.size)).map (λi=>z.cells[i%z.cells.size]!)).toList=css.flatten:=by
 refine⟨O n (kI el),?_,?_⟩
 .have hz:=pH (S:=S) (w:=w) el;induction n with
  |zero=>exact trivial
  |succ n ih=>exact⟨hz,ih⟩
 .rw[Sh z.cells n (by rw[Ge hz];exact bU),hz]
theorem ο{P:À}{E:Env}(hT:cI P E.T)(hR:Rel N np S0 w0 refs σ a w S γ){rdf:H->BS}(bn:RdF np σ rdf){t:Æ}{ti:TyI}(ht:E.T t=D ti)
  {el:Ty}(bD:ti.ty=D (.list el)){len d:H}{ps:F (H×Cel)}{vs:È (H×G)}{xs:F el.den}{u:Ups}(hlen:len*el.size<=16777216)
  (gU:All2 (λp v=>p.1=v.1/\bM S w γ σ.bx p.2 v.2) ps vs.toList)(h:kF rdf el (O len el.dflt) [] ps=D (xs,u))(hd:σ.bx d = .free) :
  ∃v' w' S' γ',(Ê t len vs).run P w = .ok v' w'/\Rel N np S0 w0 refs (σ.upd (u++[(d,.live (.lst ti.elem el xs U))])) a w' S' γ'/\
   bM S' w' γ' (σ.upd (u++[(d,.live (.lst ti.elem el xs U))])).bx (.one (.ol d)) v':=by
 obtain⟨mZ,bU,te,cP,cN⟩:=mX hT ht bD;have bT:=lU hT cP cN;obtain⟨hf,eY⟩:=KB bn hR.box bU ps vs.toList gU h .nil;obtain⟨S1,bB,cO,eG,cR⟩:=na u σ S hR hf;obtain⟨z,hz,gm⟩:=xl hT cP w cN;have iJ:z.cells.size=el.size:=Ge gm;obtain⟨KJ,qS,gI⟩:=ξ (S:=S1) (w:=w) gm len bU;obtain⟨bF,la,fH,aw,dx⟩:=eY S1 cO eG KJ _ qS gI
 have nS:xs.length=len:=by
  have key:∀(ps:F (H×Cel)){xs dg:F el.den}{u u':Ups},kF rdf el xs u ps=D (dg,u')->dg.length=xs.length:=by
   intro ps;induction ps with
   |nil=>intro xs dg u u' h;simp[kF]at h;rw[h.1]
   |cons p ps ih=>
    intro xs dg u u' h;obtain⟨i,c⟩:=p;simp only[kF]at h;split at h
    .split at h
     .rw[ih h];simp
     .simp at h
    .simp at h
  rw[key ps h];simp
 have dj:bF.size=len*el.size:=by have:=All2.flatten_length (λx c hx=>Rep.length el x c hx) aw;rw[<-dx,nS]at this;simpa using this
 have hzero:(if len*ti.size=0 then (Pure.pure #[]:Sem (È G)) else (do pure (<-zeroValue ti.elem).cells))=(if len*ti.size=0 then Pure.pure #[] else (do pure (<-zeroValue ti.elem).cells)):=rfl
 have aM:(Ê t len vs).run P w = .ok (.slice (D ⟨w.heap.size,0,M⟩) len len) (w.alloc (.cells bF ti.elem)):=by
  have cY:¬len*te.size>2^24:=by rw[<-bT];omega
  simp only[Ê,J,run_underlying mZ,I,iV hT cP,û,if_neg cY];by_cases h0:len*te.size=0
  .have ix:len=0:=by
    rw[<-bT]at h0;rcases Nat.mul_eq_zero.1 h0 with h|h
    .exact h
    .omega
   subst ix
   have qT:Ñ (λi=>D (i*te.size,te.size)) ((Ï (0*te.size)).map (λi=>(#[]:È G)[i%(#[]:È G).size]!)) vs.toList=D bF:=by
    rw[<-bT];have:((Ï (0*el.size)).map (λi=>(#[]:È G)[i%(#[]:È G).size]!))=((Ï (0*z.cells.size)).map (λi=>z.cells[i%z.cells.size]!)):=by apply qf;simp
    rw[this];exact fH
   rw[Nat.zero_mul]at qT;simp only[h0,if_true,Ã,I,qT,J,newRow,run_newObj,Ô]
  .have xE:Ñ (λi=>D (i*te.size,te.size)) ((Ï (len*te.size)).map (λi=>z.cells[i%z.cells.size]!)) vs.toList=D bF:=by rw[<-bT];rw[iJ]at fH ⊢;exact fH
   simp only[h0,zi,J,hz,Ã,I,xE,newRow,run_newObj,Ô]
 rw[iW];have aO:=xp bB (.cells bF ti.elem)
 obtain⟨dh,gz⟩:=AP bB (cR.free hd) (hm:=Kf hT ht) (w':=w.alloc (.cells bF ti.elem)) (S':=S1) (v':= .slice (D ⟨w.heap.size,0,M⟩) len len) (e:=ti.elem) (el:=el) (zs:=xs) (frz:=U) (css:=la)
  aO (λg hg _=>heap_alloc_old w _ hg) af (λg hg=>by
   simp[blk]at hg;subst hg;exact⟨.inl hR.grow,λk b hk az=>by have:=jQ (bB.box k b hk) az;omega,af⟩) (λg o hs=> .inl hs) rfl rfl rfl
  (by
   rw[nS,<-dx];have hle:len<=maxLen:=by have:len*1<=len*el.size:=Nat.mul_le_mul_left _ bU;simp only[maxLen];omega
   exact ø w bF len (kq _) hle dj) (aw.mono (λx c hx=>Rep.keep aO _ _ _ hx)) (λg hg=>by
   simp[blk]at hg;subst hg;exact⟨λ_ o=>AL bB o,af⟩) (λg hg=>by simp[blk]at hg;subst hg;exact bB.kw_new (jy _))
 exact⟨_,_,S1,_,aM,dh,gz⟩
theorem π{P:À}{E:Env}(hT:cI P E.T)(hR:Rel N np S0 w0 refs σ a w S γ){t:Æ}{ti:TyI}(ht:E.T t=D ti)
  {el:Ty}(bD:ti.ty=D (.list el)){n len:H}{fr:Ö}{ps:F (H×Cel)}{vs:È (H×G)}{b:Ö}{s:Slot}{u:Ups}(hn:fr=Ä->σ.bx n = .free)
  (gU:All2 (λp v=>p.1=v.1/\bM S w γ σ.bx p.2 v.2) ps vs.toList)(h:one1 fr ti.elem el n len ps=D (.val b s u)) :
  b=Ä/\s = .one (.one (.ol n))/\∃v' w' γ',(Ê t len vs).run P w = .ok v' w'/\Rel N np S0 w0 refs (σ.upd u) a w' S γ'/\bM S w' γ' (σ.upd u).bx (.one (.ol n)) v':=by
 unfold one1 at h;split at h
 case h_2=>simp at h
 rename_i c;split at h
 case h_2=>simp at h
 rename_i ls Dd;split at h
 case isFalse=>simp at h
 rename_i hc;obtain⟨rfl,AR,eI,gH,bY⟩:=hc;simp only[jb,Act.val.injEq]at h;obtain⟨rfl,rfl,rfl⟩:=h;refine⟨rfl,rfl,?_⟩
 obtain⟨⟨j,z⟩,iK⟩:∃p,vs.toList=[p]:=by
  match hv:vs.toList,gU with
  |[p],_=>exact⟨p,rfl⟩
 rw[iK]at gU;obtain⟨⟨hj,ie⟩,_⟩:=gU;simp only at hj ie;subst hj;obtain⟨ha,h1⟩:=xq Dd ie;have fo:z.cells.toList.length=el.size:=by rw[<-ha.length,AR]
 have iJ:z.cells.size=el.size:=by simpa using fo
 obtain⟨mZ,bU,te,cP,cN⟩:=mX hT ht bD;have bT:=lU hT cP cN;obtain⟨z0,qU,gm⟩:=xl hT cP w cN;have ς:z0.cells.size=el.size:=Ge gm;have fH:Ñ (λi=>D (i*te.size,te.size)) ((Ï (1*te.size)).map (λi=>z0.cells[i%z0.cells.size]!)) vs.toList=D z.cells:=by have AQ:=Kz ((Ï (1*te.size)).map (λi=>z0.cells[i%z0.cells.size]!)) 0 z.cells ay;rw[iK];simp only[Ñ];rw[if_neg ay];congr 1;apply qf;rw[Nat.zero_mul,AQ];simp only[List.take_zero,kc];rw[jj ay,qh]
 have aM:(Ê t 1 vs).run P w = .ok (.slice (D ⟨w.heap.size,0,M⟩) 1 1) (w.alloc (.cells z.cells ti.elem)):=by
  have cY:¬1*te.size>2^24:=by rw[<-bT];omega
  have h0:¬1*te.size=0:=aa;simp only[Ê,J,run_underlying mZ,I,iV hT cP,û,if_neg cY];simp only[h0,zi,J,qU,Ã,I,fH,newRow,run_newObj,Ô]
 obtain⟨dh,_⟩:=F8 hR (hn gH) (o:= .cells z.cells ti.elem) (b:= .row ti.elem el 1 ls) (v:= .slice (D ⟨w.heap.size,0,M⟩) 1 1) (λg hg=>by simp[blk]at hg;exact hg.symm) (λhle=>
  ⟨bY,⟨z.cells.toList,by rw[ew];exact ø w z.cells 1 (kq _) (by simp[maxLen]) (by rw[iJ,ú]),ha.mono (λx u hx=>bz.keep (xp hR _) hle hx),h1⟩,
   λg hg o=>by rw[ew]at hg;simp[blk]at hg;subst hg;exact AL hR o⟩)
 refine⟨_,_,_,aM,dh,⟨by show (σ.setB n _).bx n≠_;rw[fm];simp,rfl,λb' aK=>(ew _ _ _).symm⟩,λ_=>rfl⟩
theorem xF{rd:H->BS}(aW:RdF np σ rd):∀{ls:F Leaf}{xs:F TV}{u:Ups}{zs:F G},tvs rd ls=D (xs,u)->All2 (bz S w γ σ.bx) ls zs->
  FrzL np σ.bx u/\∀S' w',dD S w S' w'->Froz σ.bx γ S' w' u->All2 (λx z=>Rep S' w' x.t x.v [z]) xs zs
 |[],xs,u,zs,h,ha=>by
  simp[tvs]at h;obtain⟨rfl,rfl⟩:=h;cases zs with
  |nil=>exact⟨.nil,λ_ _ _ _=>trivial⟩
  |cons _ _=>exact ha.elim
 |l::ls,xs,u,zs,h,ha=>by
  cases zs with
  |nil=>exact ha.elim
  |cons z zs=>
   simp only[tvs]at h;split at h
   .rename_i Gg u1 h1;obtain⟨f1,p1⟩:=xF aW h1 ha.2;split at h
    .rename_i t v;simp only[jb,jf]at h;obtain⟨rfl,rfl⟩:=h;exact⟨f1,λS' w' hk hf=>⟨Rep.keep hk _ _ _ ha.1,p1 S' w' hk hf⟩⟩
    .rename_i k;split at h
     .rename_i e t es f hk;simp only[jb,jf]at h;obtain⟨rfl,rfl⟩:=h;have bk:=aW.ok.live hk;refine⟨λx hx=>?_,λS' w' aO hf=>⟨?_,p1 S' w' aO (λx hx=>hf x (qv _ hx))⟩⟩
      .rcases jl.1 hx with rfl|hx
       .exact⟨aW.par hk,e,t,es,f,bk,rfl,aW.ok.nm hk⟩
       .exact f1 x hx
      .have:=hf (k,_) (zk ..) e t es f bk;rw[ha.1.2.2 _ bk];exact this
     .simp at h
    .simp at h
   .simp at h
theorem Sv(hR:Rel N np S0 w0 refs σ a w S γ){k:H}{ls:F Leaf}{f:Ö}(hk:σ.bx k = .live (.cell ls f))(hp:parK np k=U){xs:F TV}
  (hx:∀g cur e,γ k = .pointer (D ⟨g,0,M⟩)->w.heap[g]? = D (.cells cur e (0,0))->All2 (bz S w γ σ.bx) ls (cur.toList.take ls.length)->All2 (λx z=>Rep S w x.t x.v [z]) xs (cur.toList.take ls.length)) :
  ∃S' g,Rel N np S0 w0 refs (σ.setB k (.live (.cell (xs.map TV.leaf) Ä))) a w S' γ/\dD S w S' w/\γ k = .pointer (D ⟨g,0,M⟩)/\jO S' w (.p xs) (.pointer (D ⟨g,0,M⟩)):=by
 obtain⟨g,cur,e,hg,hh,ea,h1,Sa,hS2⟩:=hR.box k _ hk;have fX:=hx g cur e hg hh ea;let S':aU:=λg' o=>S g' o\/(g'=g/\o<cur.size)
 have aO:dD S w S' w:=λg o h=>⟨.inl h,rfl⟩
 have hle:BxLe γ σ.bx γ (σ.setB k (.live (.cell (xs.map TV.leaf) Ä))).bx:=by
  intro k' bk;by_cases bO:k'=k
  .subst bO;rw[fm];exact⟨af,rfl,λb hb=>by simp at hb;subst hb;exact⟨_,hk,trivial⟩⟩
  .rw[cu σ _ bO];exact⟨bk,rfl,λb hb=>⟨b,hb,.refl b⟩⟩
 have bN:∀k' b,(σ.setB k (.live (.cell (xs.map TV.leaf) Ä))).bx k' = .live b->∃b',σ.bx k' = .live b':=by
  intro k' b hb;by_cases bO:k'=k
  .subst bO;exact⟨_,hk⟩
  .rw[cu σ _ bO]at hb;exact⟨b,hb⟩
 refine⟨S',g,Rel.step (bx':=(σ.setB k (.live (.cell (xs.map TV.leaf) Ä))).bx) hR aO hle ?_ ?_ ?_ ?_ ?_ hR.below hR.grow hR.os hR.tape hR.output (λg _ _ h=>⟨rfl,λk' b' aK=>by obtain⟨b2,eF⟩:=bN k' b' aK;exact h k' b2 eF⟩),aO,hg,?_⟩
 .intro k' b hb;by_cases bO:k'=k
  .subst bO;rw[fm]at hb;simp at hb;subst hb;have hl:=F2 ea fX;exact⟨g,cur,e,hg,hh,by rw[ky,hl];exact qI (fX.mono (λx z hz=>Rep.keep aO _ _ _ hz)),by rw[ky,hl];exact h1,af,λ_ o ho=> .inr ⟨rfl,ho⟩⟩
  .rw[cu σ _ bO]at hb;refine eM.keep aO hle rfl (λg' az=>⟨rfl,λo=>⟨λhs=>?_,.inl⟩⟩) (hR.box k' b hb);rcases hs with hs|hs
   .exact hs
   .exact absurd (by rw[hg,hs.1];rfl) (hR.apart k' k b _ g' bO hb hk az)
 .intro k' b g' hb az;obtain⟨b',aK⟩:=bN k' b hb;exact hR.own k' b' g' aK az
 .intro k1 k2 b1 b2 g' br h1 h2 az;obtain⟨tA,lX⟩:=bN k1 b1 h1;obtain⟨tB,kX⟩:=bN k2 b2 h2;exact hR.apart k1 k2 tA tB g' br lX kX az
 .intro g' o hs;rcases hs with hs|hs
  .exact hR.new g' o hs
  .rcases hR.own k _ g hk (by rw[hg];rfl) with h|h
   .refine .inr ?_;have:g'=g:=aa;rw[this];exact h
   .rw[hp]at h;simp at h
 .intro g' o hs;rcases hs with hs|hs
  .exact hR.here g' o hs
  .rw[hs.1];exact(jp.1 hh).1
 .refine⟨g,0,cur.toList.take ls.length,rfl,fX.mono (λx z hz=>Rep.keep aO _ _ _ hz),λj v hv=>?_⟩
  have hv:cur.toList[j]? = D v:=by
   rw[za]at hv;split at hv
   .exact hv
   .simp at hv
  have hj:j<cur.size:=by simpa using (kf.1 hv).1
  rw[ko];refine⟨.inr ⟨rfl,hj⟩,?_⟩;rw[cell_of_row w g j cur e (0,0) hh];simpa using hv
theorem Sw{rd:H->BS}(aW:RdF np σ rd):∀{cs:F Cel}{l:F Cap}{u:Ups}{zs:F G},uP rd cs=D (l,u)->Rel N np S0 w0 refs σ a w S γ->All2 (bM S w γ σ.bx) cs zs->
  ∃S',Rel N np S0 w0 refs (σ.upd u) a w S' γ/\dD S w S' w/\All2 (jO S' w) l zs/\(∀k e t xs f,σ.bx k = .live (.lst e t xs f)->∃f',(σ.upd u).bx k = .live (.lst e t xs f'))/\BxLe γ σ.bx γ (σ.upd u).bx/\∀k,σ.bx k = .free->(σ.upd u).bx k = .free
 |[],l,u,zs,h,hR,ha=>by
  simp[uP]at h;obtain⟨rfl,rfl⟩:=h;cases zs with
  |nil=>exact⟨S,hR,.refl S w,trivial,λk e t xs f h=>⟨f,h⟩,.refl _ _,λ_ h=>h⟩
  |cons _ _=>exact ha.elim
 |c::r,l,u,zs,h,hR,ha=>by
  cases zs with
  |nil=>exact ha.elim
  |cons z zs=>
   simp only[uP]at h;split at h
   .rename_i l1 u1 h1;obtain⟨S1,bB,cO,eS,mM,gL,De⟩:=Sw aW h1 hR ha.2;split at h
    .rename_i t v;split at h
     .rename_i eZ;simp only[jb,jf]at h;obtain⟨rfl,rfl⟩:=h;exact⟨S1,bB,cO,⟨⟨eZ,Rep.keep cO _ _ _ ha.1.1⟩,eS⟩,mM,gL,De⟩
     .simp at h
    .rename_i k;split at h
     .rename_i ls f hk;split at h
      .rename_i xs u2 h2;split at h
       .simp at h
       .rename_i gp;simp only[jb,jf]at h;obtain⟨rfl,rfl⟩:=h;have nQ:=aW.par hk;have hk:=aW.ok.live hk;have gp:(u1++u2).any (λy=>y.1==k)=false:=qj.2 gp;rw[ë,ye]at gp;obtain⟨g,cur,e,hg,hh,ea,_⟩:=hR.box k _ hk;obtain⟨qL,xn⟩:=xF aW h2 ea;have KK:FrzL np (σ.upd u1).bx u2:=by intro x hx;obtain⟨sF,e',t',dg,f',aK,mL⟩:=qL x hx;obtain⟨f2,h2⟩:=mM _ e' t' dg f' aK;exact⟨sF,e',t',dg,f2,h2,mL⟩
        obtain⟨S2,cB,cW,qV,nk⟩:=na u2 (σ.upd u1) S1 bB KK;have Df:Froz σ.bx γ S2 w u2:=by intro x hx e' t' dg f' aK;obtain⟨f2,h2⟩:=mM _ e' t' dg f' aK;exact qV x hx e' t' dg f2 h2
        have eR:((σ.upd u1).upd u2).bx k = .live (.cell ls f):=by rw[jR u2 _ gp.2,jR u1 _ gp.1,hk]
        obtain⟨S3,g3,fI,Dg,KL,dO⟩:=Sv cB eR nQ (xs:=xs) (λg' lg e' az vA _=>by
         rw[hg]at az;simp at az;subst az;rw[hh]at vA;simp at vA;obtain⟨rfl,_⟩:=vA;exact xn S2 w (cO.trans cW) Df)
        have hz:z=γ k:=by obtain⟨g4,h4,h5⟩:=ha.1.1.2.2 _ hk;rw[h5,h4]
        rw[iW,iW];refine⟨S3,fI,(cO.trans cW).trans Dg,⟨by rw[hz,KL];exact dO,eS.mono (λx z hx=>jO.keep (cW.trans Dg) hx)⟩,λk' e' t' dg f' aK=>?_,?_,λk' bk=>?_⟩
        .obtain⟨f2,h2⟩:=mM _ e' t' dg f' aK;obtain⟨f3,h3⟩:=nk.lst h2;have bO:k'≠k:=by rintro rfl;rw[eR]at h3;simp at h3
         exact⟨f3,by show (((σ.upd u1).upd u2).setB k _).bx k'=_;rw[cu _ _ bO];exact h3⟩
        .have eV:BxLe γ (σ.upd u1).bx γ ((σ.upd u1).upd u2).bx:=nk.le
         have oF:BxLe γ ((σ.upd u1).upd u2).bx γ ((((σ.upd u1).upd u2)).setB k (.live (.cell (xs.map TV.leaf) Ä))).bx:=by
          intro k' bk;by_cases bO:k'=k
          .subst bO;rw[fm];exact⟨af,rfl,λb hb=>by simp at hb;subst hb;exact⟨_,eR,trivial⟩⟩
          .rw[cu _ _ bO];exact⟨bk,rfl,λb hb=>⟨b,hb,.refl b⟩⟩
         have tr:∀{b1 b2 b3:H->BS},BxLe γ b1 γ b2->BxLe γ b2 γ b3->BxLe γ b1 γ b3:=by intro b1 b2 b3 oG υ k' bk;obtain⟨q1,q2,q3⟩:=oG k' bk;obtain⟨r1,r2,r3⟩:=υ k' q1;refine⟨r1,rfl,λb hb=>?_⟩;obtain⟨b',aK,dy⟩:=r3 b hb;obtain⟨Dh,qW,qX⟩:=q3 b' aK;refine⟨Dh,qW,?_⟩;exact qX.trans dy
         exact tr (tr gL eV) oF
        .have h3:=nk.free (De k' bk);have bO:k'≠k:=by rintro rfl;rw[hk]at bk;simp at bk
         show (((σ.upd u1).upd u2).setB k _).bx k'=_;rw[cu _ _ bO];exact h3
      .simp at h
     .simp at h
    .simp at h
   .simp at h
theorem Sz:∀{cs:F Cel}{ks:F H}{zs:F G},Cq cs=D ks->All2 (bM S w γ σ.bx) cs zs->All2 (CJ γ σ.bx) ks zs
 |[],ks,zs,h,ha=>by
  simp[Cq]at h;subst h;cases zs with
  |nil=>trivial
  |cons _ _=>exact ha.elim
 |c::r,ks,zs,h,ha=>by
  cases zs with
  |nil=>exact ha.elim
  |cons z zs=>
   unfold Cq at h;split at h
   .rename_i h0;simp at h0
   .rename_i k r' h0;simp only[yt]at h0;obtain⟨rfl,rfl⟩:=h0;split at h
    .rename_i J8 hk;simp only[jb]at h;subst h;obtain⟨⟨h1,h2,h3⟩,_⟩:=ha.1;exact⟨⟨h1,h2,h3⟩,Sz hk ha.2⟩
    .simp at h
   .simp at h
theorem SC:∀{ks:F H}{zs:F G},All2 (CJ γ σ.bx) ks zs->All2 (bM S w γ σ.bx) (ks.map λk=> .one (.bp k 0)) zs
 |[],[],_=>trivial
 |k::ks,z::zs,h=>⟨⟨h.1,λ_=>h.1.2.1⟩,SC h.2⟩
 |[],_::_,h=>h.elim
 |_::_,[],h=>h.elim
end
section
variable(S:aU)(w:Â)
def Di(ls:F TV)(u:G):Prop:=
 ∃g cur e,u = .pointer (D ⟨g,0,M⟩)/\w.heap[g]? = D (.cells cur e (0,0))/\All2 (λx z=>Rep S w x.t x.v [z]) ls (cur.toList.take ls.length)/\∀o,¬S g o
def vN(e:H)(x:TV)(u:G):Prop:=
 ∃(a:Ty)(xs:F a.den),x=⟨.list a,xs⟩/\qF S w e a xs u/\∀g,blk u=D g->∀o,¬S g o
def nT:Arg->G->Prop
 |.v x,u=>VRep S w x u
 |.ref ls,u=>Di S w ls u
 |.rl e x,u=>vN S w e x u
 |.ip ls,u=>∃g o cs,u = .pointer (D ⟨g,o,M⟩)/\All2 (λx z=>Rep S w x.t x.v [z]) ls cs/\Lies S w g o cs
 |.clo f caps,u=>∃cv:È G,u = .func (.func f) #[] cv/\All2 (jO S w) caps cv.toList
 |.mv e x,u=>vN S w e x u/\isM e=U
def lh:Arg->G->Á H
 |.ref _,u=>blk u
 |.rl _ _,u=>blk u
 |.mv _ _,u=>blk u
 |_,_=>M
def eh:F Arg->F G->F H
 |a::as,u::us=>(lh a u).toList++eh as us
 |_,_=>[]
def mvOf:F Arg->F G->F H
 |.mv _ _::as,u::us=>(blk u).toList++mvOf as us
 |_::as,_::us=>mvOf as us
 |_,_=>[]
def Gj:RL->G->Prop
 |.d x,z=>One z/\Rep S w x.t x.v [z]
 |.own e x,z=>vN S w e x z
def pL:RV->G->Prop
 |.v x,u=>VRep S w x u
 |.own e x,u=>vN S w e x u
 |.box ls,u=>Di S w ls u
 |.hd _,u=>One u
 |.clo f caps,u=>∃cv:È G,u = .func (.func f) #[] cv/\All2 (jO S w) caps cv.toList
 |.so ls,u=>∃cs:È G,u = .agg cs/\All2 (Gj S w) ls cs.toList
 |.raw _ _,_=>True
 |.vn x ns,u=>VRep S w x u/\∀cs,u = .agg cs->∀i∈ns,∀z,cs.toList[i]? = D z->z = .slice M 0 0
def mN:RV->G->Á H
 |.v _,_=>M
 |.hd _,_=>M
 |.vn _ _,_=>M
 |.clo _ _,_=>M
 |.so _,_=>M
 |.raw _ _,_=>M
 |_,u=>blk u
def nU:F RL->F G->F H
 |.own _ _::ls,z::zs=>(blk z).toList++nU ls zs
 |.d _::ls,_::zs=>nU ls zs
 |_,_=>[]
def lj:RV->G->F H
 |.so ls,u=>nU ls u.cells.toList
 |r,u=>(mN r u).toList
def gM:F RV->F G->F H
 |r::rs,u::us=>lj r u++gM rs us
 |_,_=>[]
def lk:F Arg->F G->F Out->Prop
 |[],[],[]=>True
 |.ref _::as,u::us,.ref ys::os=>Di S w ys u/\lk as us os
 |.rl e x::as,u::us,.rl y::os=>vN S w e y u/\y.t=x.t/\lk as us os
 |.v _::as,_::us,os=>lk as us os
 |.ip _::as,_::us,os=>lk as us os
 |.clo _ _::as,_::us,os=>lk as us os
 |.mv _ _::as,_::us,os=>lk as us os
 |_,_,_=>False
end
def ma(vs:F G):Value:=match vs with
 |[v]=>v
 |vs=> .tuple vs.toArray
def Gk:F Arg->F G->Á G
 |.ref _::_,u::_=>D u
 |.rl _ _::_,u::_=>D u
 |_::as,_::us=>Gk as us
 |_,_=>M
def emp:St:=⟨λ_=> .one (.one .dead),λ_=> .free⟩
def KM(h0:H)(S:aU)(w:Â)(ns:F H)(s:Snap)(v:G):Prop:=
 ∃γ zs,v=ma zs/\All2 (bM S w γ (emp.upd (rawU ns s)).bx) (rawC ns s) zs/\(∀k b,(emp.upd (rawU ns s)).bx k = .live b->eM S w γ (emp.upd (rawU ns s)).bx k b)/\
  (∀k b g,(emp.upd (rawU ns s)).bx k = .live b->blk (γ k)=D g->h0<=g)/\
  ∀k k' b b' g,k≠k'->(emp.upd (rawU ns s)).bx k = .live b->(emp.upd (rawU ns s)).bx k' = .live b'->blk (γ k)=D g->blk (γ k')≠D g
structure Gl(w:Â)(S:aU)(args:F Arg)(vals:F G)(ret:Ret)(v:G)(w':Â)(S':aU)(vs:F G):Prop where
 val:v=ma vs
 rep:All2 (pL S' w') ret.vals vs
 fresh:∀g∈gM ret.vals vs,w.heap.size<=g\/g∈mvOf args vals
 apart:(gM ret.vals vs).Nodup
 outs:lk S' w' args vals ret.outs
 stays:dD S w S' w'
 new:∀g o,S' g o->S g o\/w.heap.size<=g\/g∈mvOf args vals
 here:∀g o,S' g o->g<w'.heap.size
 below:∀g,g<w.heap.size->g∉eh args vals->w'.heap[g]? = w.heap[g]?
 grow:w.heap.size<=w'.heap.size
 os:w'.os=w.os
 tape:w'.tape=w.tape
 output:w'.output=w.output
 raw:∀ns s,ret.vals=[.raw ns s]->KM w.heap.size S' w' ns s v
 head:∀m,ret.vals=[.hd m]->∃ad len cap,Gk args vals=D (.slice ad len cap)/\m<=len/\vs=[.slice ad m cap]
def Gm(P:À)(f:H)(args:F Arg)(K:Ret->Prop):Prop:=
 ∀(w:Â)(S:aU)(vals:F G),All2 (nT S w) args vals->(eh args vals).Nodup->(∀g o,S g o->g<w.heap.size)->
  Calls P f vals.toArray w λe w'=>∃ret,K ret/\∃v S' vs,e = .returned v/\Gl w S args vals ret v w' S' vs
def Fun(P:À)(f:H):Prop:=
 ∃ fn, P.funcs[f]? = D fn ∧ fn.body.isNone = U ∧ (fn.name == "runtime.NumGoroutine") = U
def FnOK(P:À)(f:H)(c:F Arg->(R:Type)->(Ret->Á R)->Á R):Prop:=
 ∀(args:F Arg)(R:Type)(k:Ret->Á R)(r:R),c args R k=D r->Fun P f/\Gm P f args λret=>k ret=D r
def jS(P:À)(C:H->F Arg->(R:Type)->(Ret->Á R)->Á R):Prop:=∀f,FnOK P f (C f)
section
variable{N:NT}{np:H}{S0:aU}{w0:Â}{refs:Refs}{σ:St}{a:Ý}{w:Â}{S:aU}{γ:H->G}
theorem tL{S':aU}{w':Â}:∀(t:Ty)(v:t.den)(cs:F G),t.flat=Ä->Rep S w t v cs->Rep S' w' t v cs
 |.int _,_,_,_,h=>h
 |.bool,_,_,_,h=>h
 |.str,_,_,_,h=>h
 |.unit,_,_,_,h=>h
 |.wrap a,v,cs,hf,h=>tL a v cs hf h
 |.pair a b,_,_,hf,⟨c1,c2,e,h1,h2⟩=>by
  simp only[Ty.flat,ji]at hf;exact⟨c1,c2,e,tL a _ _ hf.1 h1,tL b _ _ hf.2 h2⟩
 |.list _,_,_,hf,_=>by simp[Ty.flat]at hf
 |.arr _ a,_,_,hf,⟨hn,css,ha,e⟩=>⟨hn,css,ha.mono (λx c hx=>tL a x c hf hx),e⟩
def gD(bx:H->BS)(γ:H->G):F Arg->F G->F Bk->Prop
 |[],[],[]=>True
 |.ref ls::as,u::us,.ref k::fs=>u=γ k/\(∃gf,bx k = .live (.cell gf U))/\gD bx γ as us fs
 |.rl e x::as,u::us,.rl k e' t::fs=>e=e'/\u=γ k/\(∃xs,bx k = .live (.lst e t xs U)/\x=⟨.list t,xs⟩)/\gD bx γ as us fs
 |.v _::as,_::us,fs=>gD bx γ as us fs
 |.ip _::as,_::us,fs=>gD bx γ as us fs
 |.clo _ _::as,_::us,fs=>gD bx γ as us fs
 |.mv e x::as,u::us,.mv k e' t::fs=>e=e'/\u=γ k/\(∃xs,bx k = .live (.lst e t xs U)/\x=⟨.list t,xs⟩)/\gD bx γ as us fs
 |_,_,_=>False
theorem φ{rd rdf:H->BS}(hR:Rel N np S0 w0 refs σ a w S γ)(aW:RdR σ rd)(bn:RdF np σ rdf){t:Á TyI}{mv rl:Ö}{c:Cel}{arg:Arg}{u:Ups}{f:Á Bk}{z:G}
  (h:uQ rd rdf t mv rl c=D (arg,u,f))(hc:bM S w γ σ.bx c z) :
  FrzL np σ.bx u/\gD σ.bx γ [arg] [z] f.toList/\∀S',dD S w S' w->Froz σ.bx γ S' w u->(∀k b,f.toList.any (λy=>y.name==k)=Ä->σ.bx k = .live b->∀g,blk (γ k)=D g->∀o,¬S' g o)->nT S' w arg z:=by
 unfold uQ at h;split at h
 .rename_i k;split at h
  .rename_i ls hk;split at h
   .rename_i xs u1 h1;simp only[jb,jf]at h;obtain⟨rfl,rfl,rfl⟩:=h;have hk:=aW.live hk;obtain⟨g,hg,hz⟩:=hc.1.2.2 _ hk;obtain⟨g',cur,e,az,hh,ea,_,_,hS⟩:=hR.box k _ hk;rw[hg]at az;simp at az;subst az;obtain⟨hf,hp⟩:=xF bn h1 ea;refine⟨hf,trivial,λS' aO eG _=>⟨g,0,cur.toList.take ls.length,hz,hp S' w aO eG,λj v hv=>?_⟩⟩
    have hv:cur.toList[j]? = D v:=by
     rw[za]at hv;split at hv
     .exact hv
     .simp at hv
    have hj:j<cur.size:=by simpa using (kf.1 hv).1
    rw[ko];refine⟨(aO _ _ (hS rfl j hj)).1,?_⟩;rw[cell_of_row w g j cur e (0,0) hh];simpa using hv
   .simp at h
  .rename_i ls hk;split at h
   .rename_i xs u1 h1;simp only[jb,jf]at h;obtain⟨rfl,rfl,rfl⟩:=h;have hk:=aW.live hk;obtain⟨g,hg,hz⟩:=hc.1.2.2 _ hk;obtain⟨g',cur,e,az,hh,ea,_⟩:=hR.box k _ hk;rw[hg]at az;simp at az;subst az;obtain⟨hf,hp⟩:=xF bn h1 ea;refine⟨hf,⟨hz.trans hg.symm,⟨ls,hk⟩,trivial⟩,λS' aO eG hn=>⟨g,cur,e,hz,hh,by rw[F2 ea (hp S' w aO eG)];exact hp S' w aO eG,?_⟩⟩;exact hn k _ (by simp[Bk.name]) hk g (by rw[hg];rfl)
   .simp at h
  .simp at h
 .simp only[jb,jf]at h;obtain⟨rfl,rfl,rfl⟩:=h;refine⟨.nil,trivial,λS' aO _ _=>?_⟩;obtain⟨g,o,cs,hz,ha,hl⟩:=hc.1;exact⟨g,o,cs,hz,ha.mono (λx z hx=>Rep.keep aO _ _ _ hx),hl.keep aO⟩
 .simp only[jb,jf]at h;obtain⟨rfl,rfl,rfl⟩:=h;refine⟨.nil,trivial,λS' aO _ _=>?_⟩;obtain⟨cv,hz,ha⟩:=hc.1;exact⟨cv,hz,ha.mono (λx z hx=>jO.keep aO hx)⟩
 .rename_i k;split at h
  .cases mv with
   |true=>
    rw[jc]at h;split at h
    .rename_i e t xs hk;simp only[jb,jf]at h;obtain⟨rfl,rfl,rfl⟩:=h;have bY:=bn.ok.nm hk;have hk:=bn.ok.live hk;have hz:=hc.1.2.2 _ hk;refine⟨.nil,⟨rfl,hz,⟨xs,hk,rfl⟩,trivial⟩,λS' aO _ hn=>?_⟩;have fa:=(hR.box k _ hk).1;exact⟨⟨t,xs,rfl,by rw[hz];exact fa.keep aO (λ_ _=>rfl),λg hg=>hn k _ (by simp[Bk.name]) hk g (by rw[<-hz];exact hg)⟩,bY⟩
    .simp at h
   |false=>
   rw[jd]at h;split at h
   .rename_i e t xs hk;simp only[jb,jf]at h;obtain⟨rfl,rfl,rfl⟩:=h;have hk:=aW.live hk;have hz:=hc.1.2.2 _ hk;refine⟨.nil,⟨rfl,hz,⟨xs,hk,rfl⟩,trivial⟩,λS' aO _ hn=>?_⟩;have fa:=(hR.box k _ hk).1;exact⟨t,xs,rfl,by rw[hz];exact fa.keep aO (λ_ _=>rfl),λg hg=>hn k _ (by simp[Bk.name]) hk g (by rw[<-hz];exact hg)⟩
   .simp at h
  .split at h
   .rename_i e t xs fz hk;simp only[jb,jf]at h;obtain⟨rfl,rfl,rfl⟩:=h;have nQ:=bn.par hk;have bY:=bn.ok.nm hk;have hk:=bn.ok.live hk;have hz:=hc.1.2.2 _ hk;refine⟨λx hx=>?_,trivial,λS' aO eG _=>?_⟩
    .have:=qk.1 hx;subst this;exact⟨nQ,e,t,xs,fz,hk,rfl,bY⟩
    .have h1:One z:=hc.2 af;have:=eG (k,_) (qk.2 rfl) e t xs fz hk;rw[<-hz]at this;exact⟨by rw[AK h1];exact this,by simp[jP,Ty.agg],λ_=>h1⟩
   .simp at h
 .split at h
  .split at h
   .rename_i ty bD;split at h
    .rename_i x u1 hx;simp only[jb,jf]at h;obtain⟨rfl,rfl,rfl⟩:=h;obtain⟨hf,hp,_⟩:=CS bn hR.box hx hc;exact⟨hf,trivial,λS' aO eG _=>hp S' w aO eG⟩
    .simp at h
   .simp at h
  .simp at h
theorem gD.app{bx:H->BS}{arg:Arg}{z:G}{f:F Bk}:gD bx γ [arg] [z] f->∀{as:F Arg}{us:F G}{fs:F Bk},gD bx γ as us fs->gD bx γ (arg::as) (z::us) (f++fs):=by
 intro h as us fs h';cases arg with
 |v x=>cases f with|nil=>exact h'|cons _ _=>exact h.elim
 |ip x=>cases f with|nil=>exact h'|cons _ _=>exact h.elim
 |clo x y=>cases f with|nil=>exact h'|cons _ _=>exact h.elim
 |ref ls=>
  match f,h with
  |[.ref k],⟨h1,h2,_⟩=>exact⟨h1,h2,h'⟩
  |.ref k::_::_,⟨_,_,h3⟩=>exact h3.elim
 |rl e x=>
  match f,h with
  |[.rl k e' t],⟨h0,h1,h2,_⟩=>exact⟨h0,h1,h2,h'⟩
  |.rl k e' t::_::_,⟨_,_,_,h3⟩=>exact h3.elim
 |mv e x=>
  match f,h with
  |[.mv k e' t],⟨h0,h1,h2,_⟩=>exact⟨h0,h1,h2,h'⟩
  |.mv k e' t::_::_,⟨_,_,_,h3⟩=>exact h3.elim
theorem SD{rd rdf:H->BS}(hR:Rel N np S0 w0 refs σ a w S γ)(aW:RdR σ rd)(bn:RdF np σ rdf){T:H->Á TyI}{mv:Ö}:∀{cs:F Cel}{ts:F H}{ms:F Ö}{as:F Arg}{u:Ups}{fs:F Bk}{zs:F G},
  ow rd rdf T mv ts ms cs=D (as,u,fs)->All2 (bM S w γ σ.bx) cs zs->
  FrzL np σ.bx u/\gD σ.bx γ as zs fs/\∀S',dD S w S' w->Froz σ.bx γ S' w u->(∀k b,fs.any (λy=>y.name==k)=Ä->σ.bx k = .live b->∀g,blk (γ k)=D g->∀o,¬S' g o)->All2 (nT S' w) as zs
 |[],ts,ms,as,u,fs,zs,h,ha=>by
  simp[ow]at h;obtain⟨rfl,rfl,rfl⟩:=h;cases zs with
  |nil=>exact⟨.nil,trivial,λ_ _ _ _=>trivial⟩
  |cons _ _=>exact ha.elim
 |c::cs,ts,ms,as,u,fs,zs,h,ha=>by
  cases zs with
  |nil=>exact ha.elim
  |cons z zs=>
   simp only[ow]at h;split at h
   .rename_i a1 u1 f1 h1;split at h
    .rename_i F1 KN SE h2;simp only[jb,jf]at h;obtain⟨rfl,rfl,rfl⟩:=h;obtain⟨p1,q1,r1⟩:=φ hR aW bn h1 ha.1;obtain⟨p2,q2,r2⟩:=SD hR aW bn h2 ha.2;refine⟨FrzL.app.2 ⟨p1,p2⟩,q1.app q2,λS' aO eG hn=>?_⟩;obtain⟨z1,z2⟩:=Froz.app.1 eG;exact⟨r1 S' aO z1 (λk b hk=>hn k b (by rw[ë,hk];rfl)),r2 S' aO z2 (λk b hk=>hn k b (by rw[ë,hk];simp))⟩
    .simp at h
   .simp at h
theorem SF:∀{cs:F Cap}{zs:F G},All2 (jO S w) cs zs->All2 (nT S w) (cs.map ox) zs
 |[],[],_=>trivial
 |c::cs,z::zs,h=>by
  refine⟨?_,SF h.2⟩;cases c with
  |v x=>obtain⟨hl,hr⟩:=h.1;have h1:One z:=Rep.one _ _ _ hr z af;refine⟨by rw[AK h1];exact hr,λhm=>?_,λ_=>h1⟩;exfalso;obtain⟨t,v⟩:=x;cases t<;>simp_all[Ty.leafy,jP,Ty.agg]
  |p ls=>exact h.1
 |[],_::_,h=>h.elim
 |_::_,[],h=>h.elim
theorem SH:∀(cs:F Cap)(zs:F G),eh (cs.map ox) zs=[]
 |[],_=>by cases ‹F G› <;> rfl
 |c::cs,[]=>rfl
 |c::cs,z::zs=>by cases c<;>simp[eh,lh,ox,SH cs zs]
theorem SI:∀(as:F Arg)(us:F G)(bs:F Arg)(vs:F G),as.length=us.length->eh (as++bs) (us++vs)=eh as us++eh bs vs
 |[],[],bs,vs,_=>rfl
 |a::as,u::us,bs,vs,h=>by simp[eh,SI as us bs vs (by simpa using h)]
 |[],_::_,_,_,h=>by simp at h
 |_::_,[],_,_,h=>by simp at h
theorem vO{bx:H->BS}:∀{as:F Arg}{us:F G}{fs:F Bk},gD bx γ as us fs->eh as us=fs.filterMap λf=>blk (γ f.name)
 |[],[],[],_=>rfl
 |.ref ls::as,u::us,.ref k::fs,⟨h1,_,h3⟩=>by
  simp only[eh,lh,vr,Bk.name,h1,vO h3];cases blk (γ k)<;>rfl
 |.rl e x::as,u::us,.rl k e' t::fs,⟨_,h1,_,h3⟩=>by
  simp only[eh,lh,vr,Bk.name,h1,vO h3];cases blk (γ k)<;>rfl
 |.mv e x::as,u::us,.mv k e' t::fs,⟨_,h1,_,h3⟩=>by
  simp only[eh,lh,vr,Bk.name,h1,vO h3];cases blk (γ k)<;>rfl
 |.v _::as,_::us,fs,h=>by simp[eh,lh,vO (as:=as) (us:=us) (fs:=fs) h]
 |.ip _::as,_::us,fs,h=>by simp[eh,lh,vO (as:=as) (us:=us) (fs:=fs) h]
 |.clo _ _::as,_::us,fs,h=>by simp[eh,lh,vO (as:=as) (us:=us) (fs:=fs) h]
theorem SJ:∀{as:F Arg}{us:F G}{g:H},g∈mvOf as us->g∈eh as us
 |[],_,g,h=>by simp[mvOf]at h
 |_::_,[],g,h=>by rename_i a _;cases a<;>simp[mvOf]at h
 |a::as,u::us,g,h=>by
  have ih:=SJ (as:=as) (us:=us) (g:=g);cases a with
  |mv e x=>simp only[mvOf,eh,lh,js]at h ⊢;exact h.imp id ih
  |_=>simp only[mvOf]at h;simp only[eh,js];exact .inr (ih h)
theorem vP{bx:H->BS}:∀{as:F Arg}{us:F G}{fs:F Bk}{g:H},gD bx γ as us fs->g∈mvOf as us->∃f∈fs,f.isMv=Ä/\blk (γ f.name)=D g
 |[],[],[],g,_,h=>by simp[mvOf]at h
 |.ref ls::as,u::us,.ref k::fs,g,⟨_,_,h3⟩,h=>by
  obtain⟨f,hf,h1⟩:=vP (g:=g) h3 (by simpa only[mvOf]using h);exact⟨f,by simp[hf],h1⟩
 |.rl e x::as,u::us,.rl k e' t::fs,g,⟨_,_,_,h3⟩,h=>by
  obtain⟨f,hf,h1⟩:=vP (g:=g) h3 (by simpa only[mvOf]using h);exact⟨f,by simp[hf],h1⟩
 |.mv e x::as,u::us,.mv k e' t::fs,g,⟨_,h1,_,h3⟩,h=>by
  simp only[mvOf,js,Option.mem_toList]at h;rcases h with h|h
  .exact⟨.mv k e' t,af,rfl,by rw[<-h];show blk (γ k)=blk u;rw[h1]⟩
  .obtain⟨f,hf,h1⟩:=vP (g:=g) h3 h;exact⟨f,by simp[hf],h1⟩
 |.v _::as,_::us,fs,g,hb,h=>vP (as:=as) (us:=us) (fs:=fs) hb (by simpa only[mvOf]using h)
 |.ip _::as,_::us,fs,g,hb,h=>vP (as:=as) (us:=us) (fs:=fs) hb (by simpa only[mvOf]using h)
 |.clo _ _::as,_::us,fs,g,hb,h=>vP (as:=as) (us:=us) (fs:=fs) hb (by simpa only[mvOf]using h)
theorem χ{rd rdf:H->BS}(bn:RdF np σ rdf){t:Á TyI}{mv rl:Ö}{c:Cel}{arg:Arg}{u:Ups}{f:Á Bk}(h:uQ rd rdf t mv rl c=D (arg,u,f)):∀x∈f.toList,x.isMv=Ä->parK np x.name=false:=by
 intro x hx hm;unfold uQ at h;split at h
 .split at h
  .split at h
   .simp only[jb,jf]at h;obtain⟨_,_,rfl⟩:=h;simp at hx
   .simp at h
  .split at h
   .simp only[jb,jf]at h;obtain⟨_,_,rfl⟩:=h;simp at hx;subst hx;simp[Bk.isMv]at hm
   .simp at h
  .simp at h
 .simp only[jb,jf]at h;obtain⟨_,_,rfl⟩:=h;simp at hx
 .simp only[jb,jf]at h;obtain⟨_,_,rfl⟩:=h;simp at hx
 .split at h
  .cases mv with
   |true=>
    rw[jc]at h;split at h
    .rename_i hk;simp only[jb,jf]at h;obtain⟨_,_,rfl⟩:=h;simp at hx;subst hx;exact bn.par hk
    .simp at h
   |false=>
    rw[jd]at h;split at h
    .simp only[jb,jf]at h;obtain⟨_,_,rfl⟩:=h;simp at hx;subst hx;simp[Bk.isMv]at hm
    .simp at h
  .split at h
   .simp only[jb,jf]at h;obtain⟨_,_,rfl⟩:=h;simp at hx
   .simp at h
 .split at h
  .split at h
   .split at h
    .simp only[jb,jf]at h;obtain⟨_,_,rfl⟩:=h;simp at hx
    .simp at h
   .simp at h
  .simp at h
theorem SK{rd rdf:H->BS}(bn:RdF np σ rdf){T:H->Á TyI}{mv:Ö}:∀{cs:F Cel}{ts:F H}{ms:F Ö}{as:F Arg}{u:Ups}{fs:F Bk},
  ow rd rdf T mv ts ms cs=D (as,u,fs)->∀x∈fs,x.isMv=Ä->parK np x.name=U
 |[],ts,ms,as,u,fs,h,x,hx,hm=>by
  simp[ow]at h;obtain⟨rfl,rfl,rfl⟩:=h;simp at hx
 |c::cs,ts,ms,as,u,fs,h,x,hx,hm=>by
  simp only[ow]at h;split at h
  .rename_i a1 u1 f1 h1;split at h
   .rename_i F1 KN SE h2;simp only[jb,jf]at h;obtain⟨rfl,rfl,rfl⟩:=h;rcases js.1 hx with hx|hx
    .exact χ bn h1 x hx hm
    .exact SK bn h2 x hx hm
   .simp at h
  .simp at h
theorem sG{bx:H->BS}:∀{as:F Arg}{us:F G}{fs:F Bk},gD bx γ as us fs->∀f∈fs,∃b,bx f.name = .live b
 |[],[],[],_,f,hf=>by simp at hf
 |.ref ls::as,u::us,.ref k::fs,⟨_,⟨gf,h2⟩,h3⟩,f,hf=>by
  rcases jl.1 hf with rfl|hf
  .exact⟨_,h2⟩
  .exact sG h3 f hf
 |.rl e x::as,u::us,.rl k e' t::fs,⟨_,_,⟨xs,h2,_⟩,h3⟩,f,hf=>by
  rcases jl.1 hf with rfl|hf
  .exact⟨_,h2⟩
  .exact sG h3 f hf
 |.mv e x::as,u::us,.mv k e' t::fs,⟨_,_,⟨xs,h2,_⟩,h3⟩,f,hf=>by
  rcases jl.1 hf with rfl|hf
  .exact⟨_,h2⟩
  .exact sG h3 f hf
 |.v _::as,_::us,fs,h,f,hf=>sG (as:=as) (us:=us) (fs:=fs) h f hf
 |.ip _::as,_::us,fs,h,f,hf=>sG (as:=as) (us:=us) (fs:=fs) h f hf
 |.clo _ _::as,_::us,fs,h,f,hf=>sG (as:=as) (us:=us) (fs:=fs) h f hf
theorem xG:∀{l:F H},nN l=Ä->l.Nodup
 |[],_=>List.nodup_nil
 |x::l,h=>by
  simp only[nN,ji,qi,qo,ku]at h;exact zg.2 ⟨h.1,xG h.2⟩
theorem KO(hR:Rel N np S0 w0 refs σ a w S γ):∀{l:F H},l.Nodup->(∀k∈l,∃b,σ.bx k = .live b)->(l.filterMap λk=>blk (γ k)).Nodup
 |[],_,_=>af
 |k::l,h,hl=>by
  obtain⟨h1,h2⟩:=zg.1 h;have ih:=KO hR h2 (λk hk=>hl k (by simp[hk]));rw[vr];cases hb:blk (γ k) with
  |none=>exact ih
  |some g=>refine zg.2 ⟨λhm=>?_,ih⟩;obtain⟨k',bk,az⟩:=vw.1 hm;obtain⟨b,dG⟩:=hl k af;obtain⟨b',eF⟩:=hl k' (by simp[bk]);exact hR.apart k k' b b' g (by rintro rfl;exact h1 bk) dG eF hb az
end
section
variable{N:NT}{np:H}{S0:aU}{w0:Â}{refs:Refs}{σ:St}{a:Ý}{w:Â}{S:aU}{γ:H->G}
theorem vQ:∀(u:Ups)(σ:St){k:H}{b:BS},(u.map (·.1)).Nodup->(k,b)∈u->(σ.upd u).bx k=b
 |[],_,_,_,_,h=>by simp at h
 |e::u,σ,k,b,hn,h=>by
  simp only[qe,zg]at hn;show ((σ.setB e.1 e.2).upd u).bx k=_;rcases jl.1 h with h|h
  .subst h;rw[jR u,fm];simp only[qu,va];intro x hx he;exact hn.1 (ki.2 ⟨x,hx,he⟩)
  .exact vQ u _ hn.2 h
theorem ψ{e:H}{m n n':H}{v:G}{w':Â}{xs ys:F G}(h:w.ownsRow 0 e m v n xs)(h':w'.ownsRow 0 e m v n' ys):n=n':=by
 rcases h.2 with⟨e1,e2⟩|⟨g,cap,cur,e1,_⟩<;>rcases h'.2 with⟨f1,f2⟩|⟨g',gj,lg,f1,_⟩
 .rw[e2,f2]
 .rw[e1]at f1;simp at f1
 .rw[e1]at f1;simp at f1
 .rw[e1]at f1;simp at f1;exact f1.2.1
theorem KP{bx:H->BS}{S':aU}{w':Â}{ys:F TV}{k:H}{v:G}(hg:γ k=v)(h:Di S' w' ys v):eM S' w' γ bx k (.cell (ys.map TV.leaf) U):=by
 obtain⟨g,cur,e,hu,hh,aw,hS⟩:=h;exact⟨g,cur,e,hg.trans hu,hh,by rw[ky];exact qI aw,λu dT=>by rw[ky]at dT;obtain⟨x,_,hx⟩:=aw.mem_right u dT;exact Rep.one _ _ _ hx u af,λ_=>hS,af⟩
theorem AS{bx:H->BS}{S':aU}{w':Â}{e:H}{t:Ty}{ys:F t.den}{k:H}{v:G}(hg:γ k=v)(h:vN S' w' e ⟨.list t,ys⟩ v):eM S' w' γ bx k (.lst e t ys U):=by
 obtain⟨t',xs,hx,cd,hS⟩:=h;cases hx;exact⟨by rw[hg];exact cd,λg az=>⟨λ_=>hS g (by rw[<-hg];exact az),af⟩⟩
theorem tM{S':aU}{w':Â}(hR:Rel N np S0 w0 refs σ a w S γ):∀{as:F Arg}{zs:F G}{fs:F Bk}{os:F Out}{uo:Ups},gD σ.bx γ as zs fs->lS fs os=D uo->lk S' w' as zs os->
  uo.map (·.1)=fs.map Bk.name/\∀x∈uo,∃b,σ.bx x.1 = .live b/\(x.2 = .gone\/∃b',x.2 = .live b'/\kH b b'/\∀bx',eM S' w' γ bx' x.1 b')
 |[],[],[],[],uo,_,h,_=>by simp[lS]at h;subst h;simp
 |.ref ls::as,u::us,.ref k::fs,.ref ys::os,uo,⟨h1,⟨gf,h2⟩,h3⟩,h,⟨q1,q2⟩=>by
  simp only[lS,FU]at h;split at h
  .rename_i u' dT;simp only[jb]at h;subst h;obtain⟨i1,i2⟩:=tM hR h3 dT q2;refine⟨by simp[i1,Bk.name],λx hx=>?_⟩;rcases jl.1 hx with rfl|hx
   .exact⟨_,h2,.inr ⟨_,rfl,trivial,λbx'=>KP h1.symm q1⟩⟩
   .exact i2 x hx
  .simp at h
 |.rl e x::as,u::us,.rl k e' t::fs,.rl y::os,uo,⟨h0,h1,⟨xs,h2,kX⟩,h3⟩,h,⟨q1,q1',q2⟩=>by
  simp only[lS,FU]at h;split at h
  .rename_i y' AJ;split at AJ
   .rename_i ys lZ;simp only[jb]at AJ;subst AJ;split at h
    .rename_i u' dT;simp only[jb]at h;subst h;obtain⟨i1,i2⟩:=tM hR h3 dT q2;refine⟨by simp[i1,Bk.name],λx hx=>?_⟩;rcases jl.1 hx with rfl|hx
     .have:=mJ lZ;subst this;subst h0;refine⟨_,h2,.inr ⟨_,rfl,⟨rfl,rfl,λhm=>?_⟩,λbx'=>AS h1.symm q1⟩⟩;obtain⟨css,aL,_⟩:=iI hm (hR.box k _ h2);obtain⟨la,cd,_⟩:=iI (bx:=σ.bx) hm (AS h1.symm q1);exact ψ aL cd
     .exact i2 x hx
    .simp at h
   .simp at AJ
  .simp at h
 |.mv e x::as,u::us,.mv k e' t::fs,os,uo,⟨h0,h1,⟨xs,h2,kX⟩,h3⟩,h,q=>by
  simp only[lS]at h;split at h
  .rename_i u' dT;simp only[jb]at h;subst h;obtain⟨i1,i2⟩:=tM hR h3 dT (by simpa only[lk]using q);refine⟨by simp[i1,Bk.name],λx hx=>?_⟩;rcases jl.1 hx with rfl|hx
   .exact⟨_,h2,.inl rfl⟩
   .exact i2 x hx
  .simp at h
 |.v _::as,_::us,fs,os,uo,h,h',q=>tM (as:=as) (zs:=us) (fs:=fs) hR h h' q
 |.ip _::as,_::us,fs,os,uo,h,h',q=>tM (as:=as) (zs:=us) (fs:=fs) hR h h' q
 |.clo _ _::as,_::us,fs,os,uo,h,h',q=>tM (as:=as) (zs:=us) (fs:=fs) hR h h' q
theorem KQ(hR:Rel N np S0 w0 refs σ a w S γ){SM:F H}{S':aU}{w':Â}(aO:dD S w S' w')(eb:∀g o,S' g o->S g o\/w.heap.size<=g\/g∈SM)(fJ:∀g o,S' g o->g<w'.heap.size)
  {as:F Arg}{zs:F G}{fs:F Bk}{os:F Out}{uo:Ups}(Dj:∀g∈SM,g∈mvOf as zs)(jT:∀f∈fs,f.isMv=Ä->parK np f.name=U)(db:gD σ.bx γ as zs fs)(dP:(fs.map Bk.name).Nodup)(ho:lS fs os=D uo)(hq:lk S' w' as zs os)
  (fL:∀g,g<w.heap.size->g∉eh as zs->w'.heap[g]? = w.heap[g]?)(gN:w.heap.size<=w'.heap.size)(oH:w'.os=w.os)(mb:w'.tape=w.tape)(cF:w'.output=w.output) :
  Rel N np S0 w0 refs (σ.upd uo) a w' S' γ:=by
 obtain⟨kM,xH⟩:=tM hR db ho hq;have sx:(uo.map (·.1)).Nodup:=by rw[kM];exact dP
 have eN:σ.upd uo={ σ with bx:=(σ.upd uo).bx }:=by have:=tC uo σ;cases h:σ.upd uo;rw[h]at this;simp only at this;rw[this]
 have cE:∀k,(uo.any (λy=>y.1==k)=U/\(σ.upd uo).bx k=σ.bx k)\/(∃b,σ.bx k = .live b/\(σ.upd uo).bx k = .gone)\/(∃b b',σ.bx k = .live b/\(σ.upd uo).bx k = .live b'/\kH b b'/\∀bx',eM S' w' γ bx' k b'):=by
  intro k;by_cases hk:uo.any (λy=>y.1==k)=Ä
  .right;obtain⟨x,hx,he⟩:=yj.1 hk;have he:x.1=k:=by simpa using he
   subst he;obtain⟨b,h1,h2|⟨b',h2,h3,h4⟩⟩:=xH x hx
   .exact .inl ⟨b,h1,by rw[vQ uo σ sx (b:=x.2) hx,h2]⟩
   .exact .inr ⟨b,b',h1,by rw[vQ uo σ sx (b:=x.2) hx,h2],h3,h4⟩
  .left;have bk:uo.any (λy=>y.1==k)=false:=qj.2 hk;exact⟨bk,jR uo σ bk⟩
 have fM:∀k b,(σ.upd uo).bx k = .live b->∃b',σ.bx k = .live b':=by
  intro k b hb;rcases cE k with⟨_,h⟩|⟨b1,h1,_⟩|⟨b1,b2,h1,_⟩
  .exact⟨b,h▸hb⟩
  .exact⟨b1,h1⟩
  .exact⟨b1,h1⟩
 have hle:BxLe γ σ.bx γ (σ.upd uo).bx:=by
  intro k hk;rcases cE k with⟨_,h⟩|⟨b1,h1,h2⟩|⟨b1,b2,h1,h2,h3,_⟩
  .rw[h];exact⟨hk,rfl,λb hb=>⟨b,hb,.refl b⟩⟩
  .rw[h2];exact⟨af,rfl,λb hb=>by simp at hb⟩
  .rw[h2];exact⟨af,rfl,λb hb=>by simp at hb;subst hb;exact⟨b1,h1,h3⟩⟩
 have hrefs:∀g,g∈eh as zs->∃f∈fs,blk (γ f.name)=D g/\∃b,σ.bx f.name = .live b:=by intro g hg;rw[vO db]at hg;obtain⟨f,hf,oI⟩:=vw.1 hg;exact⟨f,hf,oI,sG db f hf⟩
 rw[eN]
 refine Rel.step hR aO hle ?_ ?_ ?_ ?_ fJ ?_ (qc hR.grow gN) (oH.trans hR.os) (mb.trans hR.tape) (cF.trans hR.output) (λg hg _ h=>⟨fL g hg (λhm=>by
  obtain⟨f,hf,oI,b',aK⟩:=hrefs g hm;exact h f.name b' aK oI),λk b hb=>by
  obtain⟨b',aK⟩:=fM k b hb;exact h k b' aK⟩)
 .intro k b hb;rcases cE k with⟨hk,h⟩|⟨b1,h1,h2⟩|⟨b1,b2,h1,h2,h3,h4⟩
  case inr.inl=>rw[h2]at hb;simp at hb
  .rw[h]at hb;refine eM.keep aO hle rfl (λg hg=>?_) (hR.box k b hb);have xv:=jQ (hR.box k b hb) hg;suffices cY:g∉eh as zs from⟨fL g xv cY,λo=>⟨λhs=>(eb g o hs).resolve_right (λh=>h.elim (λh=>aa) λh=>cY (SJ (Dj g h))),λhs=>(aO g o hs).1⟩⟩
   intro hm;obtain⟨f,hf,oI,b',aK⟩:=hrefs g hm
   have br:k≠f.name:=by
    rintro rfl
    have:f.name∈uo.map (·.1):=by rw[kM];exact ò hf
    obtain⟨x,hx,he⟩:=ki.1 this;have:=(qu.1 hk) x hx;simp[he]at this
   exact hR.apart k f.name b b' g br hb aK hg oI
  .rw[h2]at hb;simp at hb;subst hb;exact h4 _
 .intro k b g hb hg;obtain⟨b',aK⟩:=fM k b hb;exact hR.own k b' g aK hg
 .intro k k' b1 b2 g br h1 h2 hg;obtain⟨tA,lX⟩:=fM k b1 h1;obtain⟨tB,kX⟩:=fM k' b2 h2;exact hR.apart k k' tA tB g br lX kX hg
 .intro g o hs;rcases eb g o hs with h|h|h
  .exact hR.new g o h
  .exact .inr (.inl (qc hR.grow h))
  .obtain⟨f,hf,Gn,oI⟩:=vP db (Dj g h);obtain⟨b',aK⟩:=sG db f hf;rcases hR.own f.name b' g aK oI with h|h
   .exact .inr h
   .rw[jT f hf Gn]at h;simp at h
 .intro g hg hr;rw[fL g (zb hg hR.grow) (λhm=>?_)]
  .exact hR.below g hg hr
  .obtain⟨f,hf,oI,b',aK⟩:=hrefs g hm;rcases hR.own f.name b' g aK oI with h|h
   .exact h.no aa hr
   .exact hr h.1
theorem KR(hR:Rel N np S0 w0 refs σ a w S γ){d:H}(hd:σ.bx d = .free){v':G}{b:Bx}
  (hv:∀g,blk v'=D g->(Own w0 refs g/\refs.kw g=M)/\∀k b,σ.bx k = .live b->blk (γ k)≠D g)(hb:eM S w (gset γ d v') (σ.setB d (.live b)).bx d b) :
  Rel N np S0 w0 refs (σ.setB d (.live b)) a w S (gset γ d v')/\BxLe γ σ.bx (gset γ d v') (σ.setB d (.live b)).bx:=by
 have hle:BxLe γ σ.bx (gset γ d v') (σ.setB d (.live b)).bx:=by
  intro k hk;have br:k≠d:=by rintro rfl;exact hk hd
  rw[cu σ _ br,fA γ v' br];exact⟨hk,rfl,λb hb=>⟨b,hb,.refl b⟩⟩
 refine⟨Rel.step (bx':=(σ.setB d (.live b)).bx) hR (.refl S w) hle ?_ ?_ ?_ hR.new hR.here hR.below hR.grow hR.os hR.tape hR.output (λg _ ng h=>⟨rfl,λk b' aK db=>by
  by_cases hk:k=d
  .subst hk;rw[ew]at db;exact ng (hv g db).1.2
  .rw[cu σ _ hk]at aK;rw[fA γ v' hk]at db;exact h k b' aK db⟩),hle⟩
 .intro k b' aK;by_cases hk:k=d
  .subst hk;rw[fm]at aK;simp at aK;subst aK;exact hb
  .rw[cu σ _ hk]at aK;exact eM.keep (.refl S w) hle (fA γ v' hk) (λg hg=>⟨rfl,λ_=>ã⟩) (hR.box k b' aK)
 .intro k b' g aK hg;by_cases hk:k=d
  .subst hk;rw[ew]at hg;exact .inl (hv g hg).1.1
  .rw[cu σ _ hk]at aK;rw[fA γ v' hk]at hg;exact hR.own k b' g aK hg
 .intro k k' b1 b2 g br h1 h2 hg az;by_cases hk:k=d
  .subst hk;have bk:k'≠k:=λh=>br h.symm;rw[ew]at hg;rw[cu σ _ bk]at h2;rw[fA γ v' bk]at az;exact(hv g hg).2 k' b2 h2 az
  .by_cases bk:k'=d
   .subst bk;rw[ew]at az;rw[cu σ _ hk]at h1;rw[fA γ v' hk]at hg;exact(hv g az).2 k b1 h1 hg
   .rw[cu σ _ hk]at h1;rw[cu σ _ bk]at h2;rw[fA γ v' hk]at hg;rw[fA γ v' bk]at az;exact hR.apart k k' b1 b2 g br h1 h2 hg az
theorem AU{bx:H->BS}{x:TV}{u:G}(h:VRep S w x u):bM S w γ bx (ot x.t x.v) u:=by
 obtain⟨t,v⟩:=x;obtain⟨h1,h2,h3⟩:=h;refine Kl t v _ u h1 (λhm=>?_) (λha hn=>?_)
 .have:jP t=true:=by
   rcases hm with hm|⟨n,b,rfl⟩
   .cases t<;>simp_all[jP,Ty.agg]
   .rfl
  obtain⟨cs,rfl⟩:=h2 this;simp[Value.cells]
 .have:jP t=false:=by cases t<;>simp_all[jP,Ty.agg]
  exact AK (h3 this)
theorem Gp:∀{ls:F RL}{n:H}{l:F Leaf}{u:Ups},soL n ls=D (l,u)->∀x∈u,n<=x.1/\x.1<n+ls.length
 |[],n,l,u,h=>by simp[soL]at h;obtain⟨rfl,rfl⟩:=h;simp
 |.d x::r,n,l,u,h=>by
  simp only[soL]at h;split at h
  .rename_i l' u' h';simp only[jb,jf]at h;obtain⟨rfl,rfl⟩:=h;intro y hy;have:=Gp h' y hy;simp only[jq];omega
  .simp at h
 |.own e ⟨.list a,xs⟩::r,n,l,u,h=>by
  simp only[soL]at h;split at h
  .rename_i l' u' h';simp only[jb,jf]at h;obtain⟨rfl,rfl⟩:=h;intro y hy;rcases jl.1 hy with rfl|hy
   .simp only[jq];omega
   .have:=Gp h' y hy;simp only[jq];omega
  .simp at h
 |.own e ⟨.int _,xs⟩::r,n,l,u,h=>by simp[soL]at h
 |.own e ⟨.bool,xs⟩::r,n,l,u,h=>by simp[soL]at h
 |.own e ⟨.str,xs⟩::r,n,l,u,h=>by simp[soL]at h
 |.own e ⟨.unit,xs⟩::r,n,l,u,h=>by simp[soL]at h
 |.own e ⟨.wrap _,xs⟩::r,n,l,u,h=>by simp[soL]at h
 |.own e ⟨.pair _ _,xs⟩::r,n,l,u,h=>by simp[soL]at h
 |.own e ⟨.arr _ _,xs⟩::r,n,l,u,h=>by simp[soL]at h
theorem SN{n:H}{r:RV}{c:Cel}{u:Ups}(h:FV n r=D (c,u)):∀x∈u,n<=x.1/\x.1<n+rvW r:=by
 unfold FV at h;split at h
 .simp only[jb,jf]at h;obtain⟨rfl,rfl⟩:=h;simp
 .simp only[jb,jf]at h;obtain⟨rfl,rfl⟩:=h;simp[rvW]
 .simp at h
 .simp only[jb,jf]at h;obtain⟨rfl,rfl⟩:=h;simp[rvW]
 .simp at h
 .split at h<;>(simp only[jb,jf]at h;obtain⟨rfl,rfl⟩:=h;simp)
 .simp only[jb,jf]at h;obtain⟨rfl,rfl⟩:=h;simp
 .split at h
  .rename_i l u' h';simp only[jb,jf]at h;obtain⟨rfl,rfl⟩:=h;exact Gp h'
  .simp at h
 .simp at h
theorem SO:∀{n:H}{rs:F RV}{cs:F Cel}{u:Ups},uR n rs=D (cs,u)->∀x∈u,n<=x.1
 |n,[],cs,u,h=>by simp[uR]at h;obtain⟨rfl,rfl⟩:=h;simp
 |n,r::rs,cs,u,h=>by
  simp only[uR]at h;split at h
  .rename_i c u1 h1;split at h
   .rename_i KS u2 h2;simp only[jb,jf]at h;obtain⟨rfl,rfl⟩:=h;intro x hx;rcases js.1 hx with hx|hx
    .exact(SN h1 x hx).1
    .have:=SO h2 x hx;omega
   .simp at h
  .simp at h
theorem SP{bx:H->BS}{ns:F H}:∀(k:H){ls:F Leaf}{cs:F G},All2 (bz S w γ bx) ls cs->(∀i∈ns,∀z,k<=i->cs[i-k]? = D z->z = .slice M 0 0)->
  All2 (bz S w γ bx) ((ls.zipIdx k).map λy=>if ns.contains y.2 then .nil else y.1) cs
 |_,[],[],_,_=>trivial
 |k,l::ls,c::cs,h,hn=>by
  refine⟨?_,SP (k+1) h.2 λi hi z hk hz=>hn i hi z aa ?_⟩
  .by_cases hc:ns.contains k=Ä
   .simp only[hc,if_true];exact hn k (by simpa using hc) c (jy _) af
   .simp only[hc];exact h.1
  .rw[show i-k=(i-(k+1))+1 by omega];simpa using hz
 |_,[],_::_,h,_=>h.elim
 |_,_::_,[],h,_=>h.elim
theorem ω(hR:Rel N np S0 w0 refs σ a w S γ){h0:H}(KT:w0.heap.size<=h0)(fM:∀k b g,σ.bx k = .live b->blk (γ k)=D g->g<h0)(xu:∀g,h0<=g->refs.kw g=M)
  {ns:F H}{s:Snap}{v:G}(oJ:KM h0 S w ns s v)(bd:∀x∈rawU ns s,σ.bx x.1 = .free)(dP:((rawU ns s).map (·.1)).Nodup) :
  ∃γ',Rel N np S0 w0 refs (σ.upd (rawU ns s)) a w S γ'/\∃zs,v=ma zs/\All2 (bM S w γ' (σ.upd (rawU ns s)).bx) (rawC ns s) zs:=by
 obtain⟨γr,zs,hv,hc,hb,nh,ϊ⟩:=oJ;generalize rawU ns s=u at *;let γ':H->Value:=λk=>if u.any (λy=>y.1==k) then γr k else γ k
 have gK:∀k,u.any (λy=>y.1==k)=Ä->(σ.upd u).bx k=(emp.upd u).bx k/\γ' k=γr k/\σ.bx k = .free:=by
  intro k hk;have kN:=hk;obtain⟨x,hx,he⟩:=yj.1 hk;have he:x.1=k:=by simpa using he
  subst he;exact⟨(vQ u σ dP (b:=x.2) hx).trans (vQ u emp dP (b:=x.2) hx).symm,if_pos kN,bd x hx⟩
 have cF:∀k,u.any (λy=>y.1==k)=U->(σ.upd u).bx k=σ.bx k/\(emp.upd u).bx k = .free/\γ' k=γ k:=by intro k hk;exact⟨jR u σ hk,jR u emp hk,if_neg (by rw[hk];simp)⟩
 have SQ:BxLe γr (emp.upd u).bx γ' (σ.upd u).bx:=by
  intro k hk;cases hu:u.any (λy=>y.1==k) with
  |false=>exact absurd (cF k hu).2.1 hk
  |true=>obtain⟨h1,h2,_⟩:=gK k hu;rw[h1];exact⟨hk,h2,λb hb=>⟨b,hb,.refl b⟩⟩
 have SR:BxLe γ σ.bx γ' (σ.upd u).bx:=by
  intro k hk;cases hu:u.any (λy=>y.1==k) with
  |true=>exact absurd (gK k hu).2.2 hk
  |false=>obtain⟨h1,_,h2⟩:=cF k hu;rw[h1];exact⟨hk,h2,λb hb=>⟨b,hb,.refl b⟩⟩
 have eN:σ.upd u={ σ with bx:=(σ.upd u).bx }:=by have:=tC u σ;cases h:σ.upd u;rw[h]at this;simp only at this;rw[this]
 refine⟨γ',?_,zs,hv,hc.mono λx z hx=>bM.keep (.refl S w) SQ hx⟩;rw[eN];refine Rel.step hR (.refl S w) SR ?_ ?_ ?_ hR.new hR.here hR.below hR.grow hR.os hR.tape hR.output (λg _ ng h=>⟨rfl,λk b hb db=>?_⟩)
 .intro k b aK;cases hu:u.any (λy=>y.1==k) with
  |true=>obtain⟨h1,h2,_⟩:=gK k hu;rw[h1]at aK;exact eM.keep (.refl S w) SQ h2 (λg hg=>⟨rfl,λ_=>ã⟩) (hb k b aK)
  |false=>obtain⟨h1,_,h2⟩:=cF k hu;rw[h1]at aK;exact eM.keep (.refl S w) SR h2 (λg hg=>⟨rfl,λ_=>ã⟩) (hR.box k b aK)
 .intro k b g aK hg;cases hu:u.any (λy=>y.1==k) with
  |true=>obtain⟨h1,h2,_⟩:=gK k hu;rw[h1]at aK;rw[h2]at hg;exact .inl (.inl (qc KT (nh k b g aK hg)))
  |false=>obtain⟨h1,_,h2⟩:=cF k hu;rw[h1]at aK;rw[h2]at hg;exact hR.own k b g aK hg
 .intro k k' b b' g br dG eF pJ gC;cases hu:u.any (λy=>y.1==k) with
  |true=>
   obtain⟨h1,h2,_⟩:=gK k hu;rw[h1]at dG;rw[h2]at pJ;cases dT:u.any (λy=>y.1==k') with
   |true=>obtain⟨h3,h4,_⟩:=gK k' dT;rw[h3]at eF;rw[h4]at gC;exact ϊ k k' b b' g br dG eF pJ gC
   |false=>obtain⟨h3,_,h4⟩:=cF k' dT;rw[h3]at eF;rw[h4]at gC;have:=fM k' b' g eF gC;have:=nh k b g dG pJ;omega
  |false=>
   obtain⟨h1,_,h2⟩:=cF k hu;rw[h1]at dG;rw[h2]at pJ;cases dT:u.any (λy=>y.1==k') with
   |true=>obtain⟨h3,h4,_⟩:=gK k' dT;rw[h3]at eF;rw[h4]at gC;have:=fM k b g dG pJ;have:=nh k' b' g eF gC;omega
   |false=>obtain⟨h3,_,h4⟩:=cF k' dT;rw[h3]at eF;rw[h4]at gC;exact hR.apart k k' b b' g br dG eF pJ gC
 .cases hu:u.any (λy=>y.1==k) with
  |true=>obtain⟨h1,h2,_⟩:=gK k hu;rw[h1]at hb;rw[h2]at db;exact ng (xu g (nh k b g hb db))
  |false=>obtain⟨h1,_,h2⟩:=cF k hu;rw[h1]at hb;rw[h2]at db;exact h k b hb db
theorem KU:∀{ls:F RL}{zs:F G}{n:H}{l:F Leaf}{u:Ups}{σ:St}{γ:H->G},Rel N np S0 w0 refs σ a w S γ->soL n ls=D (l,u)->All2 (Gj S w) ls zs->
  (∀x∈u,σ.bx x.1 = .free)->(nU ls zs).Nodup->(∀g∈nU ls zs,(Own w0 refs g/\refs.kw g=M)/\∀k b,σ.bx k = .live b->blk (γ k)≠D g)->
  ∃γ',Rel N np S0 w0 refs (σ.upd u) a w S γ'/\BxLe γ σ.bx γ' (σ.upd u).bx/\All2 (bz S w γ' (σ.upd u).bx) l zs/\(∀z∈zs,One z)/\
   ∀k b g,(σ.upd u).bx k = .live b->blk (γ' k)=D g->(∃b',σ.bx k = .live b'/\blk (γ k)=D g)\/g∈nU ls zs
 |[],[],n,l,u,σ,γ,hR,h,_,_,_,_=>by
  simp[soL]at h;obtain⟨rfl,rfl⟩:=h;exact⟨γ,hR,.refl _ _,trivial,af,λk b g h1 h2=> .inl ⟨b,h1,h2⟩⟩
 |.d x::ls,z::zs,n,l,u,σ,γ,hR,h,ha,bd,dP,hblk=>by
  simp only[soL]at h;split at h
  .rename_i l' u' h';simp only[jb,jf]at h;obtain⟨rfl,rfl⟩:=h;obtain⟨γ',q1,q2,q3,q4,q5⟩:=KU hR h' ha.2 bd dP hblk;exact⟨γ',q1,q2,⟨ha.1.2,q3⟩,λy hy=>(jl.1 hy).elim (λe=>e▸ha.1.1) (q4 y),q5⟩
  .simp at h
 |.own e ⟨.list t,xs⟩::ls,z::zs,n,l,u,σ,γ,hR,h,ha,bd,dP,hblk=>by
  simp only[soL]at h;split at h
  .rename_i l' u' h';simp only[jb,jf]at h;obtain⟨rfl,rfl⟩:=h;have aL:vN S w e ⟨.list t,xs⟩ z:=ha.1;have cV:One z:=by obtain⟨t',ys,_,cd,_⟩:=aL;exact cd.one
   have tN:σ.bx n = .free:=bd _ (zk ..);simp only[nU]at dP hblk;obtain⟨bB,hle⟩:=KR hR tN (v':=z) (b:= .lst e t xs U) (λg hg=>hblk g (by simp[hg])) (AS (ew _ _ _) aL);have kO:=Gp h'
   obtain⟨γ',q1,q2,q3,q4,q5⟩:=KU bB h' ha.2 (λx hx=>by
    have:=kO x hx;rw[cu σ _ aa];exact bd x (by simp[hx])) (zt.1 dP).2.1 (λg hg=>by
    obtain⟨p1,p2⟩:=hblk g (by simp[hg]);refine⟨p1,λk b' aK he=>?_⟩;by_cases hk:k=n
    .subst hk;rw[ew]at he;exact(zt.1 dP).2.2 g (by simp[he]) g hg rfl
    .rw[cu σ _ hk]at aK;rw[fA γ z hk]at he;exact p2 k b' aK he)
   refine⟨γ',q1,λk hk=>?_,⟨bz.keep (.refl S w) q2 ⟨by rw[fm];simp,cV,λb _=>(ew γ n z).symm⟩,q3⟩,λy hy=>(jl.1 hy).elim (λe=>e▸cV) (q4 y),λk b g h1 h2=>?_⟩
   .obtain⟨a1,a2,a3⟩:=hle k hk;obtain⟨b1,b2,b3⟩:=q2 k a1;refine⟨b1,b2.trans a2,λb hb=>?_⟩;obtain⟨b',aK,dy⟩:=b3 b hb;obtain⟨Dh,qW,qX⟩:=a3 b' aK;exact⟨Dh,qW,qX.trans dy⟩
   .rcases q5 k b g h1 h2 with⟨b',aK,he⟩|h3
    .by_cases hk:k=n
     .subst hk;rw[ew]at he;exact .inr (by simp[nU,he])
     .rw[cu σ _ hk]at aK;rw[fA γ z hk]at he;exact .inl ⟨b',aK,he⟩
    .exact .inr (by simp[nU,h3])
  .simp at h
 |.own e ⟨.int _,xs⟩::r,_,n,l,u,_,_,_,h,_,_,_,_=>by simp[soL]at h
 |.own e ⟨.bool,xs⟩::r,_,n,l,u,_,_,_,h,_,_,_,_=>by simp[soL]at h
 |.own e ⟨.str,xs⟩::r,_,n,l,u,_,_,_,h,_,_,_,_=>by simp[soL]at h
 |.own e ⟨.unit,xs⟩::r,_,n,l,u,_,_,_,h,_,_,_,_=>by simp[soL]at h
 |.own e ⟨.wrap _,xs⟩::r,_,n,l,u,_,_,_,h,_,_,_,_=>by simp[soL]at h
 |.own e ⟨.pair _ _,xs⟩::r,_,n,l,u,_,_,_,h,_,_,_,_=>by simp[soL]at h
 |.own e ⟨.arr _ _,xs⟩::r,_,n,l,u,_,_,_,h,_,_,_,_=>by simp[soL]at h
 |[],_::_,_,_,_,_,_,_,_,ha,_,_,_=>ha.elim
 |.d _::_,[],_,_,_,_,_,_,_,ha,_,_,_=>ha.elim
 |.own _ ⟨.list _,_⟩::_,[],_,_,_,_,_,_,_,ha,_,_,_=>ha.elim
theorem SS:∀{rs:F RV}{vs:F G}{n:H}{cs:F Cel}{un:Ups}{σ:St}{γ:H->G},Rel N np S0 w0 refs σ a w S γ->uR n rs=D (cs,un)->All2 (pL S w) rs vs->
  (∀x∈un,σ.bx x.1 = .free)->(gM rs vs).Nodup->(∀g∈gM rs vs,(Own w0 refs g/\refs.kw g=M)/\∀k b,σ.bx k = .live b->blk (γ k)≠D g)->
  ∃γ',Rel N np S0 w0 refs (σ.upd un) a w S γ'/\BxLe γ σ.bx γ' (σ.upd un).bx/\All2 (bM S w γ' (σ.upd un).bx) cs vs
 |[],[],n,cs,un,σ,γ,hR,h,_,_,_,_=>by
  simp[uR]at h;obtain⟨rfl,rfl⟩:=h;exact⟨γ,hR,.refl _ _,trivial⟩
 |r::rs,u::us,n,cs,un,σ,γ,hR,h,ha,bd,dP,hblk=>by
  simp only[uR]at h;split at h
  .rename_i c u1 h1;split at h
   .rename_i KS u2 h2;simp only[jb,jf]at h;obtain⟨rfl,rfl⟩:=h
    have Dk:∀(σ1:St)(γ1:H->G),Rel N np S0 w0 refs σ1 a w S γ1->σ1=σ.upd u1->BxLe γ σ.bx γ1 σ1.bx->bM S w γ1 σ1.bx c u->(∀x∈u2,σ1.bx x.1 = .free)->
      (gM rs us).Nodup->(∀g∈gM rs us,(Own w0 refs g/\refs.kw g=M)/\∀k b,σ1.bx k = .live b->blk (γ1 k)≠D g)->
      ∃γ',Rel N np S0 w0 refs (σ.upd (u1++u2)) a w S γ'/\BxLe γ σ.bx γ' (σ.upd (u1++u2)).bx/\All2 (bM S w γ' (σ.upd (u1++u2)).bx) (c::KS) (u::us):=by
     intro σ1 γ1 bB he hle hc hf hn hb;obtain⟨γ',q1,q2,q3⟩:=SS (σ:=σ1) (γ:=γ1) bB h2 ha.2 hf hn hb;subst he;rw[iW];refine⟨γ',q1,?_,bM.keep (.refl S w) q2 hc,q3⟩;intro k hk;obtain⟨a1,a2,a3⟩:=hle k hk;obtain⟨b1,b2,b3⟩:=q2 k a1;refine⟨b1,b2.trans a2,λb hb=>?_⟩;obtain⟨b',aK,dy⟩:=b3 b hb;obtain⟨Dh,qW,qX⟩:=a3 b' aK;refine⟨Dh,qW,?_⟩;exact qX.trans dy
    have kO:=SN h1;have nn:=SO h2
    have eb:∀(v':G)(b:Bx),lj r u=(blk v').toList->rvW r=1->u1=[(n,.live b)]->(∀bx',eM S w (gset γ n v') bx' n b)->(∀bx',(bx' n = .live b)->bM S w (gset γ n v') bx' c u)->
      ∃γ',Rel N np S0 w0 refs (σ.upd (u1++u2)) a w S γ'/\BxLe γ σ.bx γ' (σ.upd (u1++u2)).bx/\All2 (bM S w γ' (σ.upd (u1++u2)).bx) (c::KS) (u::us):=by
     intro v' b gn KV AV cQ nr;subst AV;rw[KV]at nn;have tN:σ.bx n = .free:=bd (n,.live b) af;simp only[gM,gn]at dP hblk;obtain⟨bB,hle⟩:=KR hR tN (v':=v') (b:=b) (λg hg=>hblk g (by simp[hg])) (cQ _);refine Dk _ _ bB rfl hle (nr _ (fm _ _ _)) (λx hx=>?_) ?_ (λg hg=>?_)
     .have:=nn x hx;rw[cu σ _ aa];exact bd x (by simp[hx])
     .exact(zt.1 dP).2.1
     .obtain⟨p1,p2⟩:=hblk g (by simp[hg]);refine⟨p1,λk b' aK he=>?_⟩;by_cases hk:k=n
      .subst hk;rw[ew]at he;have:=(zt.1 dP).2.2 g (by simp[he]) g hg;exact this rfl
      .rw[cu σ _ hk]at aK;rw[fA γ v' hk]at he;exact p2 k b' aK he
    unfold FV at h1;split at h1
    .rename_i x;simp only[jb,jf]at h1;obtain⟨rfl,rfl⟩:=h1;refine Dk σ γ hR rfl (.refl _ _) (AU ha.1) (λx hx=>bd x (by simp[hx])) ?_ ?_
     .simpa[gM,mN,lj]using dP
     .simpa[gM,mN,lj]using hblk
    .rename_i e el xs;simp only[jb,jf]at h1;obtain⟨rfl,rfl⟩:=h1;have aL:vN S w e ⟨.list el,xs⟩ u:=ha.1;have cV:One u:=by obtain⟨t',ys,_,cd,_⟩:=aL;exact cd.one
     exact eb u _ rfl rfl rfl (λbx'=>AS (ew _ _ _) aL) (λbx' hb=>⟨⟨by rw[hb];simp,cV,λb _=>(ew γ n u).symm⟩,λ_=>cV⟩)
    .simp at h1
    .rename_i ls;simp only[jb,jf]at h1;obtain⟨rfl,rfl⟩:=h1;have Dl:Di S w ls u:=ha.1;obtain⟨g,cur,e,hu,_⟩:=id Dl;have cV:One u:=by rw[hu];rfl
     exact eb u _ rfl rfl rfl (λbx'=>KP (ew _ _ _) Dl) (λbx' hb=>⟨⟨by rw[hb];simp,cV,λb _=>⟨g,by rw[ew,hu],hu⟩⟩,λ_=>cV⟩)
    .simp at h1
    .rename_i x ns;have hv:VRep S w x u/\∀cs,u = .agg cs->∀i∈ns,∀z,cs.toList[i]? = D z->z = .slice M 0 0:=ha.1;have qY:bM S w γ σ.bx (ot x.t x.v) u:=AU hv.1
     have hc:bM S w γ σ.bx c u/\u1=[]:=by
      split at h1
      .rename_i ls he;simp only[jb,jf]at h1;obtain⟨rfl,rfl⟩:=h1;rw[he]at qY;obtain⟨cs,hu,aw,cV⟩:=qY;exact⟨⟨cs,hu,SP 0 aw λi hi z _ hz=>hv.2 cs hu i hi z (by simpa using hz),cV⟩,rfl⟩
      .simp only[jb,jf]at h1;obtain⟨rfl,rfl⟩:=h1;exact⟨qY,rfl⟩
     obtain⟨hc,rfl⟩:=hc;refine Dk σ γ hR rfl (.refl _ _) hc (λx hx=>bd x (by simp[hx])) ?_ ?_
     .simpa[gM,mN,lj]using dP
     .simpa[gM,mN,lj]using hblk
    .rename_i f caps;simp only[jb,jf]at h1;obtain⟨rfl,rfl⟩:=h1;obtain⟨cv,hu,aw⟩:∃cv:È G,u = .func (.func f) #[] cv/\All2 (jO S w) caps cv.toList:=ha.1;refine Dk σ γ hR rfl (.refl _ _) ⟨⟨cv,hu,aw⟩,λ_=>by rw[hu];rfl⟩ (λx hx=>bd x (by simp[hx])) ?_ ?_
     .simpa[gM,mN,lj]using dP
     .simpa[gM,mN,lj]using hblk
    .rename_i ls;split at h1
     .rename_i l KN hl;simp only[jb,jf]at h1;obtain⟨rfl,rfl⟩:=h1;obtain⟨mc,hu,aw⟩:∃cs:È G,u = .agg cs/\All2 (Gj S w) ls cs.toList:=ha.1;subst hu;have xI:lj (.so ls) (.agg mc)=nU ls mc.toList:=rfl;simp only[gM,xI]at dP hblk;obtain⟨γ1,q1,q2,q3,q4,q5⟩:=KU hR hl aw (λx hx=>bd x (by simp[hx])) (zt.1 dP).1 (λg hg=>hblk g (by simp[hg]));refine Dk _ γ1 q1 rfl q2 ⟨mc,rfl,q3,q4⟩ (λx hx=>?_) (zt.1 dP).2.1 (λg hg=>?_)
      .have h2:=nn x hx;rw[jR KN σ]
       .exact bd x (by simp[hx])
       .rw[qu];intro y hy he;simp only[va]at he;have:=kO y hy;omega
      .obtain⟨p1,p2⟩:=hblk g (by simp[hg]);refine⟨p1,λk b' aK he=>?_⟩;rcases q5 k b' g aK he with⟨b2,eF,ϋ⟩|h3
       .exact p2 k b2 eF ϋ
       .exact(zt.1 dP).2.2 g h3 g hg rfl
     .simp at h1
    .simp at h1
   .simp at h
  .simp at h
 |[],_::_,_,_,_,_,_,_,_,ha,_,_,_=>ha.elim
 |_::_,[],_,_,_,_,_,_,_,ha,_,_,_=>ha.elim
end
section
variable{N:NT}{np:H}{S0:aU}{w0:Â}{refs:Refs}{σ:St}{a:Ý}{w:Â}{S:aU}{γ:H->G}
theorem KW{S':aU}{w':Â}:∀(cs:F Cap)(cv:F G)(os:F Out),lk S' w' (cs.map ox) cv os->os=[]
 |[],[],[],_=>rfl
 |[],[],_::_,h=>h.elim
 |[],_::_,_,h=>h.elim
 |c::cs,[],_,h=>by cases c<;>exact h.elim
 |.v _::cs,_::cv,os,h=>KW cs cv os h
 |.p _::cs,_::cv,os,h=>KW cs cv os h
theorem xJ{S':aU}{w':Â}{cs:F Cap}{cv:F G}:∀{as:F Arg}{zs:F G}{os:F Out},as.length=zs.length->
  lk S' w' (as++cs.map ox) (zs++cv) os->lk S' w' as zs os
 |[],[],os,_,h=>by
  have:=KW cs cv os h;subst this;trivial
 |.ref ls::as,u::us,.ref ys::os,hl,⟨h1,h2⟩=>⟨h1,xJ (by simpa using hl) h2⟩
 |.rl e x::as,u::us,.rl y::os,hl,⟨h1,h2,h3⟩=>⟨h1,h2,xJ (by simpa using hl) h3⟩
 |.v _::as,_::us,os,hl,h=>xJ (as:=as) (zs:=us) (by simpa using hl) h
 |.ip _::as,_::us,os,hl,h=>xJ (as:=as) (zs:=us) (by simpa using hl) h
 |.clo _ _::as,_::us,os,hl,h=>xJ (as:=as) (zs:=us) (by simpa using hl) h
 |.mv _ _::as,_::us,os,hl,h=>xJ (as:=as) (zs:=us) (by simpa using hl) h
 |[],_::_,_,hl,_=>by simp at hl
 |_::_,[],_,hl,_=>by simp at hl
 |.ref _::_,_::_,[],_,h=>h.elim
 |.ref _::_,_::_,.rl _::_,_,h=>h.elim
 |.rl _ _::_,_::_,[],_,h=>h.elim
 |.rl _ _::_,_::_,.ref _::_,_,h=>h.elim
theorem gD.congr{bx bx':H->BS}:∀{as:F Arg}{us:F G}{fs:F Bk},(∀f∈fs,bx' f.name=bx f.name)->gD bx γ as us fs->gD bx' γ as us fs
 |[],[],[],_,_=>trivial
 |.ref ls::as,u::us,.ref k::fs,hc,⟨h1,⟨gf,h2⟩,h3⟩=>
  ⟨h1,⟨gf,(hc (.ref k) af).trans h2⟩,gD.congr (λf hf=>hc f (by simp[hf])) h3⟩
 |.rl e x::as,u::us,.rl k e' t::fs,hc,⟨h0,h1,⟨xs,h2,hx⟩,h3⟩=>
  ⟨h0,h1,⟨xs,(hc (.rl k e' t) af).trans h2,hx⟩,gD.congr (λf hf=>hc f (by simp[hf])) h3⟩
 |.mv e x::as,u::us,.mv k e' t::fs,hc,⟨h0,h1,⟨xs,h2,hx⟩,h3⟩=>
  ⟨h0,h1,⟨xs,(hc (.mv k e' t) af).trans h2,hx⟩,gD.congr (λf hf=>hc f (by simp[hf])) h3⟩
 |.v _::as,_::us,fs,hc,h=>gD.congr (as:=as) (us:=us) hc h
 |.ip _::as,_::us,fs,hc,h=>gD.congr (as:=as) (us:=us) hc h
 |.clo _ _::as,_::us,fs,hc,h=>gD.congr (as:=as) (us:=us) hc h
theorem AW{S1 S':aU}{w':Â}(fe:∀g o,S g o->S' g o):∀{as:F Arg}{zs:F G}{os:F Out},os.all Out.flat=Ä->lk S' w' as zs os->lk S w' as zs os
 |[],[],[],_,_=>trivial
 |.ref ls::as,u::us,.ref ys::os,hf,⟨⟨g,cur,e,h1,h2,h3,h4⟩,h5⟩=>by
  simp only[zo,ji,Out.flat]at hf;refine⟨⟨g,cur,e,h1,h2,?_,λo hs=>h4 o (fe g o hs)⟩,AW (S1:=S1) fe hf.2 h5⟩;have hl:=hf.1;clear h1 h2 hf h4 h5;generalize cur.toList.take ys.length=l at h3;induction ys generalizing l with
  |nil=>cases l with|nil=>trivial|cons _ _=>exact h3.elim
  |cons y ys ih=>
   cases l with
   |nil=>exact h3.elim
   |cons z l=>simp only[zo,ji]at hl;exact⟨tL _ _ _ hl.1 h3.1,ih hl.2 l h3.2⟩
 |.rl e x::as,u::us,.rl y::os,hf,⟨⟨t,xs,h1,_⟩,_,_⟩=>by
  simp only[zo,ji,Out.flat,h1,Ty.flat]at hf;exact absurd hf.1 af
 |.v _::as,_::us,os,hf,h=>AW (S1:=S1) (as:=as) (zs:=us) fe hf h
 |.ip _::as,_::us,os,hf,h=>AW (S1:=S1) (as:=as) (zs:=us) fe hf h
 |.clo _ _::as,_::us,os,hf,h=>AW (S1:=S1) (as:=as) (zs:=us) fe hf h
 |.mv _ _::as,_::us,os,hf,h=>AW (S1:=S1) (as:=as) (zs:=us) fe hf h
theorem ό{S S':aU}{w:Â}{e:H}{a:Ty}{xs:F a.den}{u:G}(hf:a.flat=Ä)(h:qF S' w e a xs u):qF S w e a xs u:=by
 rcases h with⟨hm,css,h1,h2⟩|⟨hm,h1⟩
 .exact .inl ⟨hm,css,h1,h2.mono λx c hx=>tL _ _ _ hf hx⟩
 .refine .inr ⟨hm,?_⟩;revert hf h1;cases a with
  |pair k b=>intro hf h1;simp only[Ty.flat,ji]at hf;obtain⟨g,es,clock,hu,hh,ha,hq⟩:=h1;exact⟨g,es,clock,hu,hh,ha.mono λx e hx=>⟨tL _ _ _ hf.1 hx.1,tL _ _ _ hf.2 hx.2.1,hx.2.2⟩,hq⟩
  |_=>intro _ h1;exact h1.elim
theorem SU{S':aU}{w':Â}(fe:∀g o,S g o->S' g o):∀{rs:F RV}{vs:F G},rs.all RV.flat=Ä->All2 (pL S' w') rs vs->All2 (pL S w') rs vs
 |[],[],_,_=>trivial
 |r::rs,v::vs,hf,h=>by
  simp only[zo,ji]at hf;have i1:=SU fe hf.2 h.2;cases r with
  |v x=>obtain⟨h1,h2,h3⟩:=h.1;exact⟨⟨tL _ _ _ hf.1 h1,h2,h3⟩,i1⟩
  |own e x=>obtain⟨a,xs,rfl,h1,h2⟩:=h.1;exact⟨⟨a,xs,rfl,ό hf.1 h1,λg hg o hs=>h2 g hg o (fe g o hs)⟩,i1⟩
  |so ls=>simp[RV.flat]at hf
  |box ls=>simp[RV.flat]at hf
  |hd n=>simp[RV.flat]at hf
  |vn x ns=>simp[RV.flat]at hf
  |clo f cs=>simp[RV.flat]at hf
  |raw ns s=>simp[RV.flat]at hf
 |[],_::_,_,h=>h.elim
 |_::_,[],_,h=>h.elim
theorem ύ{rd:H->BS}(aW:RdOk σ rd){un:Ups}(h:un.all (λe=>gT (rd e.1))=Ä):∀x∈un,σ.bx x.1 = .free:=
 λx hx=>aW.free (ka.1 h x hx)
theorem All2.len{α β:Type}{R:α->β->Prop}{as:F α}{bs:F β}(h:All2 R as bs):as.length=bs.length:=h.length
theorem SX{γ':H->G}{bx:H->BS}{S':aU}{w':Â}{ώ:H->G}{cs:F Cel}{vs:F G}(h:All2 (bM S' w' γ' bx) cs vs) :
  iH S' w' γ' bx ώ (Cr cs) (ma vs):=by
 match cs,vs,h with
 |[c],[v],h=>exact h.1
 |[],[],h=>exact⟨#[],rfl,trivial⟩
 |c::c'::cs,v::v'::vs,h=>exact⟨(v::v'::vs).toArray,rfl,by simpa using h⟩
 |[c],v::v'::vs,h=>exact h.2.elim
 |c::c'::cs,[v],h=>exact h.2.elim
 |[],v::vs,h=>exact h.elim
 |c::cs,[],h=>exact h.elim
theorem Gq{bx:H->BS}{k e:H}{t:Ty}:∀{as:F Arg}{us:F G}{fs:F Bk},gD bx γ as us (.rl k e t::fs)->∀(bs:F Arg)(vs:F G),Gk (as++bs) (us++vs)=D (γ k)
 |.rl e x::as,u::us,fs,⟨_,h1,_,_⟩,bs,vs=>by rw[<-h1];rfl
 |.v _::as,_::us,fs,h,bs,vs=>Gq (as:=as) (us:=us) (fs:=fs) h bs vs
 |.ip _::as,_::us,fs,h,bs,vs=>Gq (as:=as) (us:=us) (fs:=fs) h bs vs
 |.clo _ _::as,_::us,fs,h,bs,vs=>Gq (as:=as) (us:=us) (fs:=fs) h bs vs
 |[],[],fs,h,_,_=>h.elim
 |.ref _::as,_::us,fs,h,_,_=>h.elim
 |.mv _ _::as,_::us,fs,h,_,_=>h.elim
 |[],_::_,fs,h,_,_=>h.elim
 |_::_,[],fs,h,_,_=>by cases ‹Arg› <;> exact h.elim
theorem SY{α β:Type}:∀(l:F α)(l':F β),List.Sublist ((l.zip l').map (·.1)) l
 |[],_=>af
 |_::_,[]=>af
 |x::l,y::l'=>by simpa using SY l l'
theorem SZ:∀(as:F Arg)(us:F G)(bs:F Arg)(vs:F G),as.length=us.length->mvOf (as++bs) (us++vs)=mvOf as us++mvOf bs vs
 |[],[],bs,vs,_=>rfl
 |a::as,u::us,bs,vs,h=>by
  have ih:=SZ as us bs vs (by simpa using h);cases a<;>simp[mvOf,ih]
 |[],_::_,_,_,h=>by simp at h
 |_::_,[],_,_,h=>by simp at h
theorem S7:∀(cs:F Cap)(zs:F G),mvOf (cs.map ox) zs=[]
 |[],_=>by cases ‹F G› <;> rfl
 |c::cs,[]=>by cases c<;>rfl
 |c::cs,z::zs=>by cases c<;>simp[mvOf,ox,S7 cs zs]
theorem Gr:∀{fs:F Bk}{os:F Out}{uo:Ups}{f:Bk},lS fs os=D uo->f∈fs->f.isMv=Ä->(f.name,BS.gone)∈uo
 |[],os,uo,f,_,hf,_=>by simp at hf
 |.mv k e a::fs,os,uo,f,h,hf,hm=>by
  simp only[lS]at h;split at h
  .rename_i u' dT;simp only[jb]at h;subst h;rcases jl.1 hf with rfl|hf
   .exact zk
   .exact qv _ (Gr dT hf hm)
  .simp at h
 |.ref k::fs,[],uo,f,h,hf,hm=>by simp[lS]at h
 |.rl k e a::fs,[],uo,f,h,hf,hm=>by simp[lS]at h
 |.ref k::fs,o::os,uo,f,h,hf,hm=>by
  simp only[lS]at h;split at h
  .split at h
   .rename_i u' dT;simp only[jb]at h;subst h;rcases jl.1 hf with rfl|hf
    .simp[Bk.isMv]at hm
    .exact qv _ (Gr dT hf hm)
   .simp at h
  .simp at h
 |.rl k e a::fs,o::os,uo,f,h,hf,hm=>by
  simp only[lS]at h;split at h
  .split at h
   .rename_i u' dT;simp only[jb]at h;subst h;rcases jl.1 hf with rfl|hf
    .simp[Bk.isMv]at hm
    .exact qv _ (Gr dT hf hm)
   .simp at h
  .simp at h
theorem S8{P:À}(hR:Rel N np S0 w0 refs σ a w S γ){rw rd rdf:H->BS}(iY:RdR σ rw)(aW:RdOk σ rd)(bn:RdF np σ rdf){T:H->Á TyI}{ts:F H}{ms:F Ö}{cs:F Cel}{as:F Arg}{us:Ups}{fs:F Bk}{zs:F G}
  {mv:Ö}(h:ow rw rdf T mv ts ms cs=D (as,us,fs))(ha:All2 (bM S w γ σ.bx) cs zs)(bJ:bkOk us fs=Ä)
  {caps:F Cap}{cv:F G}(ln:All2 (jO S w) caps cv){g:H}{K:Ret->Prop}
  (dU:Gm P g (as++caps.map ox) K)(n:H) :
  Calls P g (zs++cv).toArray w λe w'=>∃ret,K ret/\∀s u,td rd rdf n us fs ret=D (s,u)->∃v S' γ',e = .returned v/\Rel N np S0 w0 refs (σ.upd u) a w' S' γ'/\iH S' w' γ' (σ.upd u).bx (tm a) s v:=by
 obtain⟨fD,db,qK⟩:=SD hR iY bn h ha;simp only[bkOk,ji]at bJ;obtain⟨dP,xK⟩:=bJ;have dP:=xG dP
 have hlen:as.length=zs.length:=by
  have:∀{as:F Arg}{us:F G}{fs:F Bk},gD σ.bx γ as us fs->as.length=us.length:=by
   intro as;induction as with
   |nil=>intro us fs hh;cases us with|nil=>rfl|cons _ _=>exact hh.elim
   |cons a as ih=>
    intro us fs hh;cases us with
    |nil=>cases a<;>exact hh.elim
    |cons u us=>
     cases a with
     |v x=>have:=ih (us:=us) (fs:=fs) hh;simp[this]
     |ip x=>have:=ih (us:=us) (fs:=fs) hh;simp[this]
     |clo x y=>have:=ih (us:=us) (fs:=fs) hh;simp[this]
     |ref ls=>match fs,hh with|.ref k::fs,⟨_,_,h3⟩=>have:=ih h3;simp[this]
     |rl e x=>match fs,hh with|.rl k e' t::fs,⟨_,_,_,h3⟩=>have:=ih h3;simp[this]
     |mv e x=>match fs,hh with|.mv k e' t::fs,⟨_,_,_,h3⟩=>have:=ih h3;simp[this]
  exact this db
 obtain⟨S1,bB,cO,gq,cR⟩:=na us σ S hR fD;have Dm:∀k,k∈fs.map Bk.name->us.any (λy=>y.1==k)=false:=by intro k hk;rw[qu];intro x hx he;have:=ka.1 xK x hx;simp only[va]at he;subst he;simp only[qi,qo,ku]at this;exact this hk
 have qZ:∀f∈fs,(σ.upd us).bx f.name=σ.bx f.name:=λf hf=>jR us σ (Dm _ (ò hf));have tO:=db.congr qZ
 have oK:∀k b,fs.any (λy=>y.name==k)=Ä->σ.bx k = .live b->∀g,blk (γ k)=D g->∀o,¬S1 g o:=by
  intro k b hk hb g hg o;obtain⟨f,hf,he⟩:=yj.1 hk;have he:f.name=k:=by simpa using he
  subst he;have dG:(σ.upd us).bx f.name = .live b:=(qZ f hf).trans hb;have cQ:=bB.box f.name b dG
  have me:(∃gf,b = .cell gf U)\/(∃e t xs,b = .lst e t xs U):=by
   have:∀{as:F Arg}{us:F G}{fs:F Bk},gD σ.bx γ as us fs->f∈fs->(∃gf,σ.bx f.name = .live (.cell gf U))\/(∃e t xs,σ.bx f.name = .live (.lst e t xs U)):=by
    intro as;induction as with
    |nil=>intro us fs hh hm;match us,fs,hh with|[],[],_=>simp at hm
    |cons a as ih=>
     intro us fs hh hm;cases us with
     |nil=>cases a<;>exact hh.elim
     |cons u us=>
      cases a with
      |v x=>exact ih (us:=us) (fs:=fs) hh hm
      |ip x=>exact ih (us:=us) (fs:=fs) hh hm
      |clo x y=>exact ih (us:=us) (fs:=fs) hh hm
      |ref ls=>
       match fs,hh with
       |.ref k::fs,⟨_,⟨gf,h2⟩,h3⟩=>
        rcases jl.1 hm with rfl|hm
        .exact .inl ⟨gf,h2⟩
        .exact ih h3 hm
      |rl e x=>
       match fs,hh with
       |.rl k e' t::fs,⟨_,_,⟨xs,h2,_⟩,h3⟩=>
        rcases jl.1 hm with rfl|hm
        .exact .inr ⟨_,t,xs,h2⟩
        .exact ih h3 hm
      |mv e x=>
       match fs,hh with
       |.mv k e' t::fs,⟨_,_,⟨xs,h2,_⟩,h3⟩=>
        rcases jl.1 hm with rfl|hm
        .exact .inr ⟨_,t,xs,h2⟩
        .exact ih h3 hm
   rcases this db hf with⟨gf,h2⟩|⟨e,t,xs,h2⟩
   .rw[hb]at h2;simp at h2;exact .inl ⟨gf,h2⟩
   .rw[hb]at h2;simp at h2;exact .inr ⟨e,t,xs,h2⟩
  rcases me with⟨gf,rfl⟩|⟨e,t,xs,rfl⟩
  .obtain⟨g',cur,e,az,_,_,_,hS,_⟩:=cQ;rw[az]at hg;simp[blk]at hg;subst hg;exact hS rfl o
  .exact(cQ.2 g hg).1 rfl o
 have cS:All2 (nT S1 w) as zs:=qK S1 cO gq oK;have Dn:All2 (nT S1 w) (caps.map ox) cv:=SF (ln.mono (λx z hx=>jO.keep cO hx));have hrefs:eh (as++caps.map ox) (zs++cv)=eh as zs:=by rw[SI _ _ _ _ hlen,SH,qh]
 have tP:(eh as zs).Nodup:=by rw[vO db];have:=KO hR dP (λk hk=>by obtain⟨f,hf,rfl⟩:=ki.1 hk;exact sG db f hf);rwa[List.filterMap_map]at this
 refine(dU w S1 (zs++cv) (cS.append Dn) (by rw[hrefs];exact tP) bB.here).mono ?_
 rintro e w' ⟨ret,hK,v,S',vs,rfl,bZ⟩
 refine⟨ret,hK,λs u bA=>?_⟩;obtain⟨dZ,bI,ra,nt,dV,iZ,eb,fJ,fL,gN,oH,mb,cF,oJ,rb⟩:=bZ;rw[hrefs]at fL;have KX:mvOf (as++caps.map ox) (zs++cv)=mvOf as zs:=by rw[SZ _ _ _ _ hlen,S7,qh]
 rw[KX]at ra eb;have jT:∀f∈fs,f.isMv=Ä->parK np f.name=false:=SK bn h;have dV:=xJ hlen dV;refine⟨v,?_⟩;unfold td at bA;split at bA
 ·-- the list KY first,cut short
  rename_i m KZ;unfold mkHd at bA;generalize gr:ret.outs=ro at bA dV;split at bA
  .rename_i k e el SE y pM _;split at bA
   .rename_i uo ys re lZ;split at bA
    .rename_i cg;simp only[ji]at cg;simp only[jb,jf]at bA;obtain⟨rfl,rfl⟩:=bA;have cB:=KQ bB iZ eb fJ (λ_ h=>h) jT tO dP re dV fL gN oH mb cF;obtain⟨kM,nV⟩:=tM bB tO re dV;have sx:(uo.map (·.1)).Nodup:=by rw[kM];exact dP
     have K3:(k,BS.live (.lst e el ys U))∈uo:=by
      simp only[lS,FU,lZ]at re;split at re
      .simp only[jb]at re;rw[<-re];exact zk
      .simp at re
     have eR:=vQ uo (σ.upd us) sx K3;obtain⟨bl,xI⟩:=CP cg.2;have nQ:=bn.par xI;have h0:=aW.free cg.1;have h1:(σ.upd us).bx n = .free:=cR.free h0;have nu:((σ.upd us).upd uo).bx n = .free:=by rw[jR uo,h1];rw[qu];intro y hy he;simp only[va]at he;obtain⟨b0,h2,_⟩:=nV y hy;rw[he,h1]at h2;simp at h2
     obtain⟨ad,len,cap,gH,AX,iK⟩:=rb m KZ;have xL:γ k = .slice ad len cap:=by have:=Gq db (caps.map ox) cv;rw[gH]at this;simpa using this.symm
     have nR:len=ys.length:=by
      obtain⟨css,aL,_⟩:=F3 xL (cB.box k _ eR);rcases aL.2 with⟨az,hn⟩|⟨g,gj,cur,az,_⟩
      .rw[xL]at az;simp only[Z]at az;omega
      .rw[xL]at az;simp only[Z]at az;omega
     obtain⟨γ',dh,gz⟩:=ν cB eR nQ nu (m:=m) aa (by rw[xL,nR]);refine⟨S',γ',rfl,by rw[iW,iW];exact dh,?_⟩;rw[dZ,iK,iW,iW];exact gz
    .simp at bA
   .simp at bA
  .simp at bA
 ·-- the results as K4 lie
  rename_i ns sn KZ;unfold Cs at bA;generalize gr:ret.outs=ro at bA dV;split at bA
  case h_2=>simp at bA
  split at bA
  case isFalse=>simp at bA
  rename_i cg;simp only[ji]at cg;simp only[jb,jf]at bA;obtain⟨rfl,rfl⟩:=bA;have cB:=KQ bB iZ eb fJ (λ_ h=>h) jT tO dP (uo:=[]) rfl dV fL gN oH mb cF;have fe:∀x∈rawU ns sn,x.1∈ns:=λx hx=>(List.of_mem_zip hx).1
  obtain⟨γ',fI,AY,gn,dr⟩:=ω (h0:=w.heap.size) cB hR.grow (λk b g hb hg=>jQ (bB.box k b hb) hg) (λg hg=>hR.kw_new hg) (oJ ns sn KZ)
   (λx hx=>cR.free (aW.free (ka.1 cg.2 x.1 (fe x hx)))) (by
    exact List.Nodup.sublist (SY _ _) (xG cg.1))
  refine⟨S',γ',rfl,by rw[iW];exact fI,?_⟩;rw[gn,iW];exact SX dr
 split at bA
 .rename_i uo re;split at bA
  .rename_i mc un jU;split at bA
   .rename_i bd;have bd:=ύ aW bd
    have ei:∀(lu:Ups)(Sx Sy:aU),(lu=us\/lu=[])->Rel N np S0 w0 refs (σ.upd lu) a w Sx γ->dD Sx w Sy w'->(∀g o,Sy g o->Sx g o\/w.heap.size<=g\/g∈mvOf as zs)->(∀g o,Sy g o->g<w'.heap.size)->
      lk Sy w' as zs ret.outs->All2 (pL Sy w') ret.vals vs->
      ∃S' γ',Rel N np S0 w0 refs (σ.upd (lu++uo++un)) a w' S' γ'/\All2 (bM S' w' γ' (σ.upd (lu++uo++un)).bx) mc vs:=by
     intro lu Sx Sy tQ tR xM Dp xN vR Dq
     have tS:gD (σ.upd lu).bx γ as zs fs:=by
      rcases tQ with rfl|rfl
      .exact tO
      .exact db
     have cB:=KQ tR xM Dp xN (λ_ h=>h) jT tS dP re vR fL gN oH mb cF;obtain⟨kM,nV⟩:=tM tR tS re vR
     have rf:∀k b,((σ.upd lu).upd uo).bx k = .live b->∃b',(σ.upd lu).bx k = .live b':=by
      intro k b hb;by_cases hk:uo.any (λy=>y.1==k)=Ä
      .obtain⟨x,hx,he⟩:=yj.1 hk;have he:x.1=k:=by simpa using he
       subst he;obtain⟨b0,h0,_⟩:=nV x hx;exact⟨b0,h0⟩
      .rw[jR uo _ (qj.2 hk)]at hb;exact⟨b,hb⟩
     have nu:∀x∈un,((σ.upd lu).upd uo).bx x.1 = .free:=by
      intro x hx;have h0:=bd x hx
      have h1:(σ.upd lu).bx x.1 = .free:=by
       rcases tQ with rfl|rfl
       .exact cR.free h0
       .exact h0
      rw[jR uo,h1];rw[qu];intro y hy he;simp only[va]at he;obtain⟨b0,h2,_⟩:=nV y hy;rw[he,h1]at h2;simp at h2
     obtain⟨γ',fI,_,nr⟩:=SS cB jU Dq nu nt (λg hg=>by
      rcases ra g hg with nh|Ϗ
      .refine⟨⟨.inl (qc hR.grow nh),hR.kw_new nh⟩,λk b hb he=>?_⟩;obtain⟨b',aK⟩:=rf k b hb;have:=jQ (tR.box k b' aK) he;omega
      .obtain⟨f,hf,Gn,oI⟩:=vP tS Ϗ;obtain⟨bf,AZ⟩:=sG tS f hf;refine⟨⟨?_,tR.kw_live AZ oI⟩,λk b hb he=>?_⟩
       .rcases tR.own f.name bf g AZ oI with h|h
        .exact h
        .rw[jT f hf Gn]at h;simp at h
       .obtain⟨b',aK⟩:=rf k b hb
        have ϐ:k≠f.name:=by
         rintro rfl
         have Dr:=Gr re hf Gn;rw[vQ uo (σ.upd lu) (by rw[kM];exact dP) Dr]at hb;simp at hb
        exact tR.apart k f.name b' bf g ϐ aK AZ he oI)
     refine⟨Sy,γ',?_,?_⟩
     .rw[iW,iW];exact fI
     .rw[iW,iW];exact nr
    have cE:∃lu,(lu=us\/lu=[])/\lu=(if ret.vals.all RV.flat&&ret.outs.all Out.flat then [] else us)/\
      ∃S' γ',Rel N np S0 w0 refs (σ.upd (lu++uo++un)) a w' S' γ'/\All2 (bM S' w' γ' (σ.upd (lu++uo++un)).bx) mc vs:=by
     by_cases mf:(ret.vals.all RV.flat&&ret.outs.all Out.flat)=Ä
     .refine⟨[],.inr rfl,by rw[if_pos mf],?_⟩;obtain⟨nd,qL⟩:=Bool.and_eq_true_iff.1 mf;have fe:∀g o,S g o->S' g o:=λg o hs=>(iZ g o (cO g o hs).1).1
      refine ei [] S S (.inr rfl) hR (λg o hs=>⟨hs,(iZ g o (cO g o hs).1).2⟩) (λg o hs=> .inl hs) (λg o hs=>zb (hR.here g o hs) gN)
       (AW (S1:=S1) fe qL dV) (SU fe nd bI)
     .exact⟨us,.inl rfl,by rw[if_neg mf],ei us S1 S' (.inl rfl) bB iZ eb fJ dV bI⟩
    obtain⟨lu,_,tQ,S2,γ2,cB,vS⟩:=cE
    have hs:s=Cr mc/\u=(if ret.vals.all RV.flat&&ret.outs.all Out.flat then [] else us)++uo++un:=by
     clear vS ei cB jU;revert bA;match mc with
     |[c]=>simp only[jb,jf];rintro⟨rfl,rfl⟩;exact⟨rfl,rfl⟩
     |[]=>simp only[jb,jf];rintro⟨rfl,rfl⟩;exact⟨rfl,rfl⟩
     |c::c'::r=>simp only[jb,jf];rintro⟨rfl,rfl⟩;exact⟨rfl,rfl⟩
    obtain⟨rfl,rfl⟩:=hs;rw[<-tQ];exact⟨S2,γ2,rfl,cB,by rw[dZ];exact SX vS⟩
   .simp at bA
  .simp at bA
 .simp at bA
theorem Ds{P:À}{f:H}(hf:Fun P f){o:Oper}{cl:Call}(ho:o.op = .call cl){x:ü}(hc:cl.callee = .value x){cv:È G}(hx:a.eval x = .func (.func f) #[] cv) :
  (execOp a.eval o).run P w = .ok (.enter f (cl.args.map a.eval++cv)) w:=by
 obtain⟨fn,h1,h2,h3⟩:=hf;have kX:¬fn.body=none:=λhn=>by rw[hn]at h2;simp at h2
 have vT : ¬ fn.name = "runtime.NumGoroutine" := by simpa using h3
 simp[execOp,ho,resolve,hc,Deferred.ofValue,hx,invoke,callFunc,h1,kX,vT]
end
section
variable{N:NT}{np:H}{S0:aU}{w0:Â}{refs:Refs}{σ:St}{a:Ý}{w:Â}{S:aU}{γ:H->G}
def keyV:(k:Ty)->k.den->G
 |.int q,n=> .int q n
 |.str,s=> .string s
 |_,_=>undef
theorem A9:∀{k:Ty}{x:k.den}{u:G},k.isKey=Ä->(Rep S w k x [u]↔u=keyV k x)
 |.int q,x,u,_=>by simp[Rep,keyV]
 |.str,x,u,_=>by simp[Rep,keyV]
 |.bool,_,_,h=>by simp[Ty.isKey]at h
 |.unit,_,_,h=>by simp[Ty.isKey]at h
 |.wrap _,_,_,h=>by simp[Ty.isKey]at h
 |.pair _ _,_,_,h=>by simp[Ty.isKey]at h
 |.list _,_,_,h=>by simp[Ty.isKey]at h
 |.arr _ _,_,_,h=>by simp[Ty.isKey]at h
def keyD:Ty->TypeDesc
 |.int q=> .int q
 |_=> .string
theorem ϑ{P:À}{T:H->Á TyI}(hT:cI P T){n:H}{ti:TyI}(hn:T n=D ti){k:Ty}(bD:ti.ty=D k)(hk:k.isKey=Ä):P.underlying n=D (keyD k):=by
 cases k with
 |int q=>exact Kg hT hn bD
 |str=>exact Ko hT hn bD
 |_=>simp[Ty.isKey]at hk
theorem S9{k:Ty}(hk:k.isKey=Ä)(x:k.den):MapKept.IsKey (keyD k) (keyV k x):=by
 cases k with
 |int q=>rfl
 |str=>trivial
 |_=>simp[Ty.isKey]at hk
theorem K5{k:Ty}(hk:k.isKey=Ä)(x y:k.den):ó (keyD k) (keyV k x) (keyV k y)=D (@BEq.beq _ k.keq x y):=by
 cases k with
 |int q=>simp[keyD,keyV,ó]
 |str=>simp[keyD,keyV,ó]
 |_=>simp[Ty.isKey]at hk
theorem ϒ{k:Ty}(hk:k.isKey=Ä){x y:k.den}(h:@BEq.beq _ k.keq x y=Ä):x=y:=by
 cases k with
 |int q=>simpa[Ty.keq]using h
 |str=>exact(é x y).1 h
 |_=>simp[Ty.isKey]at hk
theorem Ta{k:Ty}(hk:k.isKey=Ä)(x:k.den):î 10000 (keyV k x) (keyV k x)=true:=by
 cases k with
 |int q=>simp[keyV,î]
 |str=>simp only[keyV,î];exact(é x x).2 rfl
 |_=>simp[Ty.isKey]at hk
def Dt(S:aU)(w:Â)(k v:Ty)(x:k.den×v.den)(e:ÿ):Prop:=Rep S w k x.1 [e.key]/\VRep S w ⟨v,x.2⟩ e.val
theorem K6{k v:Ty}(hk:k.isKey=Ä)(q:k.den):∀{xs:F (k.den×v.den)}{es:F ÿ},All2 (Dt S w k v) xs es->∀i:H,
  (@iS _ _ k.keq xs q=Ä/\∃j e,Ú (keyD k) (keyV k q) es i=D (D (i+j,e.val))/\es[j]? = D e/\e.key=keyV k q/\VRep S w ⟨v,@gS _ _ k.keq v.dflt xs q⟩ e.val/\
   ∀(z:v.den)(e':ÿ),e'.key=keyV k q->VRep S w ⟨v,z⟩ e'.val->All2 (Dt S w k v) (@iq _ _ k.keq xs q z) (es.set j e'))\/
  (@iS _ _ k.keq xs q=U/\Ú (keyD k) (keyV k q) es i=D M/\@gS _ _ k.keq v.dflt xs q=v.dflt/\∀z,@iq _ _ k.keq xs q z=xs++[(q,z)])
 |[],[],_,i=> .inr ⟨rfl,rfl,rfl,λ_=>rfl⟩
 |x::xs,e::es,h,i=>by
  have sH:e.key=keyV k x.1:=(A9 hk).1 h.1.1;have hs:=K5 hk q x.1;rw[<-sH]at hs;cases hb:@BEq.beq _ k.keq q x.1 with
  |true=>
   rw[hb]at hs;have ϓ:=ϒ hk hb;refine .inl ⟨by simp[iS,hb],0,e,by simp[Ú,hs],rfl,by rw[sH,ϓ],?_,λz e' h1 h2=>?_⟩
   .simp only[gS,hb,jc];exact h.1.2
   .simp only[iq,hb,jc,á];exact⟨⟨(A9 hk).2 h1,h2⟩,h.2⟩
  |false=>
   rw[hb]at hs;rcases K6 hk q h.2 (i+1) with⟨h1,j,e',h2,h3,h4,h5,h6⟩|⟨h1,h2,h3,h4⟩
   .refine .inl ⟨by simp only[iS,ä,hb,yp];exact h1,j+1,e',by simp only[Ú,hs,h2];congr 3;omega,by simpa using h3,h4,?_,λz e2 g1 g2=>?_⟩
    .simp only[gS,hb,jd];exact h5
    .simp only[iq,hb,jd,List.set_cons_succ];exact⟨h.1,h6 z e2 g1 g2⟩
   .refine .inr ⟨by simp only[iS,ä,hb,yp];exact h1,by simp only[Ú,hs,h2],?_,λz=>?_⟩
    .simp only[gS,hb,jd];exact h3
    .simp only[iq,hb,jd,h4 z];rfl
 |[],_::_,h,_=>h.elim
 |_::_,[],h,_=>h.elim
theorem Tb{k v:Ty}(hk:k.isKey=Ä){q:k.den}:∀{xs:F (k.den×v.den)}{es:F ÿ},All2 (Dt S w k v) xs es->@iS _ _ k.keq xs q=U->∀e∈es,e.key≠keyV k q
 |[],[],_,_=>af
 |x::xs,e::es,h,hn=>by
  simp only[iS,ä,ye]at hn;intro e' K7;rcases jl.1 K7 with rfl|K7
  .intro hq;have sH:=(A9 hk).1 h.1.1;have hs:=K5 hk q x.1;rw[<-sH,hq,K5 hk q q,hn.1]at hs;simp only[jb]at hs;have:=Ta hk q;cases k with
   |int z=>simp at hs
   |str=>have:=(é q q).2 rfl;exact absurd (hs.symm.trans this) af
   |_=>simp[Ty.isKey]at hk
  .exact Tb hk h.2 hn.2 e' K7
 |[],_::_,h,_=>h.elim
 |_::_,[],h,_=>h.elim
theorem Tc{P:À}{T:H->Á TyI}(hT:cI P T){t:H}{k v:Ty}(h:xc T t=D (k,v)) :
  ∃kt vt tv,P.underlying t=D (.map kt vt)/\P.underlying kt=D (keyD k)/\k.isKey=Ä/\T vt=D tv/\tv.ty=D v:=by
 unfold xc at h;split at h
 .rename_i ti AH;split at h
  .rename_i k0 v0 ϔ;split at h
   .rename_i tk tv Ba Bb;split at h
    .rename_i k1 v1 dm ϕ;split at h
     .rename_i mh;simp only[jb,jf]at h;obtain⟨rfl,rfl⟩:=h;exact⟨k0,v0,tv,r_ hT AH ϔ,ϑ hT Ba dm mh,mh,Bb,ϕ⟩
     .simp at h
    .simp at h
   .simp at h
  .simp at h
 .simp at h
theorem Td{rw:H->BS}(iY:RdR σ rw){t:H}{k v:Ty}{x y:Leaf}{b:H}{ys:F (k.den×v.den)}{q:k.den}(h:mapC rw t k v x y=D (b,ys,q)) :
  x = .ol b/\y = .d k q/\σ.bx b = .live (.lst (4294967296+t) (.pair k v) ys U):=by
 unfold mapC at h;split at h
 .rename_i b0 tk key;split at h
  .rename_i e a0 xs hb;split at h
   .rename_i he;split at h
    .rename_i JZ q' h1 h2;simp only[jb,jf]at h;obtain⟨rfl,rfl,rfl⟩:=h;have e1:=mJ h1;have e2:=mJ h2;cases e1;cases e2;subst he;exact⟨rfl,rfl,iY.live hb⟩
    .simp at h
   .simp at h
  .simp at h
 .simp at h
theorem Du(t:H):isM (4294967296+t)=true:=by
 unfold isM;rw[Nat.ble_eq];exact Nat.le_add_right _ _
theorem Te(hR:Rel N np S0 w0 refs σ a w S γ){b t:H}{k v:Ty}{ys:F (k.den×v.den)}{f:Ö}(hb:σ.bx b = .live (.lst (4294967296+t) (.pair k v) ys f)) :
  ∃g es clock,γ b = .map (D g)/\w.heap[g]? = D (.map es clock)/\All2 (Dt S w k v) ys es.toList/\Kb es clock:=by
 have h:=(hR.box b _ hb).1;rcases h with⟨hm,_⟩|⟨_,g,es,clock,h1,h2,h3,h4⟩
 .rw[Du]at hm;simp at hm
 .exact⟨g,es,clock,h1,h2,h3,h4⟩
theorem ϖ{P:À}{T:H->Á TyI}(hT:cI P T){n:H}{ti:TyI}(hn:T n=D ti){t:Ty}(bD:ti.ty=D t):∃z,(zeroValue n).run P w = .ok z w/\VRep S w ⟨t,t.dflt⟩ z:=by
 obtain⟨i,d,hi,hd,hs,_,ha,_,h⟩:=mI hT hn;obtain⟨_,⟨z,hz,hc⟩,hdo⟩:=h t bD;have Tf:=s_ hT hn hi hd;refine⟨z,by simp[zeroValue,typeInfo,hi,hz],?_,?_,?_⟩
 .rw[hc];exact pH t
 .intro hm;have:aggD d=true:=by cases d<;>cases t<;>simp_all[kU,jP,aggD,Ty.agg]
  simp only[zOk,hz]at Tf;cases z<;>simp_all
 .intro hm;have:aggD d=false:=by cases d<;>cases t<;>simp_all[kU,jP,aggD,Ty.agg]
  simp only[zOk,hz]at Tf;cases z<;>first|rfl|simp_all
theorem ϗ{P:À}{E:Env}(hT:cI P E.T)(hR:Rel N np S0 w0 refs σ a w S γ){rw:H->BS}(iY:RdR σ rw){t:H}{k v:Ty}(ht:xc E.T t=D (k,v)){x y:Leaf}{b:H}{ys:F (k.den×v.den)}{q:k.den}
  (h:mapC rw t k v x y=D (b,ys,q)){zx zy:G}(hx:bz S w γ σ.bx x zx)(hy:bz S w γ σ.bx y zy) :
  ∃z,VRep S w ⟨v,@gS _ _ k.keq v.dflt ys q⟩ z/\∀ok,(õ t zx zy ok).run P w = .ok (if ok then .tuple #[z,.bool (@iS _ _ k.keq ys q)] else z) w:=by
 obtain⟨kt,vt,tv,hQ,xO,mh,Bb,Dv⟩:=Tc hT ht;obtain⟨rfl,rfl,hb⟩:=Td iY h;obtain⟨g,es,clock,hg,hh,ha,_⟩:=Te hR hb;have K8:zx = .map (D g):=(hx.2.2 _ hb).trans hg;have K9:zy=keyV k q:=(A9 mh).1 hy;subst K8;subst K9;have vU:=ï (w:=w) xO (S9 mh q) es.isEmpty 9999;rcases K6 mh q ha 0 with⟨h1,j,e,h2,h3,h4,h5,h6⟩|⟨h1,h2,h3,h4⟩
 .refine⟨e.val,h5,λok=>?_⟩;have hf:=Ò (w:=w) xO h2;simp only[õ,J,run_underlying hQ,I,Í hh,Ã,vU,hf,h1]
 .obtain⟨z,hz,Ϙ⟩:=ϖ (S:=S) (w:=w) hT Bb Dv;refine⟨z,by rw[h3];exact Ϙ,λok=>?_⟩;have hf:=Ò (w:=w) xO h2;simp only[õ,J,run_underlying hQ,I,Í hh,Ã,vU,hf,h1,hz]
theorem ϙ(hR:Rel N np S0 w0 refs σ a w S γ){k:H}{b b':Bx}(hk:σ.bx k = .live b){g:H}(hg:blk (γ k)=D g)(hS:∀o,¬S g o)(nO:kH b b')
  {w':Â}(tT:∀i,i≠g->w'.heap[i]? = w.heap[i]?)(bT:w'.heap.size=w.heap.size)(oH:w'.os=w.os)(Gs:w'.tape=w.tape)(cF:w'.output=w.output)
  (hb:BxLe γ σ.bx γ (σ.setB k (.live b')).bx->dD S w S w'->eM S w' γ (σ.setB k (.live b')).bx k b') :
  Rel N np S0 w0 refs (σ.setB k (.live b')) a w' S γ:=by
 have hle:BxLe γ σ.bx γ (σ.setB k (.live b')).bx:=by
  intro k' bk;by_cases bO:k'=k
  .subst bO;rw[fm];exact⟨af,rfl,λb1 dG=>by simp at dG;subst dG;exact⟨b,hk,nO⟩⟩
  .rw[cu σ _ bO];exact⟨bk,rfl,λb hb=>⟨b,hb,.refl b⟩⟩
 have aO:dD S w S w':=by
  intro g' o h;refine⟨h,Ð (tT g' ?_)⟩
  rintro rfl
  exact hS o h
 have bN:∀k' b1,(σ.setB k (.live b')).bx k' = .live b1->∃b2,σ.bx k' = .live b2:=by
  intro k' b1 h1;by_cases bO:k'=k
  .subst bO;exact⟨b,hk⟩
  .rw[cu σ _ bO]at h1;exact⟨b1,h1⟩
 refine Rel.step (bx':=(σ.setB k (.live b')).bx) hR aO hle ?_ ?_ ?_ hR.new ?_ ?_ ?_ (oH.trans hR.os) (Gs.trans hR.tape) (cF.trans hR.output) (λg' _ _ h=>⟨tT g' (λe=>h k b hk (e▸hg)),λk' b1 h1=>by
  obtain⟨b2,h2⟩:=bN k' b1 h1;exact h k' b2 h2⟩)
 .intro k' b1 h1;by_cases bO:k'=k
  .subst bO;rw[fm]at h1;simp at h1;subst h1;exact hb hle aO
  .rw[cu σ _ bO]at h1;refine eM.keep aO hle rfl (λg' az=>⟨?_,λ_=>ã⟩) (hR.box k' b1 h1);exact tT g' (λh=>hR.apart k' k b1 b g bO h1 hk (h▸az) hg)
 .intro k' b1 g' h1 az;obtain⟨b2,h2⟩:=bN k' b1 h1;exact hR.own k' b2 g' h2 az
 .intro k1 k2 b1 b2 g' br h1 h2 az;obtain⟨tA,lX⟩:=bN k1 b1 h1;obtain⟨tB,kX⟩:=bN k2 b2 h2;exact hR.apart k1 k2 tA tB g' br lX kX az
 .intro g' o h;rw[bT];exact hR.here g' o h
 .intro g' az hr;rw[tT g' ?_]
  .exact hR.below g' az hr
  .rintro rfl
   rcases hR.own k b _ hk hg with h|h
   .exact h.no aa hr
   .exact hr h.1
 .rw[bT];exact hR.grow
theorem Ϛ{P:À}{E:Env}(hT:cI P E.T)(hR:Rel N np S0 w0 refs σ a w S γ){rw:H->BS}(iY:RdR σ rw){t:H}{k v:Ty}(ht:xc E.T t=D (k,v)){x y:Leaf}{b:H}{ys:F (k.den×v.den)}{q:k.den}
  (h:mapC rw t k v x y=D (b,ys,q)){zx zy zz:G}(hx:bz S w γ σ.bx x zx)(hy:bz S w γ σ.bx y zy){rdf:H->BS}(bn:RdF np σ rdf){c:Cel}{z:v.den}{u:Ups}(hd:px rdf v c=D (z,u))(hz:bM S w γ σ.bx c zz) :
  ∃w' S',(Ü t zx zy zz).run P w = .ok () w'/\Rel N np S0 w0 refs (σ.upd (u++[(b,.live (.lst (4294967296+t) (.pair k v) (@iq _ _ k.keq ys q z) U))])) a w' S' γ:=by
 obtain⟨kt,vt,tv,hQ,xO,mh,Bb,Dv⟩:=Tc hT ht;obtain⟨rfl,rfl,hb⟩:=Td iY h;obtain⟨fD,bI,_⟩:=CS bn hR.box hd hz;obtain⟨S1,bB,cO,gq,cR⟩:=na u σ S hR fD;have Dw:u.any (λy=>y.1==b)=false:=by rw[qu];intro y hy La;obtain⟨_,e,t',xs,f,h1,_,hm⟩:=fD y hy;rw[show y.1=b by simpa using La,hb]at h1;cases h1;rw[Du]at hm;simp at hm
 have dG:(σ.upd u).bx b = .live (.lst (4294967296+t) (.pair k v) ys U):=(jR u σ Dw).trans hb;obtain⟨g,es,clock,hg,hh,ha,hq⟩:=Te bB dG;have K8:zx = .map (D g):=(hx.2.2 _ hb).trans hg;have K9:zy=keyV k q:=(A9 mh).1 hy;subst K8;subst K9;have Tg:=bI S1 w cO gq;have sJ:blk (γ b)=D g:=by rw[hg];rfl
 have hS:∀o,¬S1 g o:=((bB.box b _ dG).2 g sJ).1 rfl;have vU:=ï (w:=w) xO (S9 mh q) U 9999
 have main:∃tU lv,(Ü t (.map (D g)) (keyV k q) zz).run P w = .ok () { w with heap:=w.heap.setIfInBounds g (.map tU lv) }/\All2 (Dt S1 w k v) (@iq _ _ k.keq ys q z) tU.toList/\Kb tU lv:=by
  rcases K6 mh q ha 0 with⟨h1,j,e,h2,h3,h4,h5,h6⟩|⟨h1,h2,h3,h4⟩
  .have hf:=Ò (w:=w) xO h2;rw[ko]at hf;refine⟨es.modify j λe=>{ e with key:=keyV k q,val:=zz },clock,?_,?_,MapKept.stamped_modify hq.1 j _ (λ_ _=>rfl) (λe1 _ xP=>?_),?_⟩
   .have rh:((es[j]?).map (·.key)).getD (keyV k q)=keyV k q:=by rw[show es[j]? = D e by simpa using h3];exact h4
    simp only[Ü,J,run_underlying hQ,I,Í hh,vU,hf,Instr.keyThatStays,rh,Ta mh q,if_true,Ã,ì _ hh]
   .have e1:(es.modify j λe=>{ e with key:=keyV k q,val:=zz }).toList=es.toList.set j { e with key:=keyV k q,val:=zz }:=by
     refine yb λi=>?_;rw[qr,í,List.getElem?_set];have vT:es[j]? = D e:=by simpa using h3
     by_cases ee:j=i
     .subst ee;simp only[if_true,vT,qa];rw[if_pos (by simpa using (jp.1 vT).1)]
     .simp[ee]
    rw[e1];exact h6 z _ rfl Tg
   .rw[show es[j]? = D e by simpa using h3]at xP;cases xP;exact h4.symm
   .rw[<-hq.2];refine yb λi=>?_;rw[qt,qt,qr,qr,í];split
    .rename_i ee;subst ee;cases es[j]? <;> rfl
    .rfl
  .have hf:=Ò (w:=w) xO h2;refine⟨es.push { key:=keyV k q,val:=zz,born:=clock },clock+1,?_,?_,MapKept.stamped_push hq.1 (Tb mh ha h1),by rw[ù,List.map_append,hq.2,ý];rfl⟩
   .simp only[Ü,J,run_underlying hQ,I,Í hh,vU,hf,ì _ hh]
   .rw[h4 z,ù];exact ha.append ⟨⟨(A9 mh).2 rfl,Tg⟩,trivial⟩
 obtain⟨tU,lv,aM,aw,C5⟩:=main;have au:g<w.heap.size:=(jp.1 hh).1;refine⟨_,S1,aM,?_⟩;rw[iW];refine ϙ bB dG sJ hS (b':= .lst (4294967296+t) (.pair k v) (@iq _ _ k.keq ys q z) U) ⟨rfl,rfl,λhm=>by rw[Du]at hm;simp at hm⟩ (λi hi=>by simp[Ne.symm hi]) af rfl rfl rfl λhle aO=>?_;refine⟨.inr ⟨Du t,g,tU,lv,hg,by simp[au],aw.mono λx e hx=>⟨Rep.keep aO _ _ _ hx.1,VRep.keep aO hx.2⟩,C5⟩,λg' az=>?_⟩;rw[sJ]at az;simp at az;subst az;exact⟨λ_=>hS,λh=>by simp at h⟩
theorem ϛ{P:À}(hR:Rel N np S0 w0 refs σ a w S γ){n t:H}{k v:Ty}(hn:σ.bx n = .free) :
  ∃γ',(Instr.makeMap t M).run P w = .ok (.map (D w.heap.size)) (w.alloc (.map #[] 0))/\Rel N np S0 w0 refs (σ.setB n (.live (.lst (4294967296+t) (.pair k v) [] U))) a (w.alloc (.map #[] 0)) S γ'/\
   bM S (w.alloc (.map #[] 0)) γ' (σ.setB n (.live (.lst (4294967296+t) (.pair k v) [] U))).bx (.one (.ol n)) (.map (D w.heap.size)):=by
 have Dw:=F8 hR hn (o:= .map #[] 0) (b:= .lst (4294967296+t) (.pair k v) [] U) (v:= .map (D w.heap.size)) (λg hg=>by simp[blk]at hg;exact hg.symm) (λhle=>by
  refine⟨.inr ⟨Du t,w.heap.size, #[],0,ew _ _ _,heap_alloc_new w _,trivial,MapKept.stamped_empty 0,rfl⟩,λg hg=>?_⟩;rw[ew]at hg;simp[blk]at hg;subst hg;exact⟨λ_ o ho=>by have:=hR.here _ o ho;omega,λh=>by simp at h⟩)
 refine⟨_,rfl,Dw.1,⟨?_,rfl,λb hb=>(ew _ _ _).symm⟩,λ_=>rfl⟩;rw[fm];simp
end
section
variable{N:NT}{np:H}{S0:aU}{w0:Â}{refs:Refs}{σ:St}{a:Ý}{w:Â}{S:aU}{γ:H->G}
theorem Ϝ{P:À}{E:Env}(hT:cI P E.T)(hR:Rel N np S0 w0 refs σ a w S γ){rdf:H->BS}(bn:RdF np σ rdf){t:Æ}{ti:TyI}(ht:E.T t=D ti)
  {m:H}{el:Ty}(bD:ti.ty=D (.arr m el)){ps:F (H×Cel)}{vs:È (H×G)}{xs:F el.den}{u:Ups}
  (gU:All2 (λp v=>p.1=v.1/\bM S w γ σ.bx p.2 v.2) ps vs.toList)(h:kF rdf el (O m el.dflt) [] ps=D (xs,u)) :
  ∃v S',(Ù t vs).run P w = .ok v w/\Rel N np S0 w0 refs (σ.upd u) a w S' γ/\bM S' w γ (σ.upd u).bx (.av m el xs) v:=by
 obtain⟨hQ,bU,te,cP,vV⟩:=AG hT ht bD;have bT:=lU hT cP vV;obtain⟨z,hz,gm⟩:=xl hT ht w bD;obtain⟨fD,eY⟩:=KB bn hR.box bU ps vs.toList gU h .nil;obtain⟨S1,bB,cO,gq,cR⟩:=na u σ S hR fD;obtain⟨Ss,css,aw,mf⟩:=pH (S:=S1) (w:=w) (.arr m el);obtain⟨bF,la,fH,ij,dx⟩:=eY S1 cO gq css z.cells aw (by rw[gm];exact mf)
 have hlen:∀(ps:F (H×Cel)){xs dg:F el.den}{u u':Ups},kF rdf el xs u ps=D (dg,u')->dg.length=xs.length:=by
  intro ps;induction ps with
  |nil=>intro xs dg u u' h;simp[kF]at h;rw[h.1]
  |cons p ps ih=>
   intro xs dg u u' h;obtain⟨i,c⟩:=p;simp only[kF]at h;split at h
   .split at h
    .rw[ih h];simp
    .simp at h
   .simp at h
 have nS:xs.length=m:=by rw[hlen ps h];simp
 refine⟨.agg bF,S1,?_,bB,bF,rfl,nS,la,ij,dx⟩;simp only[Ù,J,hz,I,run_underlying hQ,iV hT cP,<-bT,fH,Ã]
theorem ϝ{P:À}{E:Env}(hT:cI P E.T){bx:H->BS}{t:Æ}{ti:TyI}(ht:E.T t=D ti){m:H}{el:Ty}(bD:ti.ty=D (.arr m el)) :
  ∃v,(Ù t #[]).run P w = .ok v w/\bM S w γ bx (.st (nL (.arr m el))) v:=by
 obtain⟨hQ,bU,te,cP,vV⟩:=AG hT ht bD;obtain⟨z,hz,gm⟩:=xl hT ht w bD;refine⟨.agg z.cells,?_,z.cells,rfl,by rw[gm];exact vF (.arr m el),λu hu=>Gf gm u (by simpa using hu)⟩;simp only[Ù,J,hz,I,run_underlying hQ,iV hT cP];rfl
theorem Th{rd:H->BS}(aW:RdF np σ rd)(hB:vC S w γ σ.bx){el:Ty}:∀{ls:F Leaf}{xs:F el.den}{u:Ups}{zs:F G},sY rd el ls=D (xs,u)->All2 (bz S w γ σ.bx) ls zs->
  FrzL np σ.bx u/\∀S' w',dD S w S' w'->Froz σ.bx γ S' w' u->All2 (λx z=>Rep S' w' el x [z]) xs zs
 |[],xs,u,zs,h,ha=>by
  simp[sY]at h;obtain⟨rfl,rfl⟩:=h;cases zs with
  |nil=>exact⟨.nil,λ_ _ _ _=>trivial⟩
  |cons _ _=>exact ha.elim
 |l::ls,xs,u,zs,h,ha=>by
  cases zs with
  |nil=>exact ha.elim
  |cons z zs=>
   simp only[sY]at h;split at h
   .rename_i x u1 Gg u2 h1 h2;simp only[jb,jf]at h;obtain⟨rfl,rfl⟩:=h;obtain⟨f1,p1⟩:=vD aW hB h1 ha.1;obtain⟨f2,p2⟩:=Th aW hB h2 ha.2;exact⟨FrzL.app.2 ⟨f1,f2⟩,λS' w' hk hf=>⟨p1 S' w' hk (Froz.app.1 hf).1,p2 S' w' hk (Froz.app.1 hf).2⟩⟩
   .simp at h
theorem Ti{el:Ty}{S':aU}{w':Â}:∀{xs:F el.den}{zs:F G},All2 (λx z=>Rep S' w' el x [z]) xs zs->∃css,All2 (λx c=>Rep S' w' el x c) xs css/\zs=css.flatten
 |[],[],_=>⟨[],trivial,rfl⟩
 |x::xs,z::zs,h=>by
  obtain⟨css,h1,h2⟩:=Ti h.2;exact⟨[z]::css,⟨h.1,h1⟩,by simp[h2]⟩
 |[],_::_,h=>h.elim
 |_::_,[],h=>h.elim
theorem Ϟ{P:À}{E:Env}(hT:cI P E.T)(hR:Rel N np S0 w0 refs σ a w S γ){rd rdf:H->BS}(aW:RdOk σ rd)(bn:RdF np σ rdf){t:Æ}{ti:TyI}(ht:E.T t=D ti)
  {x:Leaf}{m:H}{el:Ty}{ls:F Leaf}{xs:F el.den}{u:Ups}{v:G}(h:sZ rd ti.ty x=D (m,el,ls))(hg:sY rdf el ls=D (xs,u))(hl:xs.length=m)(hx:bz S w γ σ.bx x v) :
  ∃z S',(Instr.loadAt t v).run P w = .ok z w/\Rel N np S0 w0 refs (σ.upd u) a w S' γ/\bM S' w γ (σ.upd u).bx (.av m el xs) z:=by
 unfold sZ at h;split at h
 .rename_i k;split at h
  .rename_i m' Ga bD;split at h
   .split at h
    .rename_i gf hk;simp only[jb,jf]at h;obtain⟨rfl,rfl,rfl⟩:=h;have hk:=aW.live hk;obtain⟨g,az,hu⟩:=hx.2.2 _ hk;obtain⟨g',cur,e,gC,hh,ha,h1,_⟩:=hR.box k _ hk;rw[az]at gC;simp at gC;subst gC;obtain⟨fD,eY⟩:=Th bn hR.box hg ha;obtain⟨S1,bB,cO,gq,cR⟩:=na u σ S hR fD;obtain⟨css,aw,dj⟩:=Ti (eY S1 w cO gq);have bI:Rep S1 w (.arr m' Ga) xs (cur.toList.take gf.length):=⟨hl,css,aw,dj⟩;obtain⟨Km,_,_⟩:=AG hT ht bD;have bT:(cur.toList.take gf.length).length=ti.size:=by have:=Rep.length _ _ _ bI;rw[lU hT ht bD]at this;exact this
     refine⟨.agg (cur.toList.take gf.length).toArray,S1,?_,bB,(cur.toList.take gf.length).toArray,rfl,by simpa using bI⟩;subst hu
     have Gt:=RY (w:=w) (g:=g) (o:=0) (cs:=cur.toList.take gf.length) (λj v hv=>by
      rw[ko,cell_of_row w g j cur e (0,0) hh];rw[za]at hv;split at hv
      .simpa using hv
      .simp at hv) P
     rw[bT]at Gt;have kW:(isAgg t).run P w = .ok Ä w:=by simp[isAgg,run_underlying Km]
     simp only[Instr.loadAt,J,Instr.sureAddr,Ã,I,loadVar,kW,if_true,iV hT ht,Gt]
    .simp at h
   .simp at h
  .simp at h
 .simp at h
def Slot.bare:Slot->Ö
 |.cnd _ _ _=>U
 |_=>Ä
theorem jps{fr:Ö}{e:H}{b:Ty}{n len:H}{ps:F (H×Cel)}{f:H}{args:F Arg}{mk:Ret->Á (Slot×Ups)}:one1 fr e b n len ps≠D (.call f args mk):=by
 unfold one1;split
 .split
  .split<;>simp
  .simp
 .simp
theorem Tj(cs:F Cel):(Cr cs).bare=true:=by
 unfold Cr;split<;>rfl
theorem Tk(hR:Rel N np S0 w0 refs σ a w S γ){act:F (H×Ö)}(bc:qH (tm a) act)(ps:F (H×ü)) :
  All2 (λp v=>p.1=v.1/\bM S w γ σ.bx p.2 v.2) (ps.map λp=>(p.1,(σ.ev p.2).cel act)) (ps.map λp=>(p.1,a.eval p.2)):=by
 induction ps with
 |nil=>trivial
 |cons p ps ih=>exact⟨⟨rfl,eE hR bc p.2⟩,ih⟩
theorem Gu(hR:Rel N np S0 w0 refs σ a w S γ){act:F (H×Ö)}(bc:qH (tm a) act)(ps:F ü) :
  All2 (bM S w γ σ.bx) (ps.map λp=>(σ.ev p).cel act) (ps.map a.eval):=by
 induction ps with
 |nil=>trivial
 |cons p ps ih=>exact⟨eE hR bc p,ih⟩
theorem xQ{rd:H->BS}(aW:RdOk σ rd):RdF np σ (λk=>if parK np k then .gone else rd k):=by
 refine⟨λk=>?_,λk e a xs f h=>?_⟩
 rotate_left
 .dsimp only at h
  split at h
  .simp at h
  .exact aW.2 k e a xs f h
 dsimp only
 split
 .exact .inr rfl
 .rename_i hp;rcases aW.1 k with h|h
  .exact .inl ⟨h,by simpa using hp⟩
  .exact .inr h
theorem vW{P:À}{o:Oper}{l:Leaf}{v:G}(hR:Rel N np S0 w0 refs σ a w S γ)(hr:(execOp a.eval o).run P w = .ok (.value v) w)
  (hs:bz S w γ σ.bx l v)(h1:One v):Kh P N np S0 w0 refs o σ a w S γ (.one (.one l)) []:=
 kV hR hr ⟨hs,λ_=>h1⟩
theorem xR{c:Cel}{l:Leaf}(h:lf c=l)(hd:l ≠ .dead):c = .one l:=by
 cases c with
 |one x=>simp[lf]at h;rw[h]
 |st ls=>simp[lf]at h;exact absurd h.symm hd
 |av n a xs=>simp[lf]at h;exact absurd h.symm hd
theorem Lb{P:À}{E:Env}(hT:cI P E.T)(hR:Rel N E.np S0 w0 refs σ a w S γ){act:F (H×Ö)}(bc:qH (tm a) act){rw:H->BS}(iY:RdR σ rw)
  {o:Oper}{s:Slot}{u:Ups}(h:dY E σ.ev rw act o=D (.val Ä s u)):Kh P N E.np S0 w0 refs o σ a w S γ s u/\s.bare=true:=by
 have aW:RdOk σ (mskM rw):=iY.msk;have bn:=xQ (np:=E.np) aW;have hex:∀op,o.op=op->execOp a.eval o=execOp a.eval { o with op:=op }:=λop h=>by subst h;rfl
 unfold dY at h;dsimp only at h;split at h
 ·-- move
  rename_i x bW;split at h
  .rename_i l hl;simp only[jb,Act.val.injEq]at h;obtain⟨_,rfl,rfl⟩:=h;have:=lV hR x;rw[hl]at this;exact⟨kV hR (v:=a.eval x) (by simp[execOp,bW]) this,rfl⟩
  .simp only[jb,Act.cel,Act.val.injEq]at h;obtain⟨_,rfl,rfl⟩:=h;exact⟨kV hR (v:=a.eval x) (by simp[execOp,bW]) (eE hR bc x),rfl⟩
 ·-- assign
  rename_i x bW;split at h
  .rename_i l hl;simp only[jb,Act.val.injEq]at h;obtain⟨_,rfl,rfl⟩:=h;have:=lV hR x;rw[hl]at this;exact⟨kV hR (v:=a.eval x) (by simp[execOp,bW]) this,rfl⟩
  .simp only[jb,Act.cel,Act.val.injEq]at h;obtain⟨_,rfl,rfl⟩:=h;exact⟨kV hR (v:=a.eval x) (by simp[execOp,bW]) (eE hR bc x),rfl⟩
 ·-- pick
  rename_i x y z bW;split at h
  .rename_i v hv;have hx:=eE hR bc x;have Lc:a.eval x = .bool v:=by have:=xR hv af;rw[this]at hx;exact sq hx
   have aM:(execOp a.eval o).run P w = .ok (.value (if v then a.eval y else a.eval z)) w:=by simp[execOp,bW,Lc,asBool]
   have hy:v=Ä->bM S w γ σ.bx ((σ.ev y).cel (FX x Ä act)) (a.eval y):=by
    intro tV;refine Ki ?_ (lV hR y);cases x with
    |tmp t=>
     intro g hg;rcases jl.1 hg with rfl|hg
     .simp only;rw[<-tV];exact Lc
     .exact bc g hg
    |_=>exact bc
   have hz:v=U->bM S w γ σ.bx ((σ.ev z).cel (FX x U act)) (a.eval z):=by
    intro tV;refine Ki ?_ (lV hR z);cases x with
    |tmp t=>
     intro g hg;rcases jl.1 hg with rfl|hg
     .simp only;rw[<-tV];exact Lc
     .exact bc g hg
    |_=>exact bc
   split at h
   .rename_i t p t' q hp hq;split at h
    .rename_i q' iX;simp only[jb,Act.leaf,Act.val.injEq]at h;obtain⟨_,rfl,rfl⟩:=h;have:=mJ iX;cases this;refine⟨kV hR aM ?_,rfl⟩;cases v with
     |true=>have:=hy rfl;rw[hp]at this;exact this
     |false=>have:=hz rfl;rw[hq]at this;exact this
    .simp at h
   .rename_i t p hp hq;simp only[jb,Act.val.injEq]at h;obtain⟨gn,rfl,rfl⟩:=h;have gn:v=true:=gn;subst gn;refine⟨kV hR aM ?_,rfl⟩;have:=hy rfl;rw[hp]at this;exact this
   .rename_i t q hp hq;simp only[jb,Act.val.injEq]at h;obtain⟨gn,rfl,rfl⟩:=h;have gn:v=false:=by simpa using gn
    subst gn;refine⟨kV hR aM ?_,rfl⟩;have:=hz rfl;rw[hq]at this;exact this
   .simp at h
  .simp at h
 ·-- alloc
  rename_i t bW;split at h
  .rename_i ti ht;split at h
   .rename_i bd;have hd:=aW.free bd;split at h
    .rename_i k el bD;split at h
     .simp only[jb,Act.val.injEq]at h;obtain⟨_,rfl,rfl⟩:=h;obtain⟨z,gm,hz⟩:=KA (w:=w) hT ht bD;obtain⟨dh,hc⟩:=Kr hR hd (ls:=nL (.arr k el)) (cur:=z.cells) (e:=t) (by rw[gm];exact vF (.arr k el)) (Gf gm);exact⟨⟨_,_,S,_,.inl (by simp[execOp,bW,hz]),dh,hc⟩,rfl⟩
     simp only[jb,Act.val.injEq]at h;obtain⟨_,rfl,rfl⟩:=h;obtain⟨z,gm,hz⟩:=KA (w:=w) hT ht bD;obtain⟨dh,hc⟩:=R4 hR hd (m:=k) (t:=el) (xs:=O k el.dflt) (cur:=z.cells) (e:=t) (by rw[gm];exact pH (.arr k el));exact⟨⟨_,_,S,_,.inl (by simp[execOp,bW,hz]),dh,hc⟩,rfl⟩
    .rename_i ty br bD;simp only[jb,Act.val.injEq]at h;obtain⟨_,rfl,rfl⟩:=h;obtain⟨z,gm,hz⟩:=KA (w:=w) hT ht bD;obtain⟨dh,hc⟩:=Kr hR hd (ls:=nL ty) (cur:=z.cells) (e:=t) (by rw[gm];exact vF ty) (Gf gm);exact⟨⟨_,_,S,_,.inl (by simp[execOp,bW,hz]),dh,hc⟩,rfl⟩
    .simp at h
   .simp at h
  .simp at h
 ·-- box
  rename_i t x bW;split at h
  .rename_i bd;have hd:=aW.free bd;have hx:=eE hR bc x;split at h
   .rename_i k el xs hc;simp only[jb,Act.val.injEq]at h;obtain⟨_,rfl,rfl⟩:=h;rw[hc]at hx;obtain⟨cs,hu,bI⟩:=hx;obtain⟨dh,gz⟩:=R4 hR hd (m:=k) (t:=el) (xs:=xs) (cur:=(a.eval x).cells) (e:=t) (by rw[hu];exact bI);exact⟨⟨_,_,S,_,.inl (by simp[execOp,bW,Si]),dh,gz⟩,rfl⟩
   .split at h
    .rename_i ls Dd;simp only[jb,Act.val.injEq]at h;obtain⟨_,rfl,rfl⟩:=h;obtain⟨hl,h1⟩:=xq Dd hx;obtain⟨dh,gz⟩:=Kr hR hd (ls:=ls) (cur:=(a.eval x).cells) (e:=t) hl h1;exact⟨⟨_,_,S,_,.inl (by simp[execOp,bW,Si]),dh,gz⟩,rfl⟩
    .simp at h
  .simp at h
 ·-- build
  rename_i t ps bW;have gU:=Tk hR bc ps.toList;have ri:All2 (λp v=>p.1=v.1/\bM S w γ σ.bx p.2 v.2) (ps.toList.map λp=>(p.1,(σ.ev p.2).cel act)) (ps.map λp=>(p.1,a.eval p.2)).toList:=by simpa using gU
  split at h
  .rename_i ti ht;split at h
   .rename_i k el bD;split at h
    .rename_i Gv;simp only[jb,Act.cel,Act.val.injEq]at h;obtain⟨_,rfl,rfl⟩:=h;obtain⟨v,aM,hc⟩:=ϝ (w:=w) (S:=S) (γ:=γ) (bx:=σ.bx) hT ht bD;have nW:ps = #[]:=by simp only[ji,List.isEmpty_iff]at Gv;exact zq.1 Gv.2
     subst nW;exact⟨kV hR (v:=v) (by simp[execOp,bW,aM]) hc,rfl⟩
    split at h
    .rename_i xs u' hb;simp only[jb,Act.val.injEq]at h;obtain⟨_,rfl,rfl⟩:=h;obtain⟨v,S',aM,dh,hc⟩:=Ϝ hT hR bn ht bD ri hb;exact⟨⟨v,w,S',γ,.inl (by simp[execOp,bW,aM]),dh,hc⟩,rfl⟩
    .simp at h
   .rename_i ty br bD;split at h
    .rename_i mY;split at h
     .rename_i ls hb;simp only[jb,Act.cel,Act.val.injEq]at h;obtain⟨_,rfl,rfl⟩:=h;obtain⟨v,aM,hc⟩:=Κ hT ht bD mY ri hb;exact⟨kV hR (v:=v) (by simp[execOp,bW,aM]) hc,rfl⟩
     .simp at h
    .simp at h
   .simp at h
  .simp at h
 ·-- buildSlice
  rename_i t len ps bW;have gU:=Tk hR bc ps.toList;have ri:All2 (λp v=>p.1=v.1/\bM S w γ σ.bx p.2 v.2) (ps.toList.map λp=>(p.1,(σ.ev p.2).cel act)) (ps.map λp=>(p.1,a.eval p.2)).toList:=by simpa using gU
  split at h
  .rename_i ti ht;split at h
   .rename_i el bD;split at h
    .obtain⟨_,rfl,v',w',γ',aM,dh,hc⟩:=π hT hR ht bD aW.free ri h;exact⟨⟨v',w',S,γ',.inl (by simp[execOp,bW,aM]),dh,hc⟩,rfl⟩
    split at h
    .simp at h
    .rename_i hlen;split at h
     .rename_i xs u' hb;split at h
      .rename_i bd;simp only[jb,Act.val.injEq]at h;obtain⟨_,rfl,rfl⟩:=h;obtain⟨v',w',S',γ',aM,dh,hc⟩:=ο hT hR bn ht bD aa ri hb (aW.free bd);exact⟨⟨v',w',S',γ',.inl (by simp[execOp,bW,aM]),dh,hc⟩,rfl⟩
      .simp at h
     .simp at h
   .simp at h
  .simp at h
 ·-- load
  rename_i t x bW;split at h
  .rename_i ti ht;split at h
   .rename_i m el ls rj;split at h
    .rename_i xs u' hg;split at h
     .rename_i hlen;simp only[jb,Act.val.injEq]at h;obtain⟨_,rfl,rfl⟩:=h;obtain⟨z,S',hz,dh,ie⟩:=Ϟ hT hR aW bn ht rj hg hlen (ic (eE hR bc x));exact⟨⟨z,w,S',γ,.inl (by simp[execOp,bW,hz]),dh,ie⟩,rfl⟩
     .simp at h
    .simp at h
   unfold oCel at h;split at h
   .rename_i c hc;simp only[jb,Act.cel,Act.val.injEq]at h;obtain⟨_,rfl,rfl⟩:=h;obtain⟨z,hz,ie⟩:=R0 hT hR aW ht hc (ic (eE hR bc x));exact⟨kV hR (v:=z) (by simp[execOp,bW,hz]) ie,rfl⟩
   .simp at h
  .simp at h
 ·-- store
  rename_i t x y bW;split at h
  .rename_i ti ht;split at h
   .rename_i u' hu;simp only[jb,Act.val.injEq]at h;obtain⟨_,rfl,rfl⟩:=h;obtain⟨w',S',aM,dh⟩:=Z_ hT hR aW bn ht hu (ic (eE hR bc x)) (eE hR bc y);exact⟨⟨undef,w',S',γ,.inr ⟨by simp[execOp,bW,aM],rfl⟩,dh,⟨trivial,λh=>absurd rfl h⟩⟩,rfl⟩
   .simp at h
  .simp at h
 ·-- nilCheck
  rename_i x bW;have hx:=eE hR bc x;split at h
  .rename_i k p hl;split at h
   .rename_i fM;simp only[jb,Act.leaf,Act.val.injEq]at h;obtain⟨_,rfl,rfl⟩:=h;rw[xR hl af]at hx;obtain⟨b,hb⟩:=CP fM;obtain⟨g,_,hu⟩:=hx.1.2.2 b (aW.live hb);exact⟨kV hR (v:=a.eval x) (by simp[execOp,bW,hu]) hx,rfl⟩
   .simp at h
  .rename_i k i p hl;split at h
   .rename_i fM;simp only[jb,Act.leaf,Act.val.injEq]at h;obtain⟨_,rfl,rfl⟩:=h;rw[xR hl af]at hx;obtain⟨b,hb⟩:=CP fM;have h3:=hx.1.2.2 b (aW.live hb)
    have hu:∃g o,a.eval x = .pointer (D ⟨g,o,M⟩):=by
     cases b with
     |cell ls f=>exact h3.elim
     |lst e t xs f=>obtain⟨_,_,g,cap,_,hu⟩:=h3;exact⟨_,_,hu⟩
     |arr n t xs=>obtain⟨_,g,_,hu⟩:=h3;exact⟨_,_,hu⟩
     |row e t n ls=>obtain⟨_,_,g,cap,_,hu⟩:=h3;exact⟨_,_,hu⟩
    obtain⟨g,ϟ,hu⟩:=hu;exact⟨kV hR (v:=a.eval x) (by simp[execOp,bW,hu]) hx,rfl⟩
   .simp at h
  .rename_i ls hl;simp only[jb,Act.leaf,Act.val.injEq]at h;obtain⟨_,rfl,rfl⟩:=h;rw[xR hl af]at hx;obtain⟨g,ϟ,cs,hu,_⟩:=hx.1;exact⟨kV hR (v:=a.eval x) (by simp[execOp,bW,hu]) hx,rfl⟩
  .simp at h
 ·-- binOp
  rename_i op t x y rest bW;unfold oChk at h;split at h
  .rename_i b c hc;simp only[jb,Act.val.injEq]at h;obtain⟨rfl,rfl,rfl⟩:=h;obtain⟨z,hz,hl,h1⟩:=A_ (x:=x) (y:=y) hT hc (eE hR bc x) (eE hR bc y);refine⟨vW hR ?_ hl h1,rfl⟩;simp only[execOp,bW];rw[J,hz];rfl
  .simp at h
 ·-- unOp
  rename_i op t x bW;unfold mW at h;split at h
  .rename_i c hc;simp only[jb,Act.leaf,Act.val.injEq]at h;obtain⟨_,rfl,rfl⟩:=h;obtain⟨z,hz,hl,h1⟩:=B_ hc (eE hR bc x);refine⟨vW hR ?_ hl h1,rfl⟩;simp only[execOp,bW];rw[J,hz];rfl
  .simp at h
 ·-- convert
  rename_i src dst x bW;split at h
  .rename_i ts ti nv ht;split at h
   .rename_i k v k0 k' hl Ld bD;simp only[jb,Act.leaf,Act.val.injEq]at h;obtain⟨_,rfl,rfl⟩:=h;have hx:=eE hR bc x;rw[xR hl af]at hx;have hu:=tx hx;have hQ:=Kg hT ht bD;refine⟨vW hR (v:= .int k' (k'.wrap v)) ?_ rfl rfl,rfl⟩;have Dx:=Kg hT nv Ld;simp only[execOp,bW];rw[J];have:(convert src dst (a.eval x)).run P w = .ok (.int k' (k'.wrap v)) w:=by simp only[hu,convert,J,run_underlying Dx,run_underlying hQ,I];simp[Conv.intToInt]
    rw[this];rfl
   .simp at h
  .simp at h
 ·-- makeFunc
  rename_i f first caps bW
  split at h
  .rename_i jA;split at h
   .split at h
    .rename_i ks hl;simp only[jb,Act.val.injEq]at h;obtain⟨_,rfl,rfl⟩:=h;have cS:=Gu hR bc caps.toList;have mi:first = #[]:=by simpa using jA
     refine⟨⟨.func (.func f) #[] (caps.map a.eval),w,S,γ,.inl ?_,hR,⟨⟨_,rfl,by
      have:=Sz hl cS;rw[<-Array.toList_map]at this;exact this⟩,λ_=>rfl⟩⟩,rfl⟩
     simp[execOp,bW,mi,Instr.makeFunc]
    .simp at h
   split at h
   .rename_i l u' hl;simp only[jb,Act.val.injEq]at h;obtain⟨_,rfl,rfl⟩:=h;have cS:=Gu hR bc caps.toList;obtain⟨S',dh,_,dO,_⟩:=Sw bn hl hR cS;have mi:first = #[]:=by simpa using jA
    refine⟨⟨.func (.func f) #[] (caps.map a.eval),w,S',γ,.inl ?_,dh,⟨⟨_,rfl,by simpa using dO⟩,λ_=>rfl⟩⟩,rfl⟩;simp[execOp,bW,mi,Instr.makeFunc]
   .simp at h
  .simp at h
 ·-- fieldAddr
  rename_i t x i bW;split at h
  .rename_i ti ht;unfold mW at h;split at h
   .rename_i c hc;simp only[jb,Act.leaf,Act.val.injEq]at h;obtain⟨_,rfl,rfl⟩:=h;obtain⟨z,hz,hl,h1⟩:=K_ hT aW ht hc (ic (eE hR bc x));exact⟨vW hR (by simp[execOp,bW,hz]) hl h1,rfl⟩
   .simp at h
  .simp at h
 ·-- field
  rename_i t x i bW;split at h
  .rename_i ti ht;split at h
   .rename_i ls f hc hf;split at h
    .rename_i tf qG;unfold oCel at h;split at h
     .rename_i c bA;simp only[jb,Act.cel,Act.val.injEq]at h;obtain⟨_,rfl,rfl⟩:=h;have hx:=eE hR bc x;rw[hc]at hx;obtain⟨cs,hu,aw,h1⟩:=hx;obtain⟨fs,hQ,fl,fD,kP,Dy,tf',Ϡ,bU⟩:=RN hT ht hf;rw[<-Dy]at qG;have ij:=(aw.drop fl.offset).take tf.size;have lX:∀u∈(cs.toList.drop fl.offset).take tf.size,One u:=λu dT=>h1 u (zp (qn dT));rw[<-kP]at bA
      have qJ:∃z,(part fl.type cs fl.offset).run P w = .ok z w/\bM S w γ σ.bx c z:=by
       unfold sj at bA;split at bA
       .rename_i kW;split at bA
        .rename_i hlen;simp only[jb]at bA;subst bA;refine⟨.agg (cs.extract fl.offset (fl.offset+tf.size)),?_,_,rfl,?_,?_⟩
         .simp only[part,J,AF hT qG,kW,I,if_true,iV hT qG,Ã]
         .have:(cs.extract fl.offset (fl.offset+tf.size)).toList=(cs.toList.drop fl.offset).take tf.size:=by simp[List.take_drop]
          rw[this];exact ij
         .have:(cs.extract fl.offset (fl.offset+tf.size)).toList=(cs.toList.drop fl.offset).take tf.size:=by simp[List.take_drop]
          rw[this];exact lX
        .simp at bA
       .rename_i kW;split at bA
        .rename_i l' nX;simp only[jb]at bA;subst bA;rw[nX]at ij;cases hq:(cs.toList.drop fl.offset).take tf.size with
         |nil=>rw[hq]at ij;exact ij.elim
         |cons z zs=>
          rw[hq]at ij lX
          have hz:cs[fl.offset]? = D z:=by
           have:((cs.toList.drop fl.offset).take tf.size)[0]? = D z:=by rw[hq];rfl
           have:=CO this;simpa using this
          refine⟨z,?_,ij.1,λ_=>lX z af⟩;simp only[part,J,AF hT qG,I,if_neg kW,hz,Ã]
        .simp at bA
      obtain⟨z,hz,ie⟩:=qJ;refine⟨kV hR (v:=z) ?_ ie,rfl⟩;simp only[execOp,bW,hu];rw[J];have:(Instr.field t (.agg cs) i).run P w = .ok z w:=by simp only[Instr.field,J,run_underlying hQ,I,fD,asAgg,Ã,hz]
      rw[this];rfl
     .simp at h
    .simp at h
   .simp at h
  .simp at h
 ·-- indexAddr
  rename_i t x i bW;split at h
  .rename_i ti ht;unfold oChk at h;split at h
   .rename_i b c hc;simp only[jb,Act.val.injEq]at h;obtain⟨rfl,rfl,rfl⟩:=h;obtain⟨z,hz,hl,h1⟩:=L_ hT hR aW ht hc (ic (eE hR bc x)) (ic (eE hR bc i));exact⟨vW hR (by simp[execOp,bW,hz]) hl h1,rfl⟩
   .simp at h
  .simp at h
 ·-- index
  rename_i t x i bW;split at h
  .rename_i ti ht;split at h
   .rename_i b c hc;simp only[jb,Act.val.injEq]at h;obtain⟨rfl,rfl,rfl⟩:=h;obtain⟨z,hz,ie⟩:=N_ hT ht hc (eE hR bc x) (ic (eE hR bc i));exact⟨kV hR (v:=z) (by simp[execOp,bW,hz]) ie,rfl⟩
   .simp at h
  .simp at h
 ·-- makeMap
  rename_i t bW;split at h
  .rename_i k v ht;split at h
   .rename_i gH;simp only[jb,Act.val.injEq]at h;obtain⟨_,rfl,rfl⟩:=h;obtain⟨γ',aM,dh,gz⟩:=ϛ (P:=P) (t:=t) (k:=k) (v:=v) hR (aW.free gH);exact⟨⟨_,_,S,γ',.inl (by simp[execOp,bW,aM]),dh,gz⟩,rfl⟩
   .simp at h
  .simp at h
 ·-- lookup
  rename_i t x i ok bW;split at h
  .rename_i k v ht;split at h
   .rename_i b ys q hm;obtain⟨z,hz,aM⟩:=ϗ hT hR iY ht hm (ic (eE hR bc x)) (ic (eE hR bc i));split at h
    .simp only[jb,Act.val.injEq]at h;obtain⟨_,rfl,rfl⟩:=h;have hr:=aM Ä;simp only[if_true]at hr;refine⟨kV hR (v:= .tuple #[z,.bool (@iS _ _ k.keq ys q)]) (by simp[execOp,bW,hr]) ?_,rfl⟩;exact⟨_,rfl,AU hz,⟨rfl,λ_=>rfl⟩,trivial⟩
    .simp only[jb,Act.cel,Act.val.injEq]at h;obtain⟨_,rfl,rfl⟩:=h;have hr:=aM U;simp only[qd,zi]at hr;exact⟨kV hR (v:=z) (by simp[execOp,bW,hr]) (AU hz),rfl⟩
   .simp at h
  .simp at h
 ·-- mapUpdate
  rename_i t x i y bW;split at h
  .rename_i k v ht;split at h
   .rename_i b ys q z u' hm hd;simp only[jb,Act.val.injEq]at h;obtain⟨_,rfl,rfl⟩:=h;obtain⟨w',S',aM,dh⟩:=Ϛ hT hR iY ht hm (ic (eE hR bc x)) (ic (eE hR bc i)) bn hd (eE hR bc y);exact⟨⟨undef,w',S',γ,.inr ⟨by simp[execOp,bW,aM],rfl⟩,dh,⟨trivial,λh=>absurd rfl h⟩⟩,rfl⟩
   .simp at h
  .simp at h
 ·-- extract
  rename_i x i bW;split at h
  .rename_i l hl;split at h
   .rename_i c hc;simp only[jb,Act.cel,Act.val.injEq]at h;obtain⟨_,rfl,rfl⟩:=h;have hx:=lV hR x;rw[hl]at hx;obtain⟨vs,hu,aw⟩:=hx;obtain⟨z,hz,ie⟩:=aw.get i c hc;refine⟨kV hR (v:=z) ?_ ie,rfl⟩;have Le:vs[i]? = D z:=by simpa using hz
    simp[execOp,bW,hu,Instr.extract,Le]
   .simp at h
  .simp at h
 ·-- call
  rename_i cl bW;have cS:=Gu hR bc cl.args.toList;split at h
  ·-- len
   rename_i cA;split at h
   .rename_i x t fX nv;split at h
    .rename_i ti ht;unfold mW at h;split at h
     .rename_i c hc;simp only[jb,Act.leaf,Act.val.injEq]at h;obtain⟨_,rfl,rfl⟩:=h;obtain⟨z,hz,hl,h1⟩:=P_ (ty:=o.type) hT hR aW ht hc (ic (eE hR bc x));have e1:cl.args = #[x]:=by apply qf;simpa using fX
      have e2:cl.argTypes = #[t]:=by apply qf;simpa using nv
      refine⟨vW hR (v:=z) ?_ hl h1,rfl⟩;simp[execOp,bW,resolve,cA,invoke,builtin,e1,e2,hz]
     .simp at h
    .simp at h
   .simp at h
  ·-- min
   rename_i cA;unfold mW at h;split at h
   .rename_i c hc;simp only[jb,Act.leaf,Act.val.injEq]at h;obtain⟨_,rfl,rfl⟩:=h;obtain⟨z,hz,hl,h1⟩:=C_ (P:=P) (ts:=cl.argTypes) (ty:=o.type) hc cS;refine⟨vW hR (v:=z) ?_ hl h1,rfl⟩;have e1:cl.args.map a.eval=(cl.args.toList.map a.eval).toArray:=by apply qf;simp
    simp[execOp,bW,resolve,cA,invoke,builtin,e1,hz]
   .simp at h
  ·-- max
   rename_i cA;unfold mW at h;split at h
   .rename_i c hc;simp only[jb,Act.leaf,Act.val.injEq]at h;obtain⟨_,rfl,rfl⟩:=h;obtain⟨z,hz,hl,h1⟩:=D_ (P:=P) (ts:=cl.argTypes) (ty:=o.type) hc cS;refine⟨vW hR (v:=z) ?_ hl h1,rfl⟩;have e1:cl.args.map a.eval=(cl.args.toList.map a.eval).toArray:=by apply qf;simp
    simp[execOp,bW,resolve,cA,invoke,builtin,e1,hz]
   .simp at h
  ·-- append
   rename_i cA;split at h
   .rename_i t t' s' x nv fX;split at h
    .rename_i rk;subst rk;split at h
     .rename_i ti ht;split at h
      .rename_i el bD;split at h
       .rename_i b' v' u' hh;simp only[jb,Act.val.injEq]at h;obtain⟨rfl,rfl,rfl⟩:=h;obtain⟨z,w',aM,dh,hl,h1⟩:=Ψ (ty:=o.type) hT hR aW ht bD hh (ic (eE hR bc s')) (ic (eE hR bc x));have e1:cl.args = #[s',x]:=by apply qf;simpa using fX
        have e2:cl.argTypes = #[t,t]:=by apply qf;simpa using nv
        refine⟨⟨z,w',S,γ,.inl ?_,dh,hl,λ_=>h1⟩,rfl⟩;simp[execOp,bW,resolve,cA,invoke,builtin,e1,e2,aM]
       split at h
       .rename_i v' u' hh;simp only[jb,Act.val.injEq]at h;obtain⟨_,rfl,rfl⟩:=h;obtain⟨z,w',γ',aM,dh,hl,h1⟩:=ζ (ty:=o.type) hT hR aW bn ht bD hh (ic (eE hR bc s')) (ic (eE hR bc x));have e1:cl.args = #[s',x]:=by apply qf;simpa using fX
        have e2:cl.argTypes = #[t,t]:=by apply qf;simpa using nv
        refine⟨⟨z,w',S,γ',.inl ?_,dh,hl,λ_=>h1⟩,rfl⟩;simp[execOp,bW,resolve,cA,invoke,builtin,e1,e2,aM]
       split at h
       .rename_i xs frz u' ys hs hx;split at h
        .rename_i bd;simp only[jb,Act.val.injEq,jr]at h;obtain⟨eI,rfl,rfl⟩:=h;obtain⟨v',w',S',γ',aM,dh,gz⟩:=Ζ (ty:=o.type) hT hR aW bn ht bD hs hx (aW.free bd) eI (ic (eE hR bc s')) (ic (eE hR bc x));have e1:cl.args = #[s',x]:=by apply qf;simpa using fX
         have e2:cl.argTypes = #[t,t]:=by apply qf;simpa using nv
         refine⟨⟨v',w',S',γ',.inl ?_,dh,gz⟩,rfl⟩;simp[execOp,bW,resolve,cA,invoke,builtin,e1,e2,aM]
        .simp at h
       .simp at h
      .simp at h
     .simp at h
    .simp at h
   .simp at h
  ·-- value
   split at h
   .split at h
    .split at h
     .simp at h
     .simp at h
    .simp at h
   .split at h
    .split at h
     .simp at h
     .simp at h
    .simp at h
   .simp at h
  ·-- copy
   rename_i cA;split at h
   .rename_i t t' x y nv fX;split at h
    .rename_i rk;subst rk;split at h
     .rename_i ti ht;split at h
      .rename_i c u' hc;simp only[jb,Act.val.injEq]at h;obtain⟨_,rfl,rfl⟩:=h;obtain⟨v',w',aM,dh,gz⟩:=Υ (ty:=o.type) hT hR aW ht hc (ic (eE hR bc x)) (ic (eE hR bc y));have e1:cl.args = #[x,y]:=by apply qf;simpa using fX
       have e2:cl.argTypes = #[t,t]:=by apply qf;simpa using nv
       refine⟨⟨v',w',S,γ,.inl ?_,dh,gz⟩,rfl⟩;simp[execOp,bW,resolve,cA,invoke,builtin,e1,e2,aM]
      .simp at h
     .simp at h
    .simp at h
   .simp at h
  ·-- clear
   rename_i cA;split at h
   .rename_i t x nv fX;split at h
    .rename_i ti ht;split at h
     .rename_i u' hc;simp only[jb,Act.val.injEq]at h;obtain⟨_,rfl,rfl⟩:=h;obtain⟨v',w',aM,dh⟩:=Φ (ty:=o.type) hT hR aW ht hc (ic (eE hR bc x));have e1:cl.args = #[x]:=by apply qf;simpa using fX
      have e2:cl.argTypes = #[t]:=by apply qf;simpa using nv
      refine⟨⟨v',w',S,γ,.inl ?_,dh,⟨trivial,λh=>absurd rfl h⟩⟩,rfl⟩;simp[execOp,bW,resolve,cA,invoke,builtin,e1,e2,aM]
     .simp at h
    .simp at h
   .simp at h
  .simp at h
 ·-- slice
  rename_i t x lo hi bW;split at h
  .rename_i ti ht;split at h
   .rename_i b c u' hc;simp only[jb,Act.val.injEq]at h;obtain⟨rfl,rfl,rfl⟩:=h
    have ho:∀y:Á ü,ORep (bz S w γ σ.bx) (y.map λx=>lf ((σ.ev x).cel act)) (y.map a.eval):=by
     intro y;cases y with
     |none=>trivial
     |some y=>exact ic (eE hR bc y)
    obtain⟨v',S',γ',aM,dh,gz⟩:=Ξ hT hR aW ht (λk hk=>aW.free hk) hc (ic (eE hR bc x)) (ho lo) (ho hi);refine⟨⟨v',w,S',γ',.inl ?_,dh,gz⟩,rfl⟩;simp[execOp,bW,aM]
   .simp at h
  .simp at h
 ·-- slice with a capacity
  rename_i t x lo hi mx bW;split at h
  .rename_i ti ht;split at h
   .rename_i b hc;simp only[jb,Act.val.injEq]at h;obtain⟨rfl,rfl,rfl⟩:=h
    have ho:∀y:Á ü,ORep (bz S w γ σ.bx) (y.map λx=>lf ((σ.ev x).cel act)) (y.map a.eval):=by
     intro y;cases y with
     |none=>trivial
     |some y=>exact ic (eE hR bc y)
    obtain⟨v',aM⟩:=Τ hT hR aW ht hc (ic (eE hR bc x)) (ho lo) (ho hi) (ic (eE hR bc mx));refine⟨⟨v',w,S,γ,.inl ?_,hR,⟨trivial,λh=>absurd rfl h⟩⟩,rfl⟩;simp[execOp,bW,aM]
   .simp at h
  .simp at h
 .simp at h
theorem Tl{P:À}{E:Env}(hR:Rel N E.np S0 w0 refs σ a w S γ){act:F (H×Ö)}(bc:qH (tm a) act){rw:H->BS}(iY:RdR σ rw)
  {o:Oper}{f:H}{args:F Arg}{mk:Ret->Á (Slot×Ups)}(h:dY E σ.ev rw act o=D (.call f args mk))(hf:Fun P f){K:Ret->Prop}(dU:Gm P f args K) :
  ∃vals,(execOp a.eval o).run P w = .ok (.enter f vals) w/\
   (Calls P f vals w λe w'=>∃ret,K ret/\∀s u,mk ret=D (s,u)->∃v S' γ',e = .returned v/\Rel N E.np S0 w0 refs (σ.upd u) a w' S' γ'/\iH S' w' γ' (σ.upd u).bx (tm a) s v)/\
   ∀ret s u,mk ret=D (s,u)->s.bare=true:=by
 have aW:RdOk σ (mskM rw):=iY.msk;have bn:=xQ (np:=E.np) aW;unfold dY at h;dsimp only at h;split at h
 case h_23 cl bW=>
  have cS:=Gu hR bc cl.args.toList;split at h
  case h_5 x cA=>
   split at h
   .rename_i g caps hl;split at h
    .rename_i as us fs has;split at h
     .rename_i bJ;simp only[jb,Act.call.injEq]at h;obtain⟨rfl,rfl,rfl⟩:=h;have hx:=eE hR bc x;rw[xR hl af]at hx;obtain⟨cv,hu,ln⟩:=hx.1;refine⟨_,Ds hf bW cA hu,?_,?_⟩
      .have:=S8 hR iY aW bn has cS bJ ln dU ((o.dst.getD 0)*64+E.off);have e1:(cl.args.toList.map a.eval++cv.toList).toArray=cl.args.map a.eval++cv:=by apply qf;simp
       rwa[e1]at this
      .intro ret s u bA;unfold td at bA;split at bA
       .unfold mkHd at bA;split at bA
        .split at bA
         .split at bA
          .simp only[jb,jf]at bA;rw[<-bA.1];rfl
          .simp at bA
         .simp at bA
        .simp at bA
       .unfold Cs at bA;split at bA
        .split at bA
         .simp only[jb,jf]at bA;rw[<-bA.1];exact Tj _
         .simp at bA
        .simp at bA
       split at bA
       .split at bA
        .split at bA
         .revert bA;dsimp only;split<;>(intro bA;simp only[jb,jf]at bA;rw[<-bA.1];rfl)
         .simp at bA
        .simp at bA
       .simp at bA
     .simp at h
    .simp at h
   .rename_i g ks hl;split at h
    .rename_i as us fs has;split at h
     .rename_i bJ;simp only[jb,Act.call.injEq]at h;obtain⟨rfl,rfl,rfl⟩:=h;have hx:=eE hR bc x;rw[xR hl af]at hx;obtain⟨cv,hu,ln⟩:=hx.1;refine⟨_,Ds hf bW cA hu,?_,?_⟩
      .have:=S8 hR iY aW bn has (cS.append (SC ln)) bJ (caps:=[]) (cv:=[]) trivial (by simpa using dU) ((o.dst.getD 0)*64+E.off);have e1:((cl.args.toList.map a.eval++cv.toList)++[]).toArray=cl.args.map a.eval++cv:=by apply qf;simp
       rwa[e1]at this
      .intro ret s u bA;unfold td at bA;split at bA
       .unfold mkHd at bA;split at bA
        .split at bA
         .split at bA
          .simp only[jb,jf]at bA;rw[<-bA.1];rfl
          .simp at bA
         .simp at bA
        .simp at bA
       .unfold Cs at bA;split at bA
        .split at bA
         .simp only[jb,jf]at bA;rw[<-bA.1];exact Tj _
         .simp at bA
        .simp at bA
       split at bA
       .split at bA
        .split at bA
         .revert bA;dsimp only;split<;>(intro bA;simp only[jb,jf]at bA;rw[<-bA.1];rfl)
         .simp at bA
        .simp at bA
       .simp at bA
     .simp at h
    .simp at h
   .simp at h
  all_goals (first|(simp at h;done)|skip)
  all_goals (exfalso;revert h;try simp only[mW])
  all_goals (repeat' split)
  all_goals simp[Act.leaf]
 all_goals (first|(simp at h;done)|skip)
 all_goals (repeat' (first|(simp at h;done)|(exact absurd h jps)|split at h))<;>simp_all[mW,oCel,oChk,Act.leaf,Act.cel]
 all_goals (repeat' (split at h))<;>simp_all
end
end Go.Lft
