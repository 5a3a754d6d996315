/- ProposeFills: Cover and Fill. -/
import Derived.Test.YtgepoeafaklbjaaGreatPFPK
import Derived.Test.YtgepoeafaklbjaaGreatPFPJ
import Derived.Test.YtgepoeafaklbjaaGreatPFPI
import Derived.Test.YtgepoeafaklbjaaGreatPFPH
open _root_ renaming Int->j,List->o,ByteArray->D,Nat->F
open Int renaming ofNat->w
open Option renaming some->z,getD_some->W
open Bool renaming not_true->A,false->R
open List renaming nil_append->B,length_singleton->E,getElem_mem->H,length_map->I,drop_zero->J,map_cons->N,getD->U
open Go Go.Lft
namespace Go.Proofs.Pw
def Fl:SL->SL->o j1D->o j1D->Prop
 |[],L,es,es'=>L=[]/\es'=es
 |u::G,L,es,es'=>(∃L',L=u::L'/\Fl G L' es es')\/∃k:F,Fl G L (es++[((1:j),(k:j),(0:j),u.1,u.2)]) es'
theorem jA8{p q:j}(hq:q<=p):∀{l:SL},StS p l->StS q l
 |[],_=>trivial
 |u::l,h=>⟨by have:=h.1;omega,h.2⟩
theorem jA9{f:j->j}{b v:j}:∀{S:SgL}{q:Option j}{a:j},Cov f b q a S->StS (if q=z v then a else a-1) (tmP v S)
 |[],q,a,_=>trivial
 |s::r,q,a,h=>by
  obtain⟨h1,h2,h3,_,h5⟩:=h;have ih:=jA9 (v:=v) h5;by_cases hv:s.2.2=v
  .have e:tmP v (s::r)=(s.1,s.2.1)::tmP v r:=by unfold tmP;rw[List.filter_cons_of_pos (by simp[hv]),N]
   rw[e,if_neg (λhq=>h3 (by rw[hq,hv]))];rw[if_pos (by rw[hv])]at ih;exact⟨by dsimp only;omega,by dsimp only;omega,ih⟩
  .have e:tmP v (s::r)=tmP v r:=by unfold tmP;rw[List.filter_cons_of_neg (by simp[hv])]
   rw[e];rw[if_neg (by simp[hv])]at ih;refine jA8 ?_ ih;split<;>omega
theorem Fl.sem{zs:o j0D}{cs:o CalT}{nm:D}{ls:o j0b}:∀{G L:SL}{es es':o j1D}{p:j},StS p G->Fl G L es es'->
  StS p L/\(∀t,inS t L->inS t G)/\(∀t,¬inS t G\/inS t L->whoS zs cs (nm,ls,es') t=whoS zs cs (nm,ls,es) t)/\∀t,inS t G->¬inS t L->0<=whoS zs cs (nm,ls,es') t
 |[],L,es,es',p,_,h=>by
  obtain⟨rfl,rfl⟩:=h;exact⟨trivial,λ_ h=>h,λ_ _=>rfl,λ_ h=>absurd h j33⟩
 |u::G,L,es,es',p,hG,h=>by
  obtain⟨g1,g2,g3⟩:=hG
  have hdj:∀t,u.1<=t->t<u.2->¬inS t G:=λt _ t2 hx=>by
   have:=g3.low hx;omega
  rcases h with⟨L',rfl,h⟩|⟨k,h⟩
  .obtain⟨i1,i2,i3,i4⟩:=Fl.sem (zs:=zs) (cs:=cs) (nm:=nm) (ls:=ls) g3 h;refine⟨⟨g1,g2,i1⟩,λt ht=>?_,λt ht=>?_,λt h1 h2=>?_⟩
   .exact j0a.2 ((j0a.1 ht).imp id (i2 t))
   .rcases ht with ht|ht
    .exact i3 t (.inl λhx=>ht (j0a.2 (.inr hx)))
    .rcases j0a.1 ht with⟨t1,t2⟩|ht
     .exact i3 t (.inl (hdj t t1 t2))
     .exact i3 t (.inr ht)
   .rcases j0a.1 h1 with ht|ht
    .exact absurd (j0a.2 (.inl ht)) h2
    .exact i4 t ht λhx=>h2 (j0a.2 (.inr hx))
  .obtain⟨i1,i2,i3,i4⟩:=Fl.sem (zs:=zs) (cs:=cs) (nm:=nm) (ls:=ls) g3 h
   have hin:∀t,u.1<=t->t<u.2->whoS zs cs (nm,ls,es++[((1:j),(k:j),(0:j),u.1,u.2)]) t=(k:j):=λt t1 t2=>by
    rw[jsn (.inl (show (1:j)≠0 by decide))];unfold jhf;dsimp only;rw[if_neg omg_,if_pos rfl]
   have hout:∀t,¬(u.1<=t/\t<u.2)->whoS zs cs (nm,ls,es++[((1:j),(k:j),(0:j),u.1,u.2)]) t=whoS zs cs (nm,ls,es) t:=λt ht=>by
    rw[jsn (.inl (show (1:j)≠0 by decide))];exact jwO (by dsimp only;omega)
   refine⟨jA8 omg_ i1,λt ht=>j0a.2 (.inr (i2 t ht)),λt ht=>?_,λt h1 h2=>?_⟩
   .rcases ht with ht|ht
    .rw[i3 t (.inl λhx=>ht (j0a.2 (.inr hx))),hout t λhx=>ht (j0a.2 (.inl hx))]
    .rw[i3 t (.inr ht),hout t λhx=>hdj t hx.1 hx.2 (i2 t ht)]
   .rcases j0a.1 h1 with⟨t1,t2⟩|ht
    .rw[i3 t (.inl (hdj t t1 t2)),hin t t1 t2];omega
    .exact i4 t ht h2
section
variable{zs:o j0D}{ps:o j0h}{cs:o CalT}(hs:SOk2 zs ps cs)
include hs
theorem jsz{nm:D}{ls:o j0b}{es:o j1D}(hc:j6O (zs,ps,cs,[(nm,ls,es)]))(hll:ls.length<=3){a b:j}(ha:1766016000<=a)(hab:a<b)(hb:b<=1771200000)(hlen:b-a<=172800) :
  ∃Y:CnL,j3V (zs,ps,cs,[(nm,ls,es)]) 0 a b 0 []=z (Y.map (·.1),0)/\∀x∈Y,es.length<=47/\∃k:F,k<ps.length/\x.1=(k:j):=by
 have hp1:=hs.so.p1;have hel:es.length<=48:=(hc.sc (nm,ls,es) smp_).el
 obtain⟨M,hM⟩:∃M:F->Bool,∀i:F,i<ps.length->j5k (zs,ps,cs,[(nm,ls,es)]) 0 (i:j) a b=z (M i)/\(M i=true->es.length<=47):=
  ⟨λi=>(j5k (zs,ps,cs,[(nm,ls,es)]) 0 (i:j) a b).getD R,λi hi=>by
   obtain⟨m,e,h⟩:=jDq hs hc hll hi ha hab hb hlen;simp only[e,W];exact⟨trivial,h⟩⟩
 obtain⟨S,L,e1,hS,lL,hw⟩:=jwZ hs hc (s:=(nm,ls,es)) hll hel (a:=a-2419200) (b:=a) omg_ omg_ omg_ omg_;have l0:=jBF (λi hi=>(hM i hi).1) omg_ (show L.length<=100000 by omega) ps.length 0 [] omg_ smp_;rw[B]at l0;have hcl:=jxp (M:=M) (L:=L) ps.length 0
 obtain⟨Y,e3,pY,_⟩:=jz1 (l:=cnL M L 0 ps.length) omg_ (λx hx=>by
  obtain⟨k,_,k2,rfl,_⟩:=jro hx;have h1:=hS.ch.tot_le (p:=(k:j));have h2:=hw (k:j) omg_;dsimp only;omega)
 have hYl:=pY.length_eq;have l2:=jA7 (Y:=Y) omg_ Y.length 0 [] omg_ rfl;rw[B,J]at l2;refine⟨Y,?_,λx hx=>?_⟩
 .simp only[j3V,jed,show j1R (zs,ps,cs,[(nm,ls,es)])=z 0 from jez hc,j4,bne_self_eq_false,j7,j8D,E]
  rw[j00 (show (0:j)>=0 by omega),j00 (show (0:j)<w 1 by decide),j01 (show¬a<0 by omega),j01 (show¬a>=b by omega),j01 (show¬b>8589934592 by omega),j05 (x:=b-a),j01 (show¬b-a>2419200 by omega),
   j05 (x:=a-2419200),if_pos (show a-2419200>0 by omega)]
  simp only[j6,j7,A,bne_self_eq_false,j4];rw[show jdJ (zs,ps,cs,[(nm,ls,es)]) 0 (a-2419200) a 0 []=_ from e1];simp only[j4,bne_self_eq_false,j7];rw[show j53 0 a b (w ps.length) 0 zs ps cs [(nm,ls,es)] L []=_ from l0];simp only[j4,e3];rw[show j54 (w Y.length) 0 [] Y=_ from l2];rfl
 .obtain⟨k,_,k2,rfl,k4⟩:=jro (pY.mem_iff.1 hx);exact⟨(hM k omg_).2 k4,k,omg_,rfl⟩
theorem jz2{nm:D}{ls:o j0b}{es:o j1D}(hc:j6O (zs,ps,cs,[(nm,ls,es)]))(hll:ls.length<=3){a b:j}(ha:1766016000<=a)(hab:a<b)(hb:b<=1771200000)(hlen:b-a<=172800) :
  (∃c k e,j7L (zs,ps,cs,[(nm,ls,es)]) 0 a b 0 []=z (c,k,e)/\e≠0)\/
   ∃k:F,j6O (zs,ps,cs,[(nm,ls,es++[((1:j),(k:j),(0:j),a,b)])])/\
    j7L (zs,ps,cs,[(nm,ls,es)]) 0 a b 0 []=z ((zs,ps,cs,[(nm,ls,es++[((1:j),(k:j),(0:j),a,b)])]),(k:j),0):=by
 obtain⟨Y,e1,hY⟩:=jsz hs hc hll ha hab hb hlen;simp only[j7L];rw[e1];simp only[j4,bne_self_eq_false,j7];cases Y with
 |nil=>exact .inl ⟨_,_,_,rfl,by decide⟩
 |cons y r=>obtain⟨h47,k,hk,ek⟩:=hY y smp_;obtain⟨hc',e2⟩:=jpM hs hc h47 hk ha hab hb;refine .inr ⟨k,hc',?_⟩;simp only[N,List.length_cons,List.getD_cons_zero,I,ek];rw[show (w (r.length+1)==0)=R from j1G (by show¬((r.length+1:F):j)=0;omega),j0X (show (0:j)<=0 by omega) (show (0:j)<((r.length+1:F):j) by omega)];simp only[j7,j6];rw[e2];rfl
theorem jrp{nm:D}{ls:o j0b}(hll:ls.length<=3){G:SL}(hG:∀u∈G,1766016000<=u.1/\u.1<u.2/\u.2<=1771200000/\u.2-u.1<=172800)(hl:G.length<=4096):∀(n i:F)(es:o j1D)(acc:SL),i+n=G.length->acc.length<=i->j6O (zs,ps,cs,[(nm,ls,es)])->
  ∃es' L,j9q 0 0 [] (G.length:j) (i:j) zs ps cs [(nm,ls,es)] acc G=z (zs,ps,cs,[(nm,ls,es')],acc++L)/\j6O (zs,ps,cs,[(nm,ls,es')])/\Fl (G.drop i) L es es'
 |0,i,es,acc,hi,_,hc=>by
  refine⟨es,[],?_,hc,by rw[List.drop_of_length_le omg_];exact⟨rfl,rfl⟩⟩;rw[jcV];simp only[j4f];rw[j01 omg_,j7,j06,List.append_nil]
 |n+1,i,es,acc,hi,ha,hc=>by
  have hlt:i<G.length:=omg_;have hgd:G.getD i (0,0)=G[i]:=by simp[U,hlt]
  obtain⟨u1,u2,u3,u4⟩:=hG _ (H hlt);rw[jcV,List.drop_eq_getElem_cons hlt];simp only[j4f];rw[j00 (show (i:j)<(G.length:j) by omega),j0X (show (0:j)<=(i:j) by omega) omg_,j05 (x:=(i:j)+1)];simp only[j6,j8,hgd];rcases jz2 hs hc hll u1 u2 u3 u4 with⟨c,k,e,e1,he⟩|⟨k,hc',e1⟩
  .obtain⟨es',L,e2,h2,h3⟩:=jrp hll hG hl n (i+1) es (acc++[(G[i].1,G[i].2)]) omg_ sqo_ hc;rw[show ((i+1:F):j)=(i:j)+1 by omega,List.append_assoc]at e2;refine⟨es',G[i]::L,?_,h2,.inl ⟨L,rfl,h3⟩⟩;rw[e1];simp only[j4,show (e != 0)=true from bne_iff_ne.2 he,j6,E];rw[j00 (show acc.length+1<=j02 by simp[j02];omega),j6,j03];exact e2
  .obtain⟨es',L,e2,h2,h3⟩:=jrp hll hG hl n (i+1) _ acc omg_ omg_ hc';rw[show ((i+1:F):j)=(i:j)+1 by omega]at e2;refine⟨es',L,?_,h2,.inr ⟨k,h3⟩⟩;rw[e1];simp only[j4,bne_self_eq_false,j7,j03];exact e2
theorem jpN{nm:D}{ls:o j0b}{es:o j1D}(hc:j6O (zs,ps,cs,[(nm,ls,es)]))(hll:ls.length<=3){a b:j}(ha:0<=a)(hab:a<b)(hb:b<=8589934592)(hlen:b-a<=2592000) :
  ∃T,jhZ (zs,ps,cs,[(nm,ls,es)]) 0 a b=z (T,0)/\StS (a-1) T/\(∀t,inS t T↔a<=t/\t<b/\whoS zs cs (nm,ls,es) t = -1)/\T.length<=2499/\∀u∈T,a<=u.1/\u.1<u.2/\u.2<=b:=by
 have hk:=hc.sc (nm,ls,es) smp_;obtain⟨S,_,hS,lS⟩:=joa hs hk hll hk.el (ss:=[(nm,ls,es)]) ha hab hb hlen;have e:=jtY hs hc (i:=0) smp_ ha (Int.le_of_lt hab) hb hlen (S:=S) hS omg_ (-1);have hst:StS (a-1) (tmP (-1) S):=jA9 (q:=none) hS;refine⟨tmP (-1) S,?_,hst,λt=>jpJ (v:= -1) hS,?_,λu hu=>?_⟩
 .simp only[jhZ];rw[show jfB (zs,ps,cs,[(nm,ls,es)]) 0 (-1) a b=_ from e];rfl
 .have:=List.length_filter_le (λx:SgT=>x.2.2 == -1) S;unfold tmP;rw[I];omega
 .have h1:=hst.mem u hu;have h2:=(jpJ (v:= -1) hS (x:=u.1)).1 ⟨u,hu,Int.le_refl _,h1.2⟩;have h3:=(jpJ (v:= -1) hS (x:=u.2-1)).1 ⟨u,hu,omg_,omg_⟩;omega
end
theorem jAa{n f t:j}{zs zs':o j0D}{ps ps':o j0h}{cs cs':o CalT}{ss ss':o j0r}{G L:SL}(hl:L.length<=100000):∀(d i:F),i+d=L.length->
  j3O n f t (L.length:j) (i:j) zs ps cs ss zs' ps' cs' ss' L G L=z (.inr (n,f,t,zs,ps,cs,ss,zs',ps',cs',ss',G))
 |0,i,hi=>by
  rw[j8U];simp only[j21];rw[j01 omg_,j7,j06]
 |d+1,i,hi=>by
  have ih:=jAa (n:=n) (f:=f) (t:=t) (zs:=zs) (ps:=ps) (cs:=cs) (ss:=ss) (zs':=zs') (ps':=ps') (cs':=cs') (ss':=ss') (G:=G) hl d (i+1) omg_;rw[show ((i+1:F):j)=(i:j)+1 by omega]at ih;rw[j8U];simp only[j21];rw[j00 (show (i:j)<(L.length:j) by omega),j0X (show (0:j)<=(i:j) by omega) omg_,j05 (x:=(i:j)+1)];simp only[j6,beq_self_eq_true,Bool.and_self,A,j7,j03];exact ih
theorem jAb{zs zs':o j0D}{ps ps':o j0h}{cs cs':o CalT}{ss ss':o j0r}{G:SL}{xs:o j}(hx:xs.length=3)
  (h:∀y∈xs,∃b,jiT G y=z b/\(b=R->∃v,jaY (zs',ps',cs',ss') 0 y=z v/\jaY (zs,ps,cs,ss) 0 y=z v)):∀(d i:F),i+d=3->
  j5g xs (i:j) zs ps cs ss zs' ps' cs' ss' G=z (.inr ())
 |0,i,hi=>by
  rw[j8V];simp only[j22];rw[j01 omg_,j7,j06]
 |d+1,i,hi=>by
  have ih:=jAb hx h d (i+1) omg_;have hlt:i<xs.length:=omg_;have hgd:xs.getD i (0:j)=xs[i]:=by simp[U,hlt]
  obtain⟨b,e1,hb⟩:=h _ (H hlt);rw[show ((i+1:F):j)=(i:j)+1 by omega]at ih;rw[j8V];simp only[j22];rw[j00 (show (i:j)<3 by omega),j0X (show (0:j)<=(i:j) by omega) (show (i:j)<((3:F):j) by omega),j05 (x:=(i:j)+1)];simp only[j6,j8,hgd,e1,j4];cases b with
  |true=>rw[A,j7,j03];exact ih
  |false=>obtain⟨v,e2,e3⟩:=hb rfl;rw[Bool.not_false,j6,e2];simp only[j4];rw[e3];simp only[j4,bne_self_eq_false,j7,j03];exact ih
theorem jjd(t:o j)(_h:Wf (.list (.int .i64)) t)(n:j)(_h1:Wf (.int .i64) n):j9C t n=z true:=by
 simp only[j9C,jiJ,j4,show w (List.length t)=(t.length:j) from rfl];by_cases hl:(t.length:j)<=500
 case neg=>rw[j01 hl];simp[jxq]
 rw[j00 hl];simp only[A,j7,jl0,j4];obtain⟨zs,ps,cs,nm,ls,es,a1,e1,hs,hc,hll,hel,d1⟩:=jBm (L:=t) (a:=0) ⟨omg_,omg_,omg_⟩;obtain⟨f,a2,e2,f0,f1,d2⟩:=jmM d1;obtain⟨Y,e3,_⟩:=jsz hs hc hll (a:=f) (b:=f+172800) omg_ omg_ omg_ omg_;obtain⟨G,e4,sG,iG,lG,bG⟩:=jpN hs hc hll (a:=f) (b:=f+172800) omg_ omg_ omg_ omg_;obtain⟨G',e5,sG',iG',_,_⟩:=jBq hs hc (i:=0) smp_ hll (Nat.le_trans hel omg_) (a:=f) (b:=f+172800) omg_ omg_ omg_ omg_;obtain rfl:G'=G:=jo6 sG' sG λx=>(iG' x).trans (iG x).symm;obtain⟨es',L,e6,hc',hF⟩:=jrp hs hll (G:=G') (λu hu=>by have:=bG u hu;omega) omg_ G'.length 0 es [] omg_ smp_ hc;rw[B]at e6;rw[J]at hF;obtain⟨s1,s2,s3,s4⟩:=hF.sem (zs:=zs) (cs:=cs) (nm:=nm) (ls:=ls) sG;obtain⟨T,e7,sT,iT,lT,_⟩:=jpN hs hc' hll (a:=f) (b:=f+172800) omg_ omg_ omg_ omg_
 obtain rfl:T=L:=jo6 sT s1 λx=>by
  rw[iT x];constructor
  .rintro⟨x1,x2,x3⟩
   apply Classical.byContradiction;intro hx;by_cases hg:inS x G'
   .have:=s4 x hg hx;omega
   .rw[s3 x (.inl hg)]at x3;exact hg ((iG x).2 ⟨x1,x2,x3⟩)
  .intro hx;have hg:=(iG x).1 (s2 x hx);exact⟨hg.1,hg.2.1,(s3 x (.inr hx)).trans hg.2.2⟩
 have l0:=jAa (n:=n) (f:=f) (t:=f+172800) (zs:=zs) (ps:=ps) (cs:=cs) (ss:=[(nm,ls,es)]) (zs':=zs) (ps':=ps) (cs':=cs) (ss':=[(nm,ls,es')]) (G:=G') (L:=T) omg_ T.length 0 omg_;have hm:0<=n%172800/\n%172800<172800:=⟨Int.emod_nonneg _ omg_,Int.emod_lt_of_pos _ omg_⟩
 have hW:∀y,f-1<=y->y<=f+172800->∃b,jiT G' y=z b/\(b=R->∃v,jaY (zs,ps,cs,[(nm,ls,es')]) 0 y=z v/\jaY (zs,ps,cs,[(nm,ls,es)]) 0 y=z v):=λy y1 y2=>by
  obtain⟨b,eb,hb⟩:=jB9 sG omg_ omg_ (λu hu=>by have:=bG u hu;omega) y;refine⟨b,eb,λh=>⟨_,jzO hs hc' (i:=0) smp_ (t:=y) omg_ omg_,?_⟩⟩;rw[show jaY (zs,ps,cs,[(nm,ls,es)]) 0 y=_ from jzO hs hc (i:=0) smp_ (t:=y) omg_ omg_];have:¬inS y G':=λhx=>by rw[hb.2 hx]at h;exact absurd h (by decide)
  exact congrArg z (s3 y (.inl this)).symm
 have l2:=jAb (zs:=zs) (ps:=ps) (cs:=cs) (ss:=[(nm,ls,es)]) (zs':=zs) (ps':=ps) (cs':=cs) (ss':=[(nm,ls,es')]) (G:=G') (xs:=[f+n%172800,f-1,f+172800]) rfl (λy hy=>by
  simp only[List.mem_cons,List.not_mem_nil,or_false]at hy;rcases hy with rfl|rfl|rfl
  .exact hW _ omg_ omg_
  .exact hW _ omg_ omg_
  .exact hW _ omg_ omg_) 3 0 omg_
 simp only[e1,e2,j4];rw[j05 (x:=f+172800)];simp only[jcW];rw[e3];simp only[j4,bne_self_eq_false,j7];rw[show j9p (zs,ps,cs,[(nm,ls,es)]) 0 f (f+172800)=_ from e5];simp only[j4,bne_self_eq_false,j7,jsl (jwK hc)];rw[show j9q 0 0 [] (w G'.length) 0 zs ps cs [(nm,ls,es)] [] G'=_ from e6];simp only[j4];rw[e4];simp only[j4];rw[e7];simp only[j4,bne_self_eq_false,j7];rw[show j3O n f (f+172800) (w T.length) 0 zs ps cs [(nm,ls,es)] zs ps cs [(nm,ls,es')] T G' T=_ from l0];simp only[j4,j4j];rw[show f+172800-f=172800 by omega,j05 (x:=172800),jCa n 172800 omg_ omg_];simp only[j4];rw[j05 (x:=f+n%172800),j05 (x:=f-1)];rw[show j5g [f+n%172800,f-1,f+172800] 0 zs ps cs [(nm,ls,es)] zs ps cs [(nm,ls,es')] G'=_ from l2];simp only[j4,j4j,jxq]
end Go.Proofs.Pw
