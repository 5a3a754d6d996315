/- eP 14 for any sV: times of a TL. -/
import Derived.Test.YtmccfdihkphfaaaGreatREPS
import Derived.Test.YtmccfdihkphfaaaGreatREPR
import Derived.Test.YtmccfdihkphfaaaGreatREPA
import Derived.Test.YtmccfdihkphfaaaGreatRELD
open _root_ renaming Int->d,List->z,Nat->E
open Int renaming ofNat->o
open List renaming replicate->B,drop_of_length_le->F,getD->G
open Option renaming some->D
open Go Go.Lft
namespace Go.Proofs.Pw
theorem TM{p:d}{S:bM}(hl:S.length<=16384):∀(n j:E)(acc:SL),j+n=S.length->acc.length<=j->IZ p S (S.length:d) (j:d) acc=D (acc++iH p (S.drop j))
 |0,j,acc,hj,_=>by
  rw[Yc];simp only[j39];rw[an aa,j7,aW,F aa];simp[iH]
 |n+1,j,acc,hj,ha=>by
  have aq:j<S.length:=aa;have bc:S.getD j ((0:d),((0:d),(0:d)))=S[j]:=by simp[G,aq]
  rw[Yc,jb aq];simp only[j39];rw[ag aa,bE,ar (x:=(j:d)+1)];simp only[j6,j8,bc];by_cases hv:S[j].2.2=p
  .have e:iH p (S[j]::S.drop (j+1))=(S[j].1,S[j].2.1)::iH p (S.drop (j+1)):=by unfold iH;rw[yf (by simp[hv]),kj]
   rw[dI hv,j6,ag (by simp[aG];omega),j6,aS,e];have ih:=TM (p:=p) hl n (j+1) (acc++[(S[j].1,S[j].2.1)]) aa az;rw[jg]at ih;exact ih
  .have e:iH p (S[j]::S.drop (j+1))=iH p (S.drop (j+1)):=by unfold iH;rw[vc (by simp[hv])]
   rw[cG hv,j7,aS,e];exact TM hl n (j+1) acc aa aa
theorem jEV(p:d)(S:bM):(iH p S).length<=S.length:=by
 unfold iH;rw[kc];exact zo _ _
theorem jGW{f:d->d}{a b:d}{S:bM}(h:fJ f b none a S)(hl:S.length<=16384)(ha:0<=a)(hb:b<=8589934592)(p:d):jaW S p=D (iH p S):=by
 have l0:=TM (p:=p) hl S.length 0 [] aa ae;rw[show ((0:E):d)=0 from rfl,jw,jk]at l0
 have hm:∀s∈iH p S,a<=s.1/\s.1<s.2/\s.2<=b:=λs hs=>by
  obtain⟨x,hx,rfl⟩:=jx.1 hs;have hx:=(zw.1 hx).1;have h1:=h.ch.mem x hx;have h2:=h.pos x hx;exact⟨h1.1,h2,h1.2.2.1⟩
 have hlen:=jEV p S;obtain⟨out,e,h1,h2,_⟩:=Gq (l:=iH p S) aa (λs hs=>by have:=hm s hs;omega) (lo:=a) (hi:=b) (λs hs _=>by have:=hm s hs;omega);have aV:=Ē (v:=p) h;rw[if_neg ae]at aV;have:out=iH p S:=Λ h1 aV h2;simp only[jaW,show o S.length=(S.length:d) from rfl,l0,j4,e,this]
section
variable{zs:z bH}{ps:z dr}{cs:z bd}{ss:z cN}
theorem jCl(hv:CV (zs,(ps,(cs,ss))))(i p a b:d):∃l e,jbo (zs,(ps,(cs,ss))) i p a b=D (l,e)/\jko (zs,(ps,(cs,ss))) i p a b=D (l,e)/\l.length<=4096:=by
 obtain⟨S,e,e1,e2,e3,e4⟩:=TK hv i a b;simp only[jbo,jko,e1,e2,j4];by_cases he:e=0
 case neg=>rw[show (e != 0)=true by simpa using he];exact⟨[],e,rfl,rfl,ae⟩
 subst he;obtain⟨f,hC,ha,cF,hb⟩:=e4.resolve_left aa;have l2:=TI (p:=p) (S:=S) e3 S.length 0 [] aa ae;rw[show ((0:E):d)=0 from rfl,jw,jk]at l2;have l2:FF p 0 S []=D (iH p S):=l2;simp only[jf,j7,jGW hC e3 ha hb p,l2,j4,show o (iH p S).length=((iH p S).length:d) from rfl];by_cases h4:((iH p S).length:d)>4096
 .rw[ag h4];exact⟨[],5,rfl,rfl,ae⟩
 .rw[an h4];exact⟨iH p S,0,rfl,rfl,aa⟩
end
theorem Ĕ{f:d->d}{b:d}:∀{l:bM}{q:Option d}{a:d},fJ f b q a l->(l.length:d)<=b-a
 |[],q,a,h=>by
  have h:a=b:=h;simp;omega
 |s::r,q,a,h=>by
  obtain⟨h1,h2,_,_,h5⟩:=h;have:=Ĕ h5;simp only[ji];omega
section
variable{zs:z bH}{ps:z dr}{cs:z bd}{ss:z cN}
theorem ĕ{f:d->d}{i u old to x0 x1 x2:d}{S:bM}(hl:S.length<=50000000):∀(n j:E)(q:Option d)(a:d),j+n=S.length->fJ f to q a (S.drop j)->
  (∃x,a<=x/\x<to/\f x≠old/\(∀y,a<=y->y<x->f y=old)/\FD i u old to (j:d) zs ps cs ss x0 x1 x2 S=D (.inl (0,x,old,f x)))\/
  ((∀y,a<=y->y<to->f y=old)/\FD i u old to (j:d) zs ps cs ss x0 x1 x2 S=D (.inr (i,u,old,to,zs,ps,cs,ss,x0,x1,x2)))
 |0,j,q,a,hj,hC=>by
  rw[F aa]at hC;have hC:a=to:=hC;rw[YZ];simp only[j6Q,show o S.length=(S.length:d) from rfl];rw[an aa,j7,aW];exact .inr ⟨λy h1 h2=>aa,rfl⟩
 |n+1,j,q,a,hj,hC=>by
  have aq:j<S.length:=aa;have bc:S.getD j ((0:d),((0:d),(0:d)))=S[j]:=by simp[G,aq]
  rw[jb aq]at hC;obtain⟨h1,h2,h3,h4,h5⟩:=hC;have iD:=h5.ch.le;rw[YZ];simp only[j6Q,show o S.length=(S.length:d) from rfl];rw[ag aa,bE,ar (x:=(j:d)+1)];simp only[j6,j8,bc];by_cases hp:S[j].2.2=old
  .rw[show (S[j].2.2 != old)=false by simpa using hp,j7,aS];rcases ĕ hl (i:=i) (u:=u) (x0:=x0) (x1:=x1) (x2:=x2) (f:=f) (old:=old) (to:=to) n (j+1) _ _ aa h5 with⟨x,g1,g2,g3,g4,g5⟩|⟨g1,g2⟩
   .refine .inl ⟨x,aa,g2,g3,λy y1 y2=>?_,g5⟩;by_cases hy:y<S[j].2.1
    .rw[h4 y aa hy,hp]
    .exact g4 y aa y2
   .refine .inr ⟨λy y1 y2=>?_,g2⟩;by_cases hy:y<S[j].2.1
    .rw[h4 y aa hy,hp]
    .exact g1 y aa y2
  .rw[show (S[j].2.2 != old)=true by simpa using hp,j6,aW];have hf:=h4 a aa h2;refine .inl ⟨a,aa,aa,by rw[hf];exact hp,λy y1 y2=>aa,?_⟩;rw[hf,h1]
theorem Ė(hc:CG (zs,(ps,(cs,ss)))){i:E}(hi:i<ss.length){u old t x0 x1 x2:d}(ht:0<=t)(hu:u<=8589934592):∀(n:E)(a:d),u-a<=691200*n->t<=a->a<=u->(∀y,t<=y->y<a->dQ zs cs ss[i] y=old)->
  (∃x,t<=x/\x<u/\dQ zs cs ss[i] x≠old/\(∀y,t<=y->y<x->dQ zs cs ss[i] y=old)/\FE (i:d) u old a zs ps cs ss x0 x1 x2=D (.inl (0,x,old,dQ zs cs ss[i] x)))\/
  ((∀y,t<=y->y<u->dQ zs cs ss[i] y=old)/\FE (i:d) u old a zs ps cs ss x0 x1 x2=D (.inr ((i:d),u,old,zs,ps,cs,ss,x0,x1,x2)))
 |0,a,hn,h1,h2,h3=>by
  rw[OJ];simp only[j4Y];rw[an aa,j7,aW];exact .inr ⟨λy y1 y2=>h3 y y1 aa,rfl⟩
 |n+1,a,hn,h1,h2,h3=>by
  rw[OJ];simp only[j4Y];by_cases aq:a<u
  case neg=>rw[an aq,j7,aW];exact .inr ⟨λy y1 y2=>h3 y y1 aa,rfl⟩
  rw[ag aq,j6,ar (x:=a+691200)];obtain⟨to,iD,t1,t2,t3⟩:∃to:d,to=(if a+691200<u then a+691200 else u)/\a<to/\to<=u/\(to=a+691200\/to=u):=⟨_,rfl,by split<;>omega,by split<;>omega,by split<;>omega⟩;rw[<-iD];obtain⟨S,eS,hS⟩:=ċ hc.g hc hi (a:=a) (b:=to) aa aa aa aa;have TF:S.length<=50000000:=by have:=Ĕ hS;omega
  simp only[eS,j4];rcases ĕ (zs:=zs) (ps:=ps) (cs:=cs) (ss:=ss) TF (i:=(i:d)) (u:=u) (x0:=x0) (x1:=x1) (x2:=x2) (old:=old) S.length 0 none a aa (by simpa using hS) with⟨x,g1,g2,g3,g4,g5⟩|⟨g1,g2⟩
  .rw[show ((0:E):d)=0 from rfl]at g5;simp only[g5,j4,sumC,aW];refine .inl ⟨x,aa,aa,g3,λy y1 y2=>?_,rfl⟩;by_cases hy:y<a
   .exact h3 y y1 hy
   .exact g4 y aa y2
  .rw[show ((0:E):d)=0 from rfl]at g2;simp only[g2,j4,sumC,aS]
   have rM:∀y,t<=y->y<to->dQ zs cs ss[i] y=old:=λy y1 y2=>by
    by_cases hy:y<a
    .exact h3 y y1 hy
    .exact g1 y aa y2
   by_cases fk:to=u
   .subst fk;rw[OJ];simp only[j4Y];rw[an aa,j7,aW];exact .inr ⟨rM,rfl⟩
   .exact Ė hc hi ht hu n to aa aa t2 rM
theorem jGp(hv:CV (zs,(ps,(cs,ss))))(i t:d):∃x e,jay (zs,(ps,(cs,ss))) i t=D (x,e)/\jkn (zs,(ps,(cs,ss))) i t=D (x,e):=by
 obtain⟨v,e,c1,c2,c3⟩:=Č hv i t t;by_cases he:e=0
 case neg=>
  refine⟨((0:d),((0:d),(0:d))),e,?_,?_⟩
  .simp only[jay,c1,j4];rw[show (e != 0)=true by simpa using he];rfl
  .simp only[jkn,c2,j4];rw[show (e != 0)=true by simpa using he];rfl
 obtain⟨rfl,hc,hi,ht,_,hb,_⟩:=c3 he;subst he;have aq:i.toNat<ss.length:=aa;have hs:=hc.sc _ (jl aq);have GO:=hv.s _ (jl aq);have gp:=GO.el;have bc:ss.getD i.toNat (ByteArray.empty,(([]:z bA),([]:z cO)))=ss[i.toNat]:=by simp[G,aq]
 obtain⟨u,hu,u1,u2,u3⟩:∃u:d,u=(if (8589934592:d)<t+34560000 then (8589934592:d) else t+34560000)/\t<=u/\u<=8589934592/\u-t<=34560000:=⟨_,rfl,by split<;>omega,by split<;>omega,by split<;>omega⟩;have r1:=TH hc.g hc aq ht hb;have r2:=TH hc.g hc aq (t:=u) aa u2;have w1:=ā hc.g hc aq (t:=u) aa u2;rw[show ((i.toNat:E):d)=i by omega]at r1 r2 w1;obtain⟨l,el,l1,_⟩:=Ĉ hc.g hs GO.ll aa (ss:=ss) ht u1 u2 u3;have el2:j4I ((zs,(ps,(cs,ss))),zs.map tb) (ss[i.toNat].1,(ss[i.toNat].2.1,ss[i.toNat].2.2)) t u=_:=el;have oT:=hc.of
 have w3:j6U ((zs,(ps,(cs,ss))),zs.map tb) (ss[i.toNat].1,(ss[i.toNat].2.1,ss[i.toNat].2.2)) u=D (dQ zs cs ss[i.toNat] u):=by
  simp only[j4W,je5,oT,j4,jc,j7,j5x,show o ss.length=(ss.length:d) from rfl]at w1;rw[ag (show i>=0 from hi.1),ag hi.2,bU hi.1 hi.2]at w1;simp only[j6,jc,j7,bc]at w1;cases hx:j6U ((zs,(ps,(cs,ss))),zs.map tb) (ss[i.toNat].1,(ss[i.toNat].2.1,ss[i.toNat].2.2)) u with
  |none=>rw[hx]at w1;simp at w1
  |some y=>rw[hx]at w1;simpa using w1
 have Uh:((i.toNat:E):d)=i:=aa;have hr:=Ė (x0:=0) (x1:=0) (x2:=0) (old:=dQ zs cs ss[i.toNat] t) hc aq ht u2 100 t aa (k8 _) u1 (λy y1 y2=>aa);rw[Uh]at hr;simp only[jay,jkn,c1,c2,j4,jf,j7,r1];have hw:w64 (t+34560000)=t+34560000:=gX (x:=t+34560000) (by clear hr;omega) (by clear hr;omega);rw[hw,<-hu,bU hi.1 hi.2,bc];simp only[j6,el2,j8u,j4];rw[jlp];simp only[j6l];match l,l1 with
 |[],l1=>
  have tK:t=u:=l1;rcases hr with⟨x,g1,g2,_⟩|⟨g1,g2⟩
  .exact absurd (Int.lt_of_le_of_lt g1 g2) (by rw[tK];exact Int.lt_irrefl _)
  .simp only[g2,j4,sumC,r2];rw[ag (show o ([]:bM).length<=1 by simp),j6,aW];rw[<-tK];exact⟨_,10,rfl,ae⟩
 |[s],l1=>
  obtain⟨a1,a2,_,a4,a5⟩:=l1;have a5:s.2.1=u:=a5;have ig:=a4 t aa aa;have TN:∀y,t<=y->y<u->dQ zs cs ss[i.toNat] y=dQ zs cs ss[i.toNat] t:=λy y1 y2=>by rw[a4 y aa aa,ig]
  rcases hr with⟨x,g1,g2,g3,_⟩|⟨g1,g2⟩
  .exact absurd (TN x g1 g2) g3
  .simp only[g2,j4,sumC,r2];rw[ag (show o ([s]:bM).length<=1 by simp),j6,aW];simp only[j4,kz];rw[ag (show o 1>0 by simp),bU hi.1 hi.2,bc];simp only[j6,w3,j4];rw[bU (show (0:d)<=0 by omega) (show (0:d)<((1:E):d) by omega)];simp only[j6,List.getD_cons_zero];rw[<-ig];cases (dQ zs cs ss[i.toNat] u != dQ zs cs ss[i.toNat] t) with
   |true=>exact⟨_,_,rfl,rfl⟩
   |false=>exact⟨_,_,rfl,rfl⟩
 |s::s2::r,l1=>
  obtain⟨a1,a2,_,a4,b1,b2,b3,b4,b5⟩:=l1;have ig:=a4 t aa aa;have ė:=b4 s2.1 aa aa;have hle:=b5.ch.le;have br:dQ zs cs ss[i.toNat] s2.1≠dQ zs cs ss[i.toNat] t:=λh=>b3 (by rw[ė,ig]at h;rw[h]);rw[an (show¬o (s::s2::r).length<=1 by simp;omega),ag (show (1:d)<=1 by omega)];simp only[j7,j6,aW,j4,sumC];rcases hr with⟨x,g1,g2,g3,g4,g5⟩|⟨g1,g2⟩
  .have hx:x=s2.1:=by
    by_cases h1:x<s2.1
    .exact absurd (by rw[a4 x aa aa,ig]) g3
    .by_cases h2:s2.1<x
     .exact absurd (g4 s2.1 aa h2) br
     .omega
   subst hx;simp only[g5,j4];refine⟨_,_,rfl,?_⟩;rw[ig,ė];rfl
  .exact absurd (g1 s2.1 aa aa) br
end
theorem Ę{s:bM}(hs:s.length<=1000000):∀(n i:E),i+n=s.length->FG s s (s.length:d) (i:d)=D (.inr ())
 |0,i,hi=>by
  rw[Y2];simp only[j5n];rw[an aa,j7,aW]
 |n+1,i,hi=>by
  rw[Y2];simp only[j5n];rw[ag aa,bU (i:=(i:d)) (n:=s.length) aa aa,ar (x:=(i:d)+1)];simp only[j6,kp,ql,jc,j7,aS];exact Ę hs n (i+1) aa
theorem jCm{s:bM}(hs:s.length<=1000000):jig s s=D true:=by
 simp only[jig,jf,j7,show o s.length=(s.length:d) from rfl];rw[show FG s s (s.length:d) 0=_ from Ę hs s.length 0 aa];rfl
theorem ę{s1:d}{s2:d}{s3:d}{s4:d}{s5:d}{s17:d}{s19:d}{s57:bW}{s58:d}{s66:(z d)}{s67:d}{s75:(z d)}{b16:ai}{b16_1:aj}{b16_2:al}{b16_3:ao}{b50:(z d)}{b50_1:d}(hc:CV (b16,(b16_1,(b16_2,b16_3)))):∀(n i:E),i+n=3->JI s1 s2 s3 s4 s5 s17 s19 s57 s58 s66 s67 s75 (i:d) b16 b16_1 b16_2 b16_3 b50 b50_1=D (.inr (s1,s2,s3,s4,s5,s17,s19,s57,s58,s66,s67,b16,b16_1,b16_2,b16_3,b50,b50_1))
 |0,i,hi=>by
  rw[Y4];simp only[j2i];rw[an aa,j7,aW]
 |n+1,i,hi=>by
  have ih:=ę (s1:=s1) (s2:=s2) (s3:=s3) (s4:=s4) (s5:=s5) (s17:=s17) (s19:=s19) (s57:=s57) (s58:=s58) (s66:=s66) (s67:=s67) (s75:=s75) (b16:=b16) (b16_1:=b16_1) (b16_2:=b16_2) (b16_3:=b16_3) (b50:=b50) (b50_1:=b50_1) hc n (i+1) aa;obtain⟨v,e,v1,v2⟩:=jGp hc s19 (s75.getD i 0);obtain⟨w,w1,w2⟩:=Ď hc s19 (s75.getD i 0);rw[Y4];simp only[j2i];rw[ag aa,bE,ar (x:=(i:d)+1)];simp only[j6,j8,v1,v2,w1,w2,j4,kp,ql,jc,jf,j7,aS];exact ih
theorem Ě{s1:d}{s2:d}{s3:d}{s4:d}{s5:d}{s17:d}{s19:d}{s57:bW}{s58:d}{s66:(z d)}{s67:d}{s120:(z (z d))}{s121:d}{b16:ai}{b16_1:aj}{b16_2:al}{b16_3:ao}{b50:(z d)}{b50_1:d}{l36:ah}{l38:ah}{A:bM}(hA:A.length<=1000000):∀(n i:E),i+n=A.length->JJ s1 s2 s3 s4 s5 s17 s19 s57 s58 s66 s67 s120 s121 (A.length:d) (i:d) b16 b16_1 b16_2 b16_3 b50 b50_1 A A l36 l38=D (.inr (s1,s2,s3,s4,s5,s17,s19,s57,s58,s66,s67,s120,s121,b16,b16_1,b16_2,b16_3,b50,b50_1,l36,l38))
 |0,i,hi=>by
  rw[Y5];simp only[j2j];rw[an aa,j7,aW]
 |n+1,i,hi=>by
  have ih:=Ě (s1:=s1) (s2:=s2) (s3:=s3) (s4:=s4) (s5:=s5) (s17:=s17) (s19:=s19) (s57:=s57) (s58:=s58) (s66:=s66) (s67:=s67) (s120:=s120) (s121:=s121) (b16:=b16) (b16_1:=b16_1) (b16_2:=b16_2) (b16_3:=b16_3) (b50:=b50) (b50_1:=b50_1) (l36:=l36) (l38:=l38) hA n (i+1) aa;rw[Y5];simp only[j2j];rw[ag aa,bU (i:=(i:d)) (n:=A.length) aa aa,ar (x:=(i:d)+1)];simp only[j6,kp,ql,jc,j7,aS];exact ih
theorem GP{s1:d}{s2:d}{s3:d}{s4:d}{s5:d}{s17:d}{s19:d}{s57:bW}{s58:d}{s66:(z d)}{s67:d}{s120:(z (z d))}{s121:d}{b16:ai}{b16_1:aj}{b16_2:al}{b16_3:ao}{b50:(z d)}{b50_1:d}{A:SL}(hA:A.length<=1000000):∀(n i:E),i+n=A.length->JK s1 s2 s3 s4 s5 s17 s19 s57 s58 s66 s67 s120 s121 (A.length:d) (i:d) b16 b16_1 b16_2 b16_3 b50 b50_1 A A=D (.inr (s1,s2,s3,s4,s5,s17,s19,s57,s58,s66,s67,s120,s121,b16,b16_1,b16_2,b16_3,b50,b50_1))
 |0,i,hi=>by
  rw[Y6];simp only[j26];rw[an aa,j7,aW]
 |n+1,i,hi=>by
  have ih:=GP (s1:=s1) (s2:=s2) (s3:=s3) (s4:=s4) (s5:=s5) (s17:=s17) (s19:=s19) (s57:=s57) (s58:=s58) (s66:=s66) (s67:=s67) (s120:=s120) (s121:=s121) (b16:=b16) (b16_1:=b16_1) (b16_2:=b16_2) (b16_3:=b16_3) (b50:=b50) (b50_1:=b50_1) hA n (i+1) aa;rw[Y6];simp only[j26];rw[ag aa,bU (i:=(i:d)) (n:=A.length) aa aa,ar (x:=(i:d)+1)];simp only[j6,kp,ql,jc,j7,aS];exact ih
theorem GQ{s1:d}{s2:d}{s3:d}{s4:d}{s5:d}{s57:bW}{s58:d}{b50:(z d)}{b50_1:d}{A:z d}(hA:A.length<=1000000):∀(n i:E),i+n=A.length->JN s1 s2 s3 s4 s5 s57 s58 (A.length:d) (i:d) b50 b50_1 A A=D (.inr (s1,s2,s3,s4,s5,s57,s58,b50,b50_1))
 |0,i,hi=>by
  rw[Y9];simp only[j27];rw[an aa,j7,aW]
 |n+1,i,hi=>by
  have ih:=GQ (s1:=s1) (s2:=s2) (s3:=s3) (s4:=s4) (s5:=s5) (s57:=s57) (s58:=s58) (b50:=b50) (b50_1:=b50_1) hA n (i+1) aa;rw[Y9];simp only[j27];rw[ag aa,bU (i:=(i:d)) (n:=A.length) aa aa,ar (x:=(i:d)+1)];simp only[j6,jf,j7,aS];exact ih
theorem ě{s1:d}{s2:d}{s3:d}{s4:d}{s5:d}{s17:d}{s19:d}{s57:bW}{s58:d}{s66:(z d)}{s67:d}{s120:(z (z d))}{b16:ai}{b16_1:aj}{b16_2:al}{b16_3:ao}{b50:(z d)}{b50_1:d}(hc:CV (b16,(b16_1,(b16_2,b16_3)))):∀(n i:E),i+n=2->JL s1 s2 s3 s4 s5 s17 s19 s57 s58 s66 s67 s120 (i:d) b16 b16_1 b16_2 b16_3 b50 b50_1=D (.inr (s1,s2,s3,s4,s5,s17,s57,s58,s66,s67,b16,b16_1,b16_2,b16_3,b50,b50_1))
 |0,i,hi=>by
  rw[Y7];simp only[j2k];rw[an aa,j7,aW]
 |n+1,i,hi=>by
  have ih:=ě (s1:=s1) (s2:=s2) (s3:=s3) (s4:=s4) (s5:=s5) (s17:=s17) (s19:=s19) (s57:=s57) (s58:=s58) (s66:=s66) (s67:=s67) (s120:=s120) (b16:=b16) (b16_1:=b16_1) (b16_2:=b16_2) (b16_3:=b16_3) (b50:=b50) (b50_1:=b50_1) hc n (i+1) aa;obtain⟨S,e,a1,a2,a3,_⟩:=TK hc s19 ((s120.getD i (B 2 0)).getD 0 0) ((s120.getD i (B 2 0)).getD 1 0);obtain⟨C,f,b1,b2,b3⟩:=jGm hc s19 ((s120.getD i (B 2 0)).getD 0 0) ((s120.getD i (B 2 0)).getD 1 0);obtain⟨T,g,c1,c2,c3⟩:=jCl hc s19 s5 ((s120.getD i (B 2 0)).getD 0 0) ((s120.getD i (B 2 0)).getD 1 0);have h8:=Ě (s1:=s1) (s2:=s2) (s3:=s3) (s4:=s4) (s5:=s5) (s17:=s17) (s19:=s19) (s57:=s57) (s58:=s58) (s66:=s66) (s67:=s67) (s120:=s120) (s121:=(i:d)) (b16:=b16) (b16_1:=b16_1) (b16_2:=b16_2) (b16_3:=b16_3) (b50:=b50) (b50_1:=b50_1) (l36:=T) (l38:=T) (A:=C) aa C.length 0 aa;have tp:=GP (s1:=s1) (s2:=s2) (s3:=s3) (s4:=s4) (s5:=s5) (s17:=s17) (s19:=s19) (s57:=s57) (s58:=s58) (s66:=s66) (s67:=s67) (s120:=s120) (s121:=(i:d)) (b16:=b16) (b16_1:=b16_1) (b16_2:=b16_2) (b16_3:=b16_3) (b50:=b50) (b50_1:=b50_1) (A:=T) aa T.length 0 aa;rw[show ((0:E):d)=0 from rfl]at h8 tp;rw[Y7];simp only[j2k];rw[ag aa,bE];simp only[j6,j8,a1,a2,b1,b2,c1,c2,j4,jCm (show S.length<=1000000 by omega),jc,jf,j7,show o C.length=(C.length:d) from rfl,h8,sumC,show o T.length=(T.length:d) from rfl,tp];rw[ar (x:=(i:d)+1),aS];exact ih
theorem Ĝ{s1:d}{s2:d}{s3:d}{s4:d}{s5:d}{s17:d}{s57:bW}{s58:d}{s66:(z d)}{b16:ai}{b16_1:aj}{b16_2:al}{b16_3:ao}{b50:(z d)}{b50_1:d}(hc:CV (b16,(b16_1,(b16_2,b16_3)))):∀(n i:E),i+n=2->JM s1 s2 s3 s4 s5 s17 s57 s58 s66 (i:d) b16 b16_1 b16_2 b16_3 b50 b50_1=D (.inr (s1,s2,s3,s4,s5,s17,s57,s58,b16,b16_1,b16_2,b16_3,b50,b50_1))
 |0,i,hi=>by
  rw[Y8];simp only[j2l];rw[an aa,j7,aW]
 |n+1,i,hi=>by
  have ih:=Ĝ (s1:=s1) (s2:=s2) (s3:=s3) (s4:=s4) (s5:=s5) (s17:=s17) (s57:=s57) (s58:=s58) (s66:=s66) (b16:=b16) (b16_1:=b16_1) (b16_2:=b16_2) (b16_3:=b16_3) (b50:=b50) (b50_1:=b50_1) hc n (i+1) aa;obtain⟨m,em⟩:∃m,jqM s1 3=D m:=⟨_,rfl⟩;have h4:=ę (s1:=s1) (s2:=s2) (s3:=s3) (s4:=s4) (s5:=s5) (s17:=s17) (s19:=s66.getD i 0) (s57:=s57) (s58:=s58) (s66:=s66) (s67:=(i:d)) (s75:=[s1,s17,w64 (8589934592-m)]) (b16:=b16) (b16_1:=b16_1) (b16_2:=b16_2) (b16_3:=b16_3) (b50:=b50) (b50_1:=b50_1) hc 3 0 aa;have h6:=λl=>ě (s1:=s1) (s2:=s2) (s3:=s3) (s4:=s4) (s5:=s5) (s17:=s17) (s19:=s66.getD i 0) (s57:=s57) (s58:=s58) (s66:=s66) (s67:=(i:d)) (s120:=l) (b16:=b16) (b16_1:=b16_1) (b16_2:=b16_2) (b16_3:=b16_3) (b50:=b50) (b50_1:=b50_1) hc 2 0 aa;rw[show ((0:E):d)=0 from rfl]at h4;simp only[show ((0:E):d)=0 from rfl]at h6;rw[Y8];simp only[j2l];rw[ag aa,bE];simp only[j6,j8,em,j4,h4,sumC,h6];rw[ar (x:=(i:d)+1),aS];exact ih
theorem ĝ{s1:d}{s2:d}{s3:d}{s4:d}{s5:d}{s57:bW}{b50:(z d)}(hc:∀k∈s57,CV k)(hl:s57.length=2):∀(n i:E)(a:d),i+n=2->dg b50 a->JO s1 s2 s3 s4 s5 s57 (i:d) b50 a=D (.inr ())
 |0,i,a,hi,hd=>by
  rw[Za];simp only[j2m];rw[an aa,j7,aW]
 |n+1,i,a,hi,hd=>by
  have hm:s57.getD i (([]:ai),(([]:aj),(([]:al),([]:ao))))∈s57:=by rw[show s57.getD i (([]:ai),(([]:aj),(([]:al),([]:ao))))=s57[i]'aa by simp[G,show i<s57.length by omega]];exact jl _
  have hk:=hc _ hm;generalize zR:s57.getD i (([]:ai),(([]:aj),(([]:al),([]:ao))))=k at hk;obtain⟨t,a1,e1,_,_,d1⟩:=_C hd;obtain⟨q,a2,e2,_,_,d2⟩:=dT (n:=3) d1 aa aa;have h2:=Ĝ (s1:=s1) (s2:=s2) (s3:=s3) (s4:=s4) (s5:=s5) (s17:=t) (s57:=s57) (s58:=(i:d)) (s66:=[q,s4]) (b16:=k.1) (b16_1:=k.2.1) (b16_2:=k.2.2.1) (b16_3:=k.2.2.2) (b50:=b50) (b50_1:=a2) hk 2 0 aa;obtain⟨A,f1,f2,f3⟩:=jGn (zs:=k.1) (ps:=k.2.1) (cs:=k.2.2.1) (ss:=k.2.2.2) hk t;have nA:=GQ (s1:=s1) (s2:=s2) (s3:=s3) (s4:=s4) (s5:=s5) (s57:=s57) (s58:=(i:d)) (b50:=b50) (b50_1:=a2) (A:=A) aa A.length 0 aa;have ih:=ĝ (s1:=s1) (s2:=s2) (s3:=s3) (s4:=s4) (s5:=s5) (s57:=s57) (b50:=b50) hc hl n (i+1) a2 aa d2;rw[show ((0:E):d)=0 from rfl]at h2 nA;rw[Za];simp only[j2m];rw[ag aa,bE];simp only[j6,j8,zR,e1,e2,j4,h2,sumC,f1,f2,jf,j7,show o A.length=(A.length:d) from rfl,nA];rw[ar (x:=(i:d)+1),aS];exact ih
theorem jmI(t:z d)(_h:Wf (.list (.int .i64)) t)(x:d)(_h1:Wf (.int .i64) x)(f:d)(_h2:Wf (.int .i64) f)(to:d)(_h3:Wf (.int .i64) to)(sc:d)(_h4:Wf (.int .i64) sc)(p:d)(_h5:Wf (.int .i64) p):jaD t x f to sc p=D true:=by
 simp only[jaD,jll,j4,show o (List.length t)=(t.length:d) from rfl];by_cases hl:(t.length:d)<=500
 case neg=>rw[an hl];simp[_m]
 rw[ag hl];simp only[jc,j7,jnR,j4];obtain⟨zs,ps,cs,ss,a1,e1,hs,g1,g2,g3,d1⟩:=jxO (L:=t) (a:=0) (n:=2) ⟨aa,aa,aa⟩ aa aa;obtain⟨k,a2,e2,hv,d2⟩:=jEO d1 hs g3 g1 aa
 have e3:=ĝ (s1:=x) (s2:=f) (s3:=to) (s4:=sc) (s5:=p) (s57:=[(zs,(ps,(cs,ss))),(k.1,(k.2.1,(k.2.2.1,k.2.2.2)))]) (b50:=t) (λy hy=>by
  simp only[je,zh,or_false]at hy;rcases hy with rfl|rfl
  .exact jGS hs g3 g1
  .exact hv) rfl 2 0 a2 aa d2
 rw[show ((0:E):d)=0 from rfl]at e3;simp only[e1,e2,e3,j4,sumC,_m]
end Go.Proofs.Pw
