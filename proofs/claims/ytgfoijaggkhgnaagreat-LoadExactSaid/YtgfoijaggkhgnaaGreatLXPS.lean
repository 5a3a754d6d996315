/- load.Join and its reference, on any lists. -/
import Derived.Test.YtgfoijaggkhgnaaGreatLXPR
import Derived.Test.YtgfoijaggkhgnaaGreatLXPQ
import Derived.Test.YtgfoijaggkhgnaaGreatLXPG
open _root_ renaming Int->d,List->D,Nat->H
open Int renaming ofNat->A
open Decidable renaming decide->E
open List renaming getD->F,take_of_length_le->I,length->M
open Option renaming some->G
open Bool renaming true->J,false->N
open Go Go.Lft
set_option linter.unusedVariables false
namespace Go.Proofs.Pw
theorem ť(p:d)(x:bB):∀l:D bB,bz p (ad x l)=bz p l+(if x.1=p then x.2.1 else 0)
 |[]=>by simp[ad,bz]
 |y::r=>by
  have:=ť p x r;simp only[ad];split
  .simp only[bz,this];omega
  .split
   .rename_i h1 h2;simp only[bz,h2];split<;>omega
   .simp only[bz];omega
theorem Ŧ(p:d)(x:bB):∀l:D bB,bH p (ad x l)=bH p l+(if x.1=p then x.2.2 else 0)
 |[]=>by simp[ad,bH]
 |y::r=>by
  have:=Ŧ p x r;simp only[ad];split
  .simp only[bH,this];omega
  .split
   .rename_i h1 h2;simp only[bH,h2];split<;>omega
   .simp only[bH];omega
theorem L0(q:d)(x:bB):∀l:D bB,q∈(ad x l).map (λy=>y.1)↔q=x.1\/q∈l.map (λy=>y.1)
 |[]=>by simp[ad]
 |y::r=>by
  have:=L0 q x r;simp only[ad];split
  .simp only[ke,je,this];constructor
   .rintro (h|h|h)
    .exact .inr (.inl h)
    .exact .inl h
    .exact .inr (.inr h)
   .rintro (h|h|h)
    .exact .inr (.inl h)
    .exact .inl h
    .exact .inr (.inr h)
  .split
   .rename_i h1 h2;simp only[ke,je,h2];constructor
    .rintro (h|h)
     .exact .inl h
     .exact .inr (.inr h)
    .rintro (h|h|h)
     .exact .inl h
     .exact .inl h
     .exact .inr h
   .simp only[ke,je]
theorem UI(x:bB):∀{l:D bB},(l.Pairwise λy z=>y.1<z.1)->(ad x l).Pairwise λy z=>y.1<z.1
 |[],_=>by simp[ad]
 |y::r,h=>by
  have hc:=kb.1 h;simp only[ad];split
  .rename_i h1;refine kb.2 ⟨λz hz=>?_,UI x hc.2⟩;rcases (L0 z.1 x r).1 (jr.2 ⟨z,hz,rfl⟩) with e|hm
   .omega
   .obtain⟨w,hw,e⟩:=jr.1 hm;have:=hc.1 w hw;omega
  .split
   .exact kb.2 ⟨hc.1,hc.2⟩
   .rename_i h1 h2;refine kb.2 ⟨λz hz=>?_,h⟩;rcases je.1 hz with rfl|hz
    .omega
    .have:=hc.1 z hz;omega
theorem UJ(x:bB):∀l:D bB,(ad x l).length<=l.length+1
 |[]=>by simp[ad]
 |y::r=>by
  have:=UJ x r;simp only[ad];split
  .simp only[jk];omega
  .split<;>simp only[jk]<;>omega
def lg(B:d)(y:bB):Prop:=0<=y.2.1/\y.2.1<=B/\0<=y.2.2/\y.2.2<=B
theorem lg.mono{B C:d}(h:B<=C){y:bB}(hy:lg B y):lg C y:=⟨hy.1,by have:=hy.2.1;omega,hy.2.2.1,by have:=hy.2.2.2;omega⟩
theorem L1{B C:d}(hC:0<=C)(hB:0<=B){x:bB}(hx:lg C x):∀{l:D bB},(∀y∈l,lg B y)->∀y∈ad x l,lg (B+C) y
 |[],_,y,hy=>by
  simp only[ad,kp]at hy;subst hy;exact hx.mono aa
 |z::r,h,y,hy=>by
  have hz:=h z ae;have hr:∀y∈r,lg B y:=λy hy=>h y (by simp[hy]);simp only[ad]at hy;split at hy
  .rcases je.1 hy with rfl|hy
   .exact hz.mono aa
   .exact L1 hC hB hx hr y hy
  .split at hy
   .rcases je.1 hy with rfl|hy
    .obtain⟨a1,a2,a3,a4⟩:=hz;obtain⟨b1,b2,b3,b4⟩:=hx;exact⟨by show 0<=z.2.1+x.2.1;omega,by show z.2.1+x.2.1<=_;omega,by show 0<=z.2.2+x.2.2;omega,by show z.2.2+x.2.2<=_;omega⟩
    .exact(hr y hy).mono aa
   .rcases je.1 hy with rfl|hy
    .exact hx.mono aa
    .exact(h y hy).mono aa
def eE(a:D bB):D bB->D bB
 |[]=>a
 |x::r=>eE (ad x a) r
theorem UK(p:d):∀(b a:D bB),bz p (eE a b)=bz p (a++b)/\bH p (eE a b)=bH p (a++b)
 |[],a=>by simp[eE]
 |x::r,a=>by
  have:=UK p r (ad x a);simp only[eE];rw[this.1,this.2,wK,wK,yK,yK,ť,Ŧ];simp only[bz,bH];omega
theorem H7(q:d):∀(b a:D bB),q∈(eE a b).map (λy=>y.1)↔q∈(a++b).map (λy=>y.1)
 |[],a=>by simp[eE]
 |x::r,a=>by
  simp only[eE];rw[H7 q r (ad x a),qc,jn,L0,qc,jn,ke,je];constructor
  .rintro ((h|h)|h)
   .exact .inr (.inl h)
   .exact .inl h
   .exact .inr (.inr h)
  .rintro (h|h|h)
   .exact .inl (.inr h)
   .exact .inl (.inl h)
   .exact .inr h
theorem UL:∀(b:D bB){a:D bB},(a.Pairwise λy z=>y.1<z.1)->(eE a b).Pairwise λy z=>y.1<z.1
 |[],_,h=>h
 |x::r,_,h=>UL r (UI x h)
theorem H8{p:d}:∀{l:D bB},p∉l.map (λy=>y.1)->bz p l=0/\bH p l=0
 |[],_=>⟨rfl,rfl⟩
 |y::r,h=>by
  simp only[ke,je,not_or]at h;have:=H8 h.2;have bA:¬y.1=p:=λe=>h.1 e.symm;simp only[bz,bH,bA,za];omega
theorem UM:∀{l:D bB},(l.Pairwise λy z=>y.1<z.1)->∀y∈l,bz y.1 l=y.2.1/\bH y.1 l=y.2.2
 |[],_,y,hy=>by simp at hy
 |z::r,h,y,hy=>by
  have hc:=kb.1 h;rcases je.1 hy with rfl|hy
  .have:=H8 (p:=y.1) (l:=r) (λhm=>by
    obtain⟨w,hw,e⟩:=jr.1 hm;have:=hc.1 w hw;omega)
   simp only[bz,bH,if_true];omega
  .have:=UM hc.2 y hy;have an:=hc.1 y hy;have bA:¬z.1=y.1:=aa;simp only[bz,bH,bA,za];omega
theorem UN(p:d):∀{l:D bB},(∀x∈l,rq x)->0<=bz p l/\bz p l<=bH p l/\bH p l<=8*bz p l
 |[],_=>by simp[bz,bH]
 |x::r,h=>by
  obtain⟨h1,h2,h3,h4,h5,h6⟩:=h x ae;obtain⟨i1,i2,i3⟩:=UN p (l:=r) (λy hy=>h y (by simp[hy]));simp only[bz,bH];split<;>omega
structure JI(m:nN)(l:D bB)(n:H):Prop where
 ok:BD m 32 n
 nd:(m.map λx=>x.1).Nodup
 key:∀p,ej m p=J↔p∈l.map (λy=>y.1)
 get:∀p,ej m p=J->di iJ m p=(p,(bz p l,bH p l))
theorem ŧ{l:D bB}(hl:l.length<=1000)(h:∀x∈l,rq x):∀(n i:H)(m:nN),i+n=l.length->JI m (l.take i) i->(∀p,bz p (l.take i)<=8589934592)->
  (AX (l.length:d) (i:d) m l=G (.inl 5)/\∃p,bz p l>8589934592)\/∃m',AX (l.length:d) (i:d) m l=G (.inr m')/\JI m' l l.length/\∀p,bz p l<=8589934592
 |0,i,m,hi,hm,hu=>by
  rw[I aa]at hm hu;refine .inr ⟨m,?_,by rw[show i=l.length by omega]at hm;exact hm,hu⟩;rw[_j];simp only[j68];rw[aj aa,j7,aS]
 |n+1,i,m,hi,hm,hu=>by
  have an:i<l.length:=aa;have aR:l.getD i ((0:d),((0:d),(0:d)))=l[i]:=by simp[F,an]
  obtain⟨h1,h2,h3,h4,h5,h6⟩:=h _ (jg an)
  have Lz:∀p,bz p (l.take (i+1))=bz p (l.take i)+(if l[i].1=p then l[i].2.1 else 0):=λp=>by
   rw[qj an,wK];simp only[bz];omega
  have sV:∀p,bH p (l.take (i+1))=bH p (l.take i)+(if l[i].1=p then l[i].2.2 else 0):=λp=>by
   rw[qj an,yK];simp only[bH];omega
  have hkt:∀p,p∈(l.take (i+1)).map (λy=>y.1)↔p∈(l.take i).map (λy=>y.1)\/p=l[i].1:=λp=>by
   rw[qj an,qc,jn];simp
  have hb:=UN l[i].1 (l:=l.take i) (λx hx=>h x (qb hx));have hui:=hu l[i].1
  have vG:(di iJ m l[i].1).2=(bz l[i].1 (l.take i),bH l[i].1 (l.take i)):=by
   cases hh:ej m l[i].1 with
   |true=>rw[hm.get _ hh]
   |false=>
    have hn:=H8 (p:=l[i].1) (l:=l.take i) (λhq=>by
     have:=(hm.key _).2 hq;rw[hh]at this;simp at this)
    rw[ħ hh,hn.1,hn.2];rfl
  rw[_j];simp only[j68];rw[ah (show (i:d)<(l.length:d) by omega),bD,al (x:=(i:d)+1)];simp only[j6,j8,aR];rw[show di ((0:d),((0:d),(0:d))) m l[i].1=di iJ m l[i].1 from rfl,vG];have p7:∀p,bz p l=bz p (l.take (i+1))+bz p (l.drop (i+1)):=λp=>by rw[<-wK,qx]
  have hdr:=λp=>UN p (l:=l.drop (i+1)) (λx hx=>h x (z6 hx));rw[al (x:=bz l[i].1 (l.take i)+l[i].2.1)];by_cases hg:bz l[i].1 (l.take i)+l[i].2.1>8589934592
  .rw[ah hg];refine .inl ⟨rfl,l[i].1,?_⟩;rw[p7,Lz,if_pos rfl];have:=hdr l[i].1;omega
  rw[aj hg,al (x:=bH l[i].1 (l.take i)+l[i].2.2)];simp only[j7,aH];refine ŧ hl h n (i+1) (eD m l[i].1 (l[i].1,(bz l[i].1 (l.take i)+l[i].2.1,bH l[i].1 (l.take i)+l[i].2.2))) aa ⟨⟨?_,λy hy=>?_⟩,(ĭ hm.nd).1,λp=>?_,λp hp=>?_⟩ λp=>?_
  .have:=hm.ok.len;have:=Ħ (m:=m) (k:=l[i].1) (v:=(l[i].1,(bz l[i].1 (l.take i)+l[i].2.1,bH l[i].1 (l.take i)+l[i].2.2)));omega
  .rcases ĥ hy with hy|rfl
   .exact hm.ok.key y hy
   .exact⟨h1,h2,rfl⟩
  .rw[HT,hkt,zv,hm.key,zi,Or.comm]
  .rw[LD,Lz,sV];by_cases he:p=l[i].1
   .subst he;rw[kq,j6,if_pos rfl,if_pos rfl]
   .rw[cj he,j7,if_neg (λq=>he q.symm),if_neg (λq=>he q.symm),ze,ze];refine hm.get p ?_;rw[HT,cj he,qu]at hp;exact hp
  .rw[Lz];by_cases he:l[i].1=p
   .subst he;rw[if_pos rfl];omega
   .rw[if_neg he,ze];exact hu p
theorem Ũ{b:D bB}(hl:b.length<=32)(h:∀x∈b,lg 68719476736 x):∀(n i:H)(out:D bB)(B:d),i+n=b.length->out.length+n<=900->0<=B->B+68719476736*(n:d)<=1000000000000000->(∀y∈out,lg B y)->
  GP b (i:d) out=G (eE out (b.drop i))
 |0,i,out,B,hi,_,_,_,_=>by
  rw[_l,jc aa];simp only[j6X,show A b.length=(b.length:d) from rfl];rw[aj aa,j7,aS];rfl
 |n+1,i,out,B,hi,ho,hB,L2,cd=>by
  have an:i<b.length:=aa;have aR:b.getD i ((0:d),((0:d),(0:d)))=b[i]:=by simp[F,an]
  have hx:=h _ (jg an);have nt:=UJ b[i] out;rw[_l,jb an];simp only[j6X,show A b.length=(b.length:d) from rfl];rw[ah (show (i:d)<(b.length:d) by omega),bD,al (x:=(i:d)+1)];simp only[j6,j8,aR]
  rw[show jjO out (b[i].1,(b[i].2.1,b[i].2.2))=_ from UH (x:=b[i]) aa (λy hy=>by
   obtain⟨c1,c2,c3,c4⟩:=cd y hy;exact⟨c1,aa,c3,aa⟩) (by obtain⟨c1,c2,c3,c4⟩:=hx;exact⟨c1,aa,c3,aa⟩)]
  simp only[j4,aH,eE];exact Ũ hl h n (i+1) (ad b[i] out) (B+68719476736) aa aa aa aa (L1 aa hB hx cd)
theorem ũ{o:D bB}(hl:o.length<=1000):∀(n i:H),i+n=o.length->GQ (i:d) o=G (cond ((o.drop i).any λy=>E (y.2.1>8589934592)) (.inl 5) (.inr o))
 |0,i,hi=>by
  rw[_m,jc aa];simp only[j6Y,show A o.length=(o.length:d) from rfl];rw[aj aa,j7,aS];rfl
 |n+1,i,hi=>by
  have an:i<o.length:=aa;have aR:o.getD i ((0:d),((0:d),(0:d)))=o[i]:=by simp[F,an]
  rw[_m,jb an];simp only[j6Y,show A o.length=(o.length:d) from rfl];rw[ah (show (i:d)<(o.length:d) by omega),bD,al (x:=(i:d)+1)];simp only[j6,j8,aR,yc];cases E (o[i].2.1>8589934592) with
  |true=>rfl
  |false=>simp only[j7,aH,qu];exact ũ hl n (i+1) aa
theorem jDx{a b:D bB}(ha:a.length<=1000)(hb:b.length<=1000):∃r,jkZ a b=G r/\jnh a b=G r/\r.1.length<=1000:=by
 obtain⟨p,e1,e2,hp⟩:=Dr ha;obtain⟨q,f1,f2,hq⟩:=Dr hb;simp only[jkZ,jnh,e1,e2,f1,f2,j4];cases p with
 |false=>exact⟨_,rfl,rfl,ae⟩
 |true=>
 cases q with
 |false=>exact⟨_,rfl,rfl,ae⟩
 |true=>
  have hA:=hp rfl;have hB:=hq rfl;have rR:=hA.len;have hlb:=hB.len
  have bd:∀x,rq x->lg 68719476736 x:=λx hx=>by
   obtain⟨h1,h2,h3,h4,h5,h6⟩:=hx;exact⟨h3,aa,aa,aa⟩
  have cb:∀x∈a++b,rq x:=λx hx=>(jn.1 hx).elim (hA.mem x) (hB.mem x);have UO:(a++b).length<=1000:=by simp only[jf];omega
  have bU:M ([]:D bB)+M a<=aM:=by simp only[kx,aM];omega
  simp only[jl,j7,jyO ha hb,j4,jw,show A (a++b).length=((a++b).length:d) from rfl];rw[ah bU,show GP b 0 a=_ from Ũ hlb (λx hx=>bd x (hB.mem x hx)) b.length 0 a 68719476736 aa aa aa aa (λx hx=>bd x (hA.mem x hx))];simp only[j6,jm,j4];have hF:=UL b hA.pw
  have hlen:∀(b a:D bB),(eE a b).length<=a.length+b.length:=by
   intro b;induction b with
   |nil=>intro a;simp[eE]
   |cons x r ih=>intro a;have h1:=ih (ad x a);have h2:=UJ x a;simp only[eE,jk];omega
  have hlF:=hlen b a;rw[show GQ 0 (eE a b)=_ from ũ aa (eE a b).length 0 aa,jm]
  have dJ:∀y∈eE a b,y=(y.1,(bz y.1 (a++b),bH y.1 (a++b))):=λy hy=>by
   have h1:=UM hF y hy;have h2:=UK y.1 b a;rw[<-h2.1,<-h2.2,h1.1,h1.2]
  have J0:JI [] ((a++b).take 0) 0:=⟨⟨ae,ae⟩,vc,λp=>by simp[ej],λp h=>by simp[ej]at h⟩;rcases ŧ UO cb (a++b).length 0 [] aa J0 (λp=>by simp[bz]) with⟨g1,p,hg⟩|⟨m',g1,g2,g3⟩
  .rw[show AX ((a++b).length:d) 0 [] (a++b)=_ from g1]
   have mh:((eE a b).any λy=>E (y.2.1>8589934592))=true:=by
    have hk:p∈(eE a b).map (λy=>y.1):=by
     rw[H7];by_cases gC:p∈(a++b).map (λy=>y.1)
     .exact gC
     .have:=(H8 gC).1;omega
    obtain⟨y,hy,rfl⟩:=jr.1 hk;refine zj.2 ⟨y,hy,yl ?_⟩;rw[dJ y hy];exact hg
   rw[mh];exact⟨_,rfl,rfl,ae⟩
  .rw[show AX ((a++b).length:d) 0 [] (a++b)=_ from g1];have mh:((eE a b).any λy=>E (y.2.1>8589934592))=false:=by refine qz.2 λy hy=>?_;have:=g3 y.1;rw[dJ y hy];simp only[jo];show¬bz y.1 (a++b)>8589934592;omega
   rw[mh];have hL:=ĩ g2.ok aa aa
   have hks:lh m'=(eE a b).map λy=>y.1:=by
    refine LJ g2.nd ?_ λk=>?_
    .exact vf.2 hF
    .rw[H7,<-g2.key,Uq]
   have M4:((eE a b).map λy=>y.1).map (λk=>di iJ m' k)=eE a b:=by rw[List.map_map];refine(zu (g:=id) λy hy=>?_).trans (List.map_id _);show di iJ m' y.1=y;rw[g2.get y.1 ((g2.key y.1).2 ((H7 y.1 b a).1 (jr.2 ⟨y,hy,rfl⟩)))];exact(dJ y hy).symm
   simp only[sumC,hL,j4,hks,M4,j7];exact⟨_,rfl,rfl,by show (eE a b).length<=1000;omega⟩
def ru(y:(d×d)×d):Bool:=cond (E (y.2<1)) J (E (y.2>8))
theorem Ū{ws:iR}(hl:ws.length<=100):∀(n i:H),i+n=ws.length->∃q,FJ ws (ws.length:d) (i:d)=G q/\
  (q = .inr ()/\(ws.drop i).any ru=N\/(∃k:H,q = .inl (k:d))/\(ws.drop i).any ru=J)
 |0,i,hi=>by
  refine⟨.inr (),?_,.inl ⟨rfl,by rw[jc aa];rfl⟩⟩;rw[YG];simp only[j0k];rw[aj aa,j7,aS]
 |n+1,i,hi=>by
  have an:i<ws.length:=aa;have aR:ws.getD i (((0:d),(0:d)),(0:d))=ws[i]:=by simp[F,an]
  rw[YG,jb an];simp only[j0k,jg8];rw[ah (show (i:d)<(ws.length:d) by omega),bD,al (x:=(i:d)+1)];simp only[j6,j8,aR,j4,yc];cases hb:ru ws[i]with
  |true=>have aW:cond (E (ws[i].2<1)) J (E (ws[i].2>8))=true:=hb;rw[aW];exact⟨_,rfl,.inr ⟨⟨i,rfl⟩,rfl⟩⟩
  |false=>have aW:cond (E (ws[i].2<1)) J (E (ws[i].2>8))=false:=hb;rw[aW];simp only[j7,aH,qu];exact Ū hl n (i+1) aa
theorem ū{ws:iR}(hl:ws.length<=100):∀(n i:H),i+n=ws.length->FK ws (i:d)=G (cond ((ws.drop i).any ru) (.inl 1) (.inr ()))
 |0,i,hi=>by
  rw[YI,jc aa];simp only[j5M,show A ws.length=(ws.length:d) from rfl];rw[aj aa,j7,aS];rfl
 |n+1,i,hi=>by
  have an:i<ws.length:=aa;have aR:ws.getD i (((0:d),(0:d)),(0:d))=ws[i]:=by simp[F,an]
  rw[YI,jb an];simp only[j5M,show A ws.length=(ws.length:d) from rfl];rw[ah (show (i:d)<(ws.length:d) by omega),bY (show (0:d)<=(i:d) by omega) aa,al (x:=(i:d)+1)];simp only[j6,zd,j8,aR,yc];cases hb:ru ws[i]with
  |true=>have aW:cond (E (ws[i].2<1)) J (E (ws[i].2>8))=true:=hb;rw[aW];rfl
  |false=>have aW:cond (E (ws[i].2<1)) J (E (ws[i].2>8))=false:=hb;rw[aW];simp only[j7,aH,qu];exact ū hl n (i+1) aa
theorem Ŭ{ws:iR}(hl:ws.length<=100):∀(n i:H)(acc:WL),i+n=min ws.length 15->acc.length=i->CS ws (i:d) acc=G (ws,acc++((ws.take 15).drop i).map λy=>y.1)
 |0,i,acc,hi,ha=>by
  rw[YH,jc ax];simp only[j5L,show A ws.length=(ws.length:d) from rfl]
  have:cond (E ((i:d)<(ws.length:d))) (E ((i:d)<=14)) N=false:=by
   by_cases h:(i:d)<(ws.length:d)
   .rw[ah h,aj (show¬(i:d)<=14 by omega)];rfl
   .rw[aj h];rfl
  rw[this,j7,aS];simp
 |n+1,i,acc,hi,ha=>by
  have an:i<ws.length:=aa;have mo:i<(ws.take 15).length:=ax;have aR:ws.getD i (((0:d),(0:d)),(0:d))=ws[i]:=by simp[F,an]
  have ih:=Ŭ hl n (i+1) (acc++[ws[i].1]) aa ax;rw[YH,jb mo];simp only[j5L,kf,show A ws.length=(ws.length:d) from rfl];rw[ah (show (i:d)<(ws.length:d) by omega),ah (show (i:d)<=14 by omega),bD,al (x:=(i:d)+1),ah (show acc.length+1<=aM by simp[aM];omega)];simp only[j6,j8,aR,aH,List.getElem_take,ke];rw[jj]at ih;exact ih
theorem ŭ{ws:iR}(hl:ws.length<=100):∃c,jfo ws=G c/\jhH ws=G c/\(c=0->H0 ws):=by
 have e0:jeb ws=G (ws.map λy=>y.1):=by have:=ĵ (ws:=ws) hl ws.length 0 [] aa rfl;simp only[jeb];rw[show FH ws (A ws.length) 0 []=_ from this];simp
 have e1:CS ws 0 []=G (ws,(ws.take 15).map λy=>y.1):=by have:=Ŭ (ws:=ws) hl (min ws.length 15) 0 [] aa rfl;rw[show CS ws 0 []=_ from this];simp
 obtain⟨c,c1,c2,c3⟩:=jBR (ws.map λy=>y.1)
 have c4:j3g ((ws.take 15).map λy=>y.1)=G c:=by
  by_cases h15:ws.length<=15
  .rw[I h15];exact c2
  .have h1:j3g (ws.map λy=>y.1)=G 5:=by simp only[j3g,show A (ws.map λy=>y.1).length=((ws.map λy=>y.1).length:d) from rfl];rw[ah ax,j6]
   have h2:j3g ((ws.take 15).map λy=>y.1)=G 5:=by simp only[j3g,show A ((ws.take 15).map λy=>y.1).length=(((ws.take 15).map λy=>y.1).length:d) from rfl];rw[ah ax,j6]
   rw[h2,<-c2,h1]
 simp only[jfo,jhH,e0,e1,j4,c1,c4];by_cases h0:c=0
 .subst h0;obtain⟨w1,w2⟩:=c3 rfl;have UP:ws.length<=14:=by simpa using w2
  obtain⟨q,f1,f2⟩:=Ū hl ws.length 0 aa;have f3:=ū hl ws.length 0 aa;rw[jm]at f2 f3;simp only[jh,j7,j1B,j1M];rw[show FJ ws (A ws.length) 0=_ from f1,show FK ws 0=_ from f3];rcases f2 with⟨rfl,hn⟩|⟨⟨k,rfl⟩,hy⟩
  .rw[hn];refine⟨0,rfl,rfl,λ_=>⟨w1,UP,λy hy=>?_⟩⟩;have:=qz.1 hn y hy;unfold ru at this;by_cases g1:y.2<1
   .rw[ah g1]at this;simp at this
   .rw[aj g1]at this;simp only[j7,jo]at this;omega
  .rw[hy];refine⟨1,?_,rfl,ae⟩;simp only[j4,sumC];rw[ah (show (k:d)>=0 by omega)];rfl
 .rw[show (c != 0)=J from bne_iff_ne.2 h0];exact⟨c,rfl,rfl,λh=>absurd h h0⟩
theorem UQ:∀(b c a:D bB),eE a (b++c)=eE (eE a b) c
 |[],c,a=>rfl
 |x::b,c,a=>by simp only[z7,eE];exact UQ b c (ad x a)
structure pz(np:H)(o:D bB):Prop where
 pw:o.Pairwise λy z=>y.1<z.1
 key:∀y∈o,0<=y.1/\y.1<(np:d)
theorem pz.ad{np:H}{o:D bB}(h:pz np o){x:bB}(h0:0<=x.1)(h1:x.1<(np:d)):pz np (ad x o):=
 ⟨UI x h.pw,λy hy=>by
  rcases (L0 y.1 x o).1 (jr.2 ⟨y,hy,rfl⟩) with e|hm
  .omega
  .obtain⟨z,hz,e⟩:=jr.1 hm;have:=h.key z hz;omega⟩
theorem Ů:∀{o:D bB}{lo hi:d},lo<=hi->(o.Pairwise λy z=>y.1<z.1)->(∀y∈o,lo<=y.1/\y.1<hi)->(o.length:d)<=hi-lo
 |[],lo,hi,h,_,_=>ax
 |y::r,lo,hi,h,hp,hk=>by
  have hc:=kb.1 hp;have h1:=hk y ae;have:=Ů (lo:=y.1+1) (hi:=hi) aa hc.2 λz hz=>⟨by have:=hc.1 z hz;omega,(hk z (by simp[hz])).2⟩;simp only[jk];omega
theorem pz.len{np:H}{o:D bB}(h:pz np o):o.length<=np:=by
 have:=Ů (lo:=0) (hi:=(np:d)) aa h.pw h.key;omega
def gh(S:bE):D bB:=S.filterMap λs=>if 0<=s.2.2 then G (s.2.2,(s.2.1-s.1,s.2.1-s.1)) else none
def L3(np:H)(s:d×(d×d)):Prop:=s.2.2<(np:d)/\0<=s.1/\s.1<s.2.1/\s.2.1<=8589934592/\s.2.1-s.1<=1209600
theorem UR{np:H}(nB:np<=900){S:bE}(hl:S.length<=100000)(hS:∀s∈S,L3 np s){a b z:d}{ws:iR}{zs:D bF}{ps:D cR}{cs:D aV}{ss:D cW}:∀(n i:H)(out:D bB)(B:d),i+n=S.length->pz np out->0<=B->
  B+8467200*(n:d)<=1000000000000000->(∀y∈out,lg B y)->
  GJ a b z ws (i:d) zs ps cs ss S out=G (a,b,z,ws,zs,ps,cs,ss,S,eE out (gh (S.drop i)))/\pz np (eE out (gh (S.drop i)))/\∀y∈eE out (gh (S.drop i)),lg (B+8467200*(n:d)) y
 |0,i,out,B,hi,ho,hB,_,cd=>by
  rw[_c,jc aa];refine⟨?_,ho,λy hy=>(cd y hy).mono aa⟩;simp only[j65,show A S.length=(S.length:d) from rfl];rw[aj aa,j7,aS];rfl
 |n+1,i,out,B,hi,ho,hB,L2,cd=>by
  have an:i<S.length:=aa;have aR:S.getD i ((0:d),((0:d),(0:d)))=S[i]:=by simp[F,an]
  obtain⟨h1,h2,h3,h4,h5⟩:=hS _ (jg an);have hlen:=ho.len;rw[_c,jb an];simp only[j65,show A S.length=(S.length:d) from rfl];rw[ah (show (i:d)<(S.length:d) by omega),bY (show (0:d)<=(i:d) by omega) aa,al (x:=(i:d)+1)];simp only[j6,j8,aR];by_cases h0:S[i].2.2>=0
  .have hx:lg 8467200 (S[i].2.2,(S[i].2.1-S[i].1,S[i].2.1-S[i].1)):=⟨by show 0<=S[i].2.1-S[i].1;omega,by show S[i].2.1-S[i].1<=_;omega,by show 0<=S[i].2.1-S[i].1;omega,by show S[i].2.1-S[i].1<=_;omega⟩;have e:gh (S[i]::S.drop (i+1))=(S[i].2.2,(S[i].2.1-S[i].1,S[i].2.1-S[i].1))::gh (S.drop (i+1)):=by unfold gh;rw[qn,if_pos aa]
   rw[ah h0,j6,al (x:=S[i].2.1-S[i].1),UH aa (λy hy=>by
    obtain⟨c1,c2,c3,c4⟩:=cd y hy;exact⟨c1,aa,c3,aa⟩) (by obtain⟨c1,c2,c3,c4⟩:=hx;exact⟨c1,aa,c3,aa⟩),e]
   simp only[j4,aH,eE];have:=UR nB hl hS (a:=a) (b:=b) (z:=z) (ws:=ws) (zs:=zs) (ps:=ps) (cs:=cs) (ss:=ss) n (i+1) (ad (S[i].2.2,(S[i].2.1-S[i].1,S[i].2.1-S[i].1)) out) (B+8467200) aa (ho.ad (by show 0<=S[i].2.2;omega) h1) aa aa (L1 aa hB hx cd);rw[show B+8467200*((n+1:H):d)=B+8467200+8467200*(n:d) by omega];exact this
  .have e:gh (S[i]::S.drop (i+1))=gh (S.drop (i+1)):=by unfold gh;rw[qn,if_neg aa]
   rw[aj h0,j7,e];simp only[aH];have:=UR nB hl hS (a:=a) (b:=b) (z:=z) (ws:=ws) (zs:=zs) (ps:=ps) (cs:=cs) (ss:=ss) n (i+1) out B aa ho hB aa cd;exact⟨this.1,this.2.1,λy hy=>(this.2.2 y hy).mono aa⟩
def iC(g:d):H->bE->SL->D bB
 |n+1,s::S,u::T=>(if 0<(if u.2<s.2.1 then u.2 else s.2.1)-(if u.1>s.1 then u.1 else s.1)/\0<=s.2.2 then [(s.2.2,((0:d),((if u.2<s.2.1 then u.2 else s.2.1)-(if u.1>s.1 then u.1 else s.1))*g))] else [])++
  (if s.2.1<=u.2 then iC g n S (u::T) else iC g n (s::S) T)
 |_,_,_=>[]
theorem jHR{np:H}(nB:np<=900){S:bE}(hl:S.length<=100000)(hS:∀s∈S,L3 np s){T:SL}(hT:T.length<=100000)(hTb:∀u∈T,0<=u.1/\u.1<=8589934592/\0<=u.2/\u.2<=8589934592){a b z:d}{ws:iR}(hw:∀y∈ws,1<=y.2/\y.2<=8){k:H}(hk:k<ws.length)
  {zs:D bF}{ps:D cR}{cs:D aV}{ss:D cW}:∀(n i j:H)(out:D bB)(B:d),i<=S.length->j<=T.length->(S.length-i)+(T.length-j)<=n->pz np out->0<=B->B+8467200*(n:d)<=1000000000000000->(∀y∈out,lg B y)->
  AW a b z ws (k:d) (i:d) (j:d) zs ps cs ss S out T=G (a,b,z,ws,(k:d),zs,ps,cs,ss,S,eE out (iC (ws[k].2-1) n (S.drop i) (T.drop j)))/\
   pz np (eE out (iC (ws[k].2-1) n (S.drop i) (T.drop j)))/\∀y∈eE out (iC (ws[k].2-1) n (S.drop i) (T.drop j)),lg (B+8467200*(n:d)) y:=by
 have stop:∀(n i j:H)(out:D bB)(B:d),(i=S.length\/j=T.length)->pz np out->0<=B->(∀y∈out,lg B y)->
   AW a b z ws (k:d) (i:d) (j:d) zs ps cs ss S out T=G (a,b,z,ws,(k:d),zs,ps,cs,ss,S,eE out (iC (ws[k].2-1) n (S.drop i) (T.drop j)))/\
    pz np (eE out (iC (ws[k].2-1) n (S.drop i) (T.drop j)))/\∀y∈eE out (iC (ws[k].2-1) n (S.drop i) (T.drop j)),lg (B+8467200*(n:d)) y:=by
  intro n i j out B h ho hB cd
  have e:iC (ws[k].2-1) n (S.drop i) (T.drop j)=[]:=by
   rcases h with h|h
   .rw[jc aa];cases n<;>rfl
   .rw[jc (l:=T) aa];cases n<;>cases S.drop i<;>rfl
  rw[e];refine⟨?_,ho,λy hy=>(cd y hy).mono aa⟩;rw[_d];simp only[j66,show A S.length=(S.length:d) from rfl,show A T.length=(T.length:d) from rfl]
  have:cond (E ((i:d)<(S.length:d))) (E ((j:d)<(T.length:d))) N=false:=by
   rcases h with h|h
   .rw[aj aa];rfl
   .rw[aj (show¬(j:d)<(T.length:d) by omega)];cases E ((i:d)<(S.length:d))<;>rfl
  rw[this,j7,aS];rfl
 intro n;induction n with
 |zero=>intro i j out B hi hj hn ho hB L2 cd;exact stop 0 i j out B aa ho hB cd
 |succ n ih=>
  intro i j out B hi hj hn ho hB L2 cd;by_cases fg:i=S.length\/j=T.length
  .exact stop (n+1) i j out B fg ho hB cd
  have an:i<S.length:=aa;have L4:j<T.length:=aa;have aR:S.getD i ((0:d),((0:d),(0:d)))=S[i]:=by simp[F,an]
  have yA:T.getD j ((0:d),(0:d))=T[j]:=by simp[F,L4]
  have ES:ws.getD k (((0:d),(0:d)),(0:d))=ws[k]:=by simp[F,hk]
  obtain⟨h1,h2,h3,h4,h5⟩:=hS _ (jg an);obtain⟨t1,t2,t3,t4⟩:=hTb _ (jg L4);obtain⟨w1,w2⟩:=hw _ (jg hk);have hlen:=ho.len;rw[_d,jb an,jb L4];simp only[j66,show A S.length=(S.length:d) from rfl,show A T.length=(T.length:d) from rfl,iC]
  rw[ah (show (i:d)<(S.length:d) by omega),ah (show (j:d)<(T.length:d) by omega),bY (show (0:d)<=(i:d) by omega) (show (i:d)<(S.length:d) by omega),bY (show (0:d)<=(j:d) by omega) (show (j:d)<(T.length:d) by omega),
   bY (show (0:d)<=(k:d) by omega) (show (k:d)<(ws.length:d) by omega),al (x:=(i:d)+1),al (x:=(j:d)+1)]
  simp only[j6,zd,j8,aR,yA,ES];obtain⟨m,hm⟩:∃m,m=(if T[j].2<S[i].2.1 then T[j].2 else S[i].2.1)-(if T[j].1>S[i].1 then T[j].1 else S[i].1):=⟨_,rfl⟩;have fH:m<=1209600 /\ -8589934592<=m:=by rw[hm];constructor<;>(split<;>split<;>omega)
  rw[<-hm,al (x:=m),al (x:=ws[k].2-1)]
  have next:∀(gT:D bB)(B':d),pz np gT->0<=B'->B'<=B+8467200->(∀y∈gT,lg B' y)->
    (lpK (cond (E (S[i].2.1<=T[j].2)) (G (.inl (a,b,z,ws,(k:d),(i:d)+1,(j:d),zs,ps,cs,ss,S,gT,T))) (G (.inl (a,b,z,ws,(k:d),(i:d),(j:d)+1,zs,ps,cs,ss,S,gT,T))))
     (λh=>AW h.1 h.2.1 h.2.2.1 h.2.2.2.1 h.2.2.2.2.1 h.2.2.2.2.2.1 h.2.2.2.2.2.2.1 h.2.2.2.2.2.2.2.1 h.2.2.2.2.2.2.2.2.1 h.2.2.2.2.2.2.2.2.2.1 h.2.2.2.2.2.2.2.2.2.2.1 h.2.2.2.2.2.2.2.2.2.2.2.1 h.2.2.2.2.2.2.2.2.2.2.2.2.1 h.2.2.2.2.2.2.2.2.2.2.2.2.2))=
     G (a,b,z,ws,(k:d),zs,ps,cs,ss,S,eE gT (if S[i].2.1<=T[j].2 then iC (ws[k].2-1) n (S.drop (i+1)) (T[j]::T.drop (j+1)) else iC (ws[k].2-1) n (S[i]::S.drop (i+1)) (T.drop (j+1))))/\
    pz np (eE gT (if S[i].2.1<=T[j].2 then iC (ws[k].2-1) n (S.drop (i+1)) (T[j]::T.drop (j+1)) else iC (ws[k].2-1) n (S[i]::S.drop (i+1)) (T.drop (j+1))))/\
    ∀y∈eE gT (if S[i].2.1<=T[j].2 then iC (ws[k].2-1) n (S.drop (i+1)) (T[j]::T.drop (j+1)) else iC (ws[k].2-1) n (S[i]::S.drop (i+1)) (T.drop (j+1))),lg (B+8467200*((n+1:H):d)) y:=by
   intro gT B' uB ů hBB yM;by_cases hc:S[i].2.1<=T[j].2
   .rw[ah hc,if_pos hc,j6,aH];have:=ih (i+1) j gT B' aa hj aa uB ů aa yM;rw[jb L4]at this;exact⟨this.1,this.2.1,λy hy=>(this.2.2 y hy).mono aa⟩
   .rw[aj hc,if_neg hc,j7,aH];have:=ih i (j+1) gT B' hi aa aa uB ů aa yM;rw[jb an]at this;exact⟨this.1,this.2.1,λy hy=>(this.2.2 y hy).mono aa⟩
  by_cases h0:0<m/\0<=S[i].2.2
  .have nk:0<=m*(ws[k].2-1):=zq aa aa;have ub:m*(ws[k].2-1)<=1209600*7:=yn aa aa aa aa;have hx:lg 8467200 (S[i].2.2,((0:d),m*(ws[k].2-1))):=⟨k7 _,by show (0:d)<=8467200;omega,nk,by show m*(ws[k].2-1)<=8467200;omega⟩;rw[ah (show m>0 by omega),ah (show S[i].2.2>=0 by omega),if_pos h0,al (x:=m*(ws[k].2-1))];simp only[j6]
   rw[UH aa (λy hy=>by
    obtain⟨c1,c2,c3,c4⟩:=cd y hy;exact⟨c1,aa,c3,aa⟩) (by obtain⟨c1,c2,c3,c4⟩:=hx;exact⟨c1,aa,c3,aa⟩)]
   simp only[j4,List.singleton_append,eE];exact next _ (B+8467200) (ho.ad (by show 0<=S[i].2.2;omega) h1) aa (k7 _) (L1 aa hB hx cd)
  .have gz:cond (E (m>0)) (E (S[i].2.2>=0)) N=false:=by
    by_cases mS:m>0
    .rw[ah mS,aj (show¬S[i].2.2>=0 by omega)];rfl
    .rw[aj mS];rfl
   rw[gz,if_neg h0];simp only[j7,jw];exact next out B ho hB aa cd
end Go.Proofs.Pw
