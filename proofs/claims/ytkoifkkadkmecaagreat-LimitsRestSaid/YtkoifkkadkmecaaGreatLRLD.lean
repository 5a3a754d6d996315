/- NJ of arguments and Cx: what is known of them but the data. W8. -/
import Derived.Test.YtkoifkkadkmecaaGreatLRLC
import Derived.KernelRfl
import Derived.IntWalk
import Derived.Below
import Derived.ChangeSame
open _root_ renaming List->D,Option->I,Nat->M,DecidableEq->Å,Int->Æ,Bool->È,Array->Ó,Inv->ã,True->æ
open Option renaming some->G,none->O,map_eq_some_iff->Ñ
open Go.Exit renaming inBlock->U
open Go.DataW renaming trod->X,TrodAll->Ý,Trod->ç
open Go.Code renaming region->Y,cond->Ë,block->Î
open Bool renaming false->Z,true->Ã
open Go renaming Program->À,World->Á,Value->Â,Act->Ç,TypeId->Ì,MemPlace->Ð,Code->Õ,Oper->Ö,DataW->Ü,Func->á,Addr->ê
open List renaming length->Ä,getElem?_append_left->É,getD->Ô,range->Ø,length_range->Ù,mapM_cons->Ú,isEmpty->Þ,range'->â
open Decidable renaming decide->Ê
open Go.Region renaming wanted->Í
open Go.Value renaming okWide->Ï
open Int renaming toNat->Ò,ofNat->è
noncomputable section
set_option linter.unusedVariables false
namespace Go.Lft
inductive CPat where
 |v (t:Ty)
 |p (ts:D Ty)
 deriving Å
inductive LPat where
 |dead|nil
 |d (t:Ty)
 |ol (k:M)
 |bp (k c:M)
 |ep (k i c:M)
 |tl (k:M)
 |hd (k:M)
 |ip (ts:D Ty)
 |clo (f:M) (bN:D CPat)
 deriving Å
inductive KPat where
 |one (l:LPat)
 |st (ls:D LPat)
 |av (n:M) (a:Ty)
 deriving Å
inductive BPat where
 |free|gone
 |cell (ls:D LPat) (frz:È)
 |lst (e:M) (a:Ty) (frz:È)
 |arr (n:M) (a:Ty)
 deriving Å
inductive IPat where
 |s (c:KPat)
 |b (x:BPat)
 deriving Å
abbrev iT:Ty:= .int .i64
abbrev sI:IPat:= .s (.one (.d iT))
abbrev sD(t:Ty):IPat:= .s (.one (.d t))
abbrev sO(k:M):IPat:= .s (.one (.ol k))
abbrev sB(k c:M):IPat:= .s (.one (.bp k c))
abbrev sC(f:M)(l:D CPat):IPat:= .s (.one (.clo f l))
inductive APat where
 |v (t:Ty)
 |ref (ts:D Ty)
 |rl (e:M) (t:Ty)
 |ip (ts:D Ty)
 |clo (f:M) (bN:D CPat)
 |mv (e:M) (t:Ty)
 deriving Å
@[reducible] def HL:List Ty->Type
 |[]=>Unit
 |[t]=>t.den
 |t::t'::ts=>t.den×HL (t'::ts)
def ofHL:(ts:D Ty)->HL ts->D TV
 |[],_=>[]
 |[t],h=>[⟨t,h⟩]
 |t::t'::ts,h=>⟨t,h.1⟩::ofHL (t'::ts) h.2
def toHL:(ts:D Ty)->D TV->I (HL ts)
 |[],[]=>G ()
 |[t],[x]=>x.to t
 |t::t'::ts,x::xs=>match x.to t with
  |some v=>match toHL (t'::ts) xs with
   |some r=>G (v,r)
   |none=>O
  |none=>O
 |_,_=>O
theorem IB:∀{ts:D Ty}{xs:D TV}{h:HL ts},toHL ts xs=G h->xs=ofHL ts h
 |[],[],_,_=>rfl
 |[],_::_,_,h=>by simp[toHL]at h
 |[_],[],_,h=>by simp[toHL]at h
 |[t],[x],hl,h=>by
  simp only[toHL]at h;rw[oG h];rfl
 |[t],x::y::xs,hl,h=>by simp[toHL]at h
 |_::_::_,[],_,h=>by simp[toHL]at h
 |t::t'::ts,x::xs,hl,h=>by
  simp only[toHL]at h;split at h
  .rename_i v hv;split at h
   .rename_i r hr;simp only[j5]at h;subst h;rw[oG hv,IB hr];rfl
   .simp at h
  .simp at h
def capP:Cap->CPat×D TV
 |.v x=>(.v x.t,[x])
 |.p ls=>(.p (ls.map (·.t)),ls)
def pX:D Cap->D CPat×D TV
 |[]=>([],[])
 |c::cs=>((capP c).1::(pX cs).1,(capP c).2++(pX cs).2)
def tv0:TV:=⟨.unit,()⟩
def capF:CPat->D TV->Cap
 |.v _,xs=> .v (xs.headD tv0)
 |.p ts,xs=> .p (xs.take ts.length)
def CPat.n:CPat->M
 |.v _=>1
 |.p ts=>ts.length
def Cy:D CPat->D TV->D Cap
 |[],_=>[]
 |c::cs,xs=>capF c xs::Cy cs (xs.drop c.n)
def Cz:D CPat->M
 |[]=>0
 |c::cs=>c.n+Cz cs
theorem jFN(c:Cap)(r:D TV):capF (capP c).1 ((capP c).2++r)=c/\(capP c).1.n=(capP c).2.length:=by
 cases c with
 |v x=>exact⟨rfl,rfl⟩
 |p ls=>simp[capP,capF,CPat.n]
theorem IC:∀(cs:D Cap)(r:D TV),Cy (pX cs).1 ((pX cs).2++r)=cs/\Cz (pX cs).1=(pX cs).2.length
 |[],r=>⟨rfl,rfl⟩
 |c::cs,r=>by
  simp only[pX,Cy,Cz,jh,jc];have h1:=jFN c ((pX cs).2++r);have h2:=IC cs r;rw[h1.1,h1.2,ye,h2.1,h2.2];exact⟨rfl,rfl⟩
def uV:Leaf->LPat×D TV
 |.dead=>(.dead,[])
 |.nil=>(.nil,[])
 |.d t v=>(.d t,[⟨t,v⟩])
 |.ol k=>(.ol k,[])
 |.bp k c=>(.bp k c,[])
 |.ep k i c=>(.ep k i c,[])
 |.tl k i=>(.tl k,[⟨.int .i64,(i:Æ)⟩])
 |.hd k i=>(.hd k,[⟨.int .i64,(i:Æ)⟩])
 |.ip ls=>(.ip (ls.map (·.t)),ls)
 |.clo f bN=>(.clo f (pX bN).1,(pX bN).2)
def NK:TV->M
 |⟨.int _,v⟩=>Ò v
 |_=>0
def LPat.n:LPat->M
 |.d _=>1
 |.tl _=>1
 |.hd _=>1
 |.ip ts=>ts.length
 |.clo _ cs=>Cz cs
 |_=>0
def EG:LPat->D TV->Leaf
 |.dead,_=> .dead
 |.nil,_=> .nil
 |.d _,xs=> .d (xs.headD tv0).t (xs.headD tv0).v
 |.ol k,_=> .ol k
 |.bp k c,_=> .bp k c
 |.ep k i c,_=> .ep k i c
 |.tl k,xs=> .tl k (NK (xs.headD tv0))
 |.hd k,xs=> .hd k (NK (xs.headD tv0))
 |.ip ts,xs=> .ip (xs.take ts.length)
 |.clo f cs,xs=> .clo f (Cy cs xs)
theorem W9(l:Leaf)(r:D TV):EG (uV l).1 ((uV l).2++r)=l/\(uV l).1.n=(uV l).2.length:=by
 cases l with
 |ip ls=>simp[uV,EG,LPat.n]
 |clo f cs=>have:=IC cs r;simp only[uV,EG,LPat.n];exact⟨by rw[this.1],this.2⟩
 |_=>exact⟨rfl,rfl⟩
def sb:D Leaf->D LPat×D TV
 |[]=>([],[])
 |c::cs=>((uV c).1::(sb cs).1,(uV c).2++(sb cs).2)
def EH:D LPat->D TV->D Leaf
 |[],_=>[]
 |c::cs,xs=>EG c xs::EH cs (xs.drop c.n)
def EI:D LPat->M
 |[]=>0
 |c::cs=>c.n+EI cs
theorem NL:∀(cs:D Leaf)(r:D TV),EH (sb cs).1 ((sb cs).2++r)=cs/\EI (sb cs).1=(sb cs).2.length
 |[],r=>⟨rfl,rfl⟩
 |c::cs,r=>by
  simp only[sb,EH,EI,jh,jc];have h1:=W9 c ((sb cs).2++r);have h2:=NL cs r;rw[h1.1,h1.2,ye,h2.1,h2.2];exact⟨rfl,rfl⟩
def celP:Cel->KPat×D TV
 |.one l=>(.one (uV l).1,(uV l).2)
 |.st ls=>(.st (sb ls).1,(sb ls).2)
 |.av n a xs=>(.av n a,[⟨.list a,xs⟩])
def EJ(a:Ty)(xs:D TV):D a.den:=((xs.headD tv0).to (.list a)).getD []
theorem NM(a:Ty)(xs:D a.den)(r:D TV):EJ a (⟨.list a,xs⟩::r)=xs:=by
 simp[EJ,TV.to]
def KPat.n:KPat->M
 |.one l=>l.n
 |.st ls=>EI ls
 |.av _ _=>1
def celF:KPat->D TV->Cel
 |.one l,xs=> .one (EG l xs)
 |.st ls,xs=> .st (EH ls xs)
 |.av n a,xs=> .av n a (EJ a xs)
theorem jFO(c:Cel)(r:D TV):celF (celP c).1 ((celP c).2++r)=c/\(celP c).1.n=(celP c).2.length:=by
 cases c with
 |one l=>have:=W9 l r;exact⟨by simp only[celP,celF];rw[this.1],this.2⟩
 |st ls=>have:=NL ls r;exact⟨by simp only[celP,celF];rw[this.1],this.2⟩
 |av n a xs=>exact⟨by simp only[celP,celF,qp,jp];rw[NM],rfl⟩
def bsP:BS->BPat×D TV
 |.free=>(.free,[])
 |.gone=>(.gone,[])
 |.live (.cell ls f)=>(.cell (sb ls).1 f,(sb ls).2)
 |.live (.lst e a xs f)=>(.lst e a f,[⟨.list a,xs⟩])
 |.live (.arr n a xs)=>(.arr n a,[⟨.list a,xs⟩])
def BPat.n:BPat->M
 |.free|.gone=>0
 |.cell ls _=>EI ls
 |.lst _ _ _=>1
 |.arr _ _=>1
def bsF:BPat->D TV->BS
 |.free,_=> .free
 |.gone,_=> .gone
 |.cell ls f,xs=> .live (.cell (EH ls xs) f)
 |.lst e a f,xs=> .live (.lst e a (EJ a xs) f)
 |.arr n a,xs=> .live (.arr n a (EJ a xs))
theorem jHv(c:BS)(r:D TV):bsF (bsP c).1 ((bsP c).2++r)=c/\(bsP c).1.n=(bsP c).2.length:=by
 cases c with
 |free=>exact⟨rfl,rfl⟩
 |gone=>exact⟨rfl,rfl⟩
 |live b=>
  cases b with
  |cell ls f=>have:=NL ls r;exact⟨by simp only[bsP,bsF];rw[this.1],this.2⟩
  |lst e a xs f=>exact⟨by simp only[bsP,bsF,qp,jp];rw[NM],rfl⟩
  |arr n a xs=>exact⟨by simp only[bsP,bsF,qp,jp];rw[NM],rfl⟩
def itP:Item->IPat×D TV
 |.s c=>(.s (celP c).1,(celP c).2)
 |.b x=>(.b (bsP x).1,(bsP x).2)
def IPat.n:IPat->M
 |.s c=>c.n
 |.b x=>x.n
def itF:IPat->D TV->Item
 |.s c,xs=> .s (celF c xs)
 |.b x,xs=> .b (bsF x xs)
theorem jHw(c:Item)(r:D TV):itF (itP c).1 ((itP c).2++r)=c/\(itP c).1.n=(itP c).2.length:=by
 cases c with
 |s c=>have:=jFO c r;exact⟨by simp only[itP,itF];rw[this.1],this.2⟩
 |b x=>have:=jHv x r;exact⟨by simp only[itP,itF];rw[this.1],this.2⟩
def wD:Snap->D IPat×D TV
 |[]=>([],[])
 |c::cs=>((itP c).1::(wD cs).1,(itP c).2++(wD cs).2)
def ID:D IPat->D TV->Snap
 |[],_=>[]
 |c::cs,xs=>itF c xs::ID cs (xs.drop c.n)
theorem Xa:∀(cs:Snap),ID (wD cs).1 (wD cs).2=cs
 |[]=>rfl
 |c::cs=>by
  simp only[wD,ID];have h1:=jHw c (wD cs).2;rw[h1.1,h1.2,ye,Xa cs]
def pack(ps:D IPat)(ts:D Ty)(h:HL ts):Snap:=ID ps (ofHL ts h)
def wE(ps:D IPat)(ts:D Ty)(s:Snap):I (HL ts):=
 if (wD s).1=ps then toHL ts (wD s).2 else O
theorem EK{ps:D IPat}{ts:D Ty}{s:Snap}{h:HL ts}(hs:wE ps ts s=G h):s=pack ps ts h:=by
 unfold wE at hs;split at hs
 .rename_i hp;have:=IB hs;rw[pack,<-this,<-hp,Xa]
 .simp at hs
def argP:Arg->APat×D TV
 |.v x=>(.v x.t,[x])
 |.ref ls=>(.ref (ls.map (·.t)),ls)
 |.rl e x=>(.rl e x.t,[x])
 |.ip ls=>(.ip (ls.map (·.t)),ls)
 |.clo f cs=>(.clo f (pX cs).1,(pX cs).2)
 |.mv e x=>(.mv e x.t,[x])
def APat.n:APat->M
 |.v _=>1
 |.ref ts=>ts.length
 |.rl _ _=>1
 |.ip ts=>ts.length
 |.clo _ cs=>Cz cs
 |.mv _ _=>1
def argF:APat->D TV->Arg
 |.v _,xs=> .v (xs.headD tv0)
 |.ref ts,xs=> .ref (xs.take ts.length)
 |.rl e _,xs=> .rl e (xs.headD tv0)
 |.ip ts,xs=> .ip (xs.take ts.length)
 |.clo f cs,xs=> .clo f (Cy cs xs)
 |.mv e _,xs=> .mv e (xs.headD tv0)
theorem jFP(c:Arg)(r:D TV):argF (argP c).1 ((argP c).2++r)=c/\(argP c).1.n=(argP c).2.length:=by
 cases c with
 |v x=>exact⟨rfl,rfl⟩
 |rl e x=>exact⟨rfl,rfl⟩
 |mv e x=>exact⟨rfl,rfl⟩
 |ref ls=>simp[argP,argF,APat.n]
 |ip ls=>simp[argP,argF,APat.n]
 |clo f cs=>have:=IC cs r;exact⟨by simp only[argP,argF];rw[this.1],this.2⟩
def wF:D Arg->D APat×D TV
 |[]=>([],[])
 |c::cs=>((argP c).1::(wF cs).1,(argP c).2++(wF cs).2)
def CA:D APat->D TV->D Arg
 |[],_=>[]
 |c::cs,xs=>argF c xs::CA cs (xs.drop c.n)
theorem Xb:∀(cs:D Arg),CA (wF cs).1 (wF cs).2=cs
 |[]=>rfl
 |c::cs=>by
  simp only[wF,CA];have h1:=jFP c (wF cs).2;rw[h1.1,h1.2,ye,Xb cs]
def sd(ps:D APat)(ts:D Ty)(h:HL ts):D Arg:=CA ps (ofHL ts h)
def IE(ps:D APat)(ts:D Ty)(s:D Arg):I (HL ts):=
 if (wF s).1=ps then toHL ts (wF s).2 else O
theorem IF{ps:D APat}{ts:D Ty}{s:D Arg}{h:HL ts}(hs:IE ps ts s=G h):s=sd ps ts h:=by
 unfold IE at hs;split at hs
 .rename_i hp;have:=IB hs;rw[sd,<-this,<-hp,Xb]
 .simp at hs
theorem NN{α β:Type}{f:α->I (α ⊕ β)}:∀{n m:M}{s:α}{x y:β},loopN f n s=G x->loopN f m s=G y->x=y
 |0,_,_,_,_,h,_=>by simp[loopN]at h
 |_+1,0,_,_,_,_,h=>by simp[loopN]at h
 |n+1,m+1,s,x,y,h,h'=>by
  simp only[loopN]at h h';cases hf:f s with
  |none=>simp[hf]at h
  |some r=>
   cases r with
   |inl s'=>simp only[hf]at h h';exact NN h h'
   |inr z=>simp only[hf,j5]at h h';rw[<-h,<-h']
open Classical in
def loopOpt{α β:Type}(f:α->I (α ⊕ β))(s:α):I β:=
 match loopN f 100000 s with
 |some x=>G x
 |none=>if h:∃x n,loopN f n s=G x then G h.choose else O
theorem EL{α β:Type}{f:α->I (α ⊕ β)}{s:α}{n:M}{x:β}(h:loopN f n s=G x):loopOpt f s=G x:=by
 unfold loopOpt;split
 .rename_i y hy;rw[NN hy h]
 have hx:∃x n,loopN f n s=G x:=⟨x,n,h⟩;rw[dif_pos hx];obtain⟨m,hm⟩:=hx.choose_spec;rw[NN hm h]
theorem EM{α β:Type}{f:α->I (α ⊕ β)}{s:α}{x:β}(h:loopOpt f s=G x):∃n,loopN f n s=G x:=by
 unfold loopOpt at h;split at h
 .rename_i hy;exact⟨100000,by rw[hy,h]⟩
 split at h
 .rename_i hx;simp only[j5]at h;obtain⟨m,hm⟩:=hx.choose_spec;exact⟨m,by rw[<-h];exact hm⟩
 .simp at h
theorem jt1{α β:Type}{f:α->I (α ⊕ β)}{s s':α}(h:f s=G (.inl s')):loopOpt f s=loopOpt f s':=by
 cases hq:loopOpt f s' with
 |some x=>obtain⟨n,hn⟩:=EM hq;exact EL (n:=n+1) (by simp only[loopN,h];exact hn)
 |none=>
  cases hp:loopOpt f s with
  |none=>rfl
  |some x=>
   obtain⟨n,hn⟩:=EM hp;cases n with
   |zero=>simp[loopN]at hn
   |succ n=>simp only[loopN,h]at hn;rw[EL hn]at hq;simp at hq
theorem juH{α β:Type}{f:α->I (α ⊕ β)}{s:α}{x:β}(h:f s=G (.inr x)):loopOpt f s=G x:=
 EL (n:=1) (by simp only[loopN,h])
theorem Xc{α β A B:Type}{f:α->I (α ⊕ β)}{g:A->I (A ⊕ B)}{p:A->α}{q:B->β}
  (h:∀a r,g a=G r->f (p a)=G (match r with|.inl a'=> .inl (p a')|.inr b=> .inr (q b))):∀{n:M}{a:A}{x:B},loopN g n a=G x->loopN f n (p a)=G (q x)
 |0,_,_,hn=>by simp[loopN]at hn
 |n+1,a,x,hn=>by
  simp only[loopN]at hn;cases hg:g a with
  |none=>simp[hg]at hn
  |some r=>
   have:=h a r hg;cases r with
   |inl a'=>simp only[hg]at hn;simp only[loopN,this];exact Xc h hn
   |inr b=>simp only[hg,j5]at hn;subst hn;simp only[loopN,this]
def sumC{α β γ:Type}(x:α ⊕ β)(f:α->γ)(g:β->γ):γ:=match x with
 |.inl a=>f a
 |.inr b=>g b
structure XD where
 ex:Ex
 ps:D IPat
 ts:D Ty
@[reducible] def XT:List XD->Type
 |[]=>Empty
 |[x]=>HL x.ts
 |x::y::r=>HL x.ts ⊕ XT (y::r)
def tH:(l:D XD)->XT l->Ex×Snap
 |[],h=>nomatch h
 |[x],h=>(x.ex,pack x.ps x.ts h)
 |x::y::r,h=>match h with
  |.inl a=>(x.ex,pack x.ps x.ts a)
  |.inr b=>tH (y::r) b
def EN{R:Type}:(l:D XD)->XT l->(Ex->Snap->I R)->I R
 |[],_,_=>O
 |[x],h,k=>k x.ex (pack x.ps x.ts h)
 |x::y::r,h,k=>sumC h (λa=>k x.ex (pack x.ps x.ts a)) (λb=>EN (y::r) b k)
theorem NO{R:Type}:∀(l:D XD)(h:XT l)(k:Ex->Snap->I R),EN l h k=k (tH l h).1 (tH l h).2
 |[],h,_=>nomatch h
 |[x],h,k=>rfl
 |x::y::r,h,k=>by
  cases h with
  |inl a=>rfl
  |inr b=>exact NO (y::r) b k
def unX:(l:D XD)->Ex->Snap->I (XT l)
 |[],_,_=>O
 |[x],e,s=>if e=x.ex then wE x.ps x.ts s else O
 |x::y::r,e,s=>if e=x.ex/\(wD s).1=x.ps then match wE x.ps x.ts s with
   |some a=>G (.inl a)
   |none=>O
  else match unX (y::r) e s with
   |some b=>G (.inr b)
   |none=>O
theorem IG:∀(l:D XD)(e:Ex)(s:Snap)(x:XT l),unX l e s=G x->tH l x=(e,s)
 |[],_,_,_,h=>by simp[unX]at h
 |[x],e,s,h,he=>by
  simp only[unX]at he;split at he
  .rename_i h1;rw[tH,<-EK he,h1]
  .simp at he
 |x::y::r,e,s,h,he=>by
  simp only[unX]at he;split at he
  .rename_i h1;split at he
   .rename_i a ha;simp only[j5]at he;subst he;show (x.ex,pack x.ps x.ts a)=(e,s);rw[<-EK ha,h1.1]
   .simp at he
  .split at he
   .rename_i b hb;simp only[j5]at he;subst he;exact IG (y::r) e s b hb
   .simp at he
structure nM where
 b:M
 ps:D IPat
 ts:D Ty
 exits:D XD
 step:HL ts->I (HL ts ⊕ XT exits)
def wG:D nM->M->Snap->(R:Type)->(Ex->Snap->I R)->I R
 |[],_,_,_,_=>O
 |d::ds,b,s,R,k=>if d.b=b then match wE d.ps d.ts s with
   |some h=>(loopOpt d.step h).bind λx=>EN d.exits x k
   |none=>O
  else wG ds b s R k
theorem NP:∀ds:D nM,LFun (wG ds)
 |[]=>λ_ _=>⟨O,λ_ _=>rfl⟩
 |d::ds=>λb s=>by
  simp only[wG];split
  .split
   .rename_i h _;cases hq:loopOpt d.step h with
    |none=>exact⟨O,λ_ _=>rfl⟩
    |some x=>exact⟨G (tH d.exits x),λR k=>NO d.exits x k⟩
   .exact⟨O,λ_ _=>rfl⟩
  .exact NP ds b s
def uk(E:Env)(d:nM)(e:Ex)(σ:St):I (HL d.ts ⊕ XT d.exits):=
 match e with
 |.normal=>match mh E.np (E.keep d.b) σ with
  |some s=>match wE d.ps d.ts s with
   |some h=>G (.inl h)
   |none=>O
  |none=>O
 |e=>match mh E.np (E.keepX d.b e) σ with
  |some s=>match unX d.exits e s with
   |some x=>G (.inr x)
   |none=>O
  |none=>O
def ukR(E:Env)(d:nM)(ps:Ó M)(x y:Õ)(p:I (D Item))(e:Ex)(σ:St):I (HL d.ts ⊕ XT d.exits):=
 match p,e with
 |some q,.normal=>match mh E.np (E.keep d.b) σ with
  |some s=>match wE d.ps d.ts (q++s) with
   |some h=>G (.inl h)
   |none=>O
  |none=>O
 |_,e=>cond (pinK ps x y (E.keepX d.b e)) (match mh E.np (E.keepX d.b e) σ with
  |some s=>match unX d.exits e s with
   |some x=>G (.inr x)
   |none=>O
  |none=>O) O
def jC0(E:Env)(d:nM)(h:HL d.ts):Õ->I (HL d.ts ⊕ XT d.exits)
 |.rangeFunc g ps x y=>Du E d.b g ps x y (pack d.ps d.ts h) (ukR E d ps x y)
 |c=>gx E d.b c (dJ E.np (E.keep d.b) (pack d.ps d.ts h)) (uk E d)
def IH(E:Env)(c:Õ)(d:nM):Prop:=∀h,jC0 E d h c=d.step h
def outS(d:nM)(r:HL d.ts ⊕ XT d.exits):Snap ⊕ Ex×Snap:=match r with
 |.inl a=> .inl (pack d.ps d.ts a)
 |.inr x=> .inr (tH d.exits x)
theorem jFQ{E:Env}(hF:CFun E.C)(hz:E.nz=Z)(hL:LFun E.L){g:Operand}{ps:Ó M}{x y:Õ}{d:nM}(hs:IH E (.rangeFunc g ps x y) d)(h:HL d.ts)(r:HL d.ts ⊕ XT d.exits):d.step h=G r->
  BX E d.b g ps x y (pack d.ps d.ts h)=G (outS d r):=by
 intro hr;obtain⟨o,ho⟩:=juG hF hz hL d.b g ps x y (pack d.ps d.ts h);rw[<-hs h]at hr;have h1:G r=_:=hr.symm.trans (ho _ (λz=>ukR E d ps x y z.1 z.2.1 z.2.2));cases o with
 |none=>simp at h1
 |some z=>
  obtain⟨p,e,σ⟩:=z;simp only[j4]at h1
  have h2:=ho _ (λz:I (D Item)×Ex×St=>match z.1,z.2.1 with
   |some q,.normal=>match mh E.np (E.keep d.b) z.2.2 with
    |some s'=>G (Sum.inl (q++s'))
    |none=>O
   |_,e=>cond (pinK ps x y (E.keepX d.b e)) (match mh E.np (E.keepX d.b e) z.2.2 with
    |some s'=>G (Sum.inr (e,s'))
    |none=>O) O)
  have h3:BX E d.b g ps x y (pack d.ps d.ts h)=_:=h2;rw[h3,j4];clear h3 h2 hr ho;dsimp only;have h1:=h1.symm;unfold ukR at h1
  have hx:∀e,(cond (pinK ps x y (E.keepX d.b e)) (match mh E.np (E.keepX d.b e) σ with
    |some s=>match unX d.exits e s with
     |some x=>G (Sum.inr x)
     |none=>O
    |none=>O) O:I (HL d.ts ⊕ XT d.exits))=G r->(cond (pinK ps x y (E.keepX d.b e)) (match mh E.np (E.keepX d.b e) σ with
    |some s'=>G (Sum.inr (e,s'))
    |none=>O) O:I (Snap ⊕ Ex×Snap))=G (outS d r):=by
   intro e h1;cases hp:pinK ps x y (E.keepX d.b e) with
   |false=>rw[hp]at h1;simp at h1
   |true=>
    rw[hp,j6]at h1;rw[j6];split at h1
    .rename_i s cW;split at h1
     .rename_i hh hu;simp only[j5]at h1;subst h1;simp only[outS];rw[IG _ _ _ _ hu]
     .simp at h1
    .simp at h1
  cases p with
  |none=>exact hx e h1
  |some q=>
   cases e with
   |normal=>
    dsimp only at h1 ⊢
    split at h1
    .rename_i s cW;split at h1
     .rename_i hh hu;simp only[j5]at h1;subst h1;simp only[outS];rw[<-EK hu]
     .simp at h1
    .simp at h1
   |exit i=>exact hx _ h1
   |ret=>exact hx _ h1
theorem jC1{E:Env}(hF:CFun E.C)(hz:E.nz=Z)(hL:LFun E.L){c:Õ}{d:nM}(hs:∀h,gx E d.b c (dJ E.np (E.keep d.b) (pack d.ps d.ts h)) (uk E d)=d.step h)(h:HL d.ts)(r:HL d.ts ⊕ XT d.exits):d.step h=G r->
  zR E d.b c (pack d.ps d.ts h)=G (match r with|.inl a=> .inl (pack d.ps d.ts a)|.inr x=> .inr (tH d.exits x)):=by
 intro hr;obtain⟨o,ho⟩:=IA hF hz hL c d.b (dJ E.np (E.keep d.b) (pack d.ps d.ts h));rw[<-hs h]at hr;have h1:G r=_:=hr.symm.trans (ho _ (λz=>uk E d z.1 z.2));cases o with
 |none=>simp at h1
 |some z=>
  obtain⟨e,σ⟩:=z;simp only[j4]at h1
  have h2:=ho _ (λz:Ex×St=>match z.1 with
   |.normal=>match mh E.np (E.keep d.b) z.2 with
    |some s'=>G (Sum.inl s')
    |none=>O
   |e=>match mh E.np (E.keepX d.b e) z.2 with
    |some s'=>G (Sum.inr (e,s'))
    |none=>O)
  have h3:zR E d.b c (pack d.ps d.ts h)=_:=h2;rw[h3,j4];clear h3 h2 hr ho;dsimp only;have h1:=h1.symm;unfold uk at h1;cases e with
  |normal=>
   dsimp only at h1 ⊢
   split at h1
   .rename_i s cW;split at h1
    .rename_i hh hu;simp only[j5]at h1;subst h1;dsimp only;rw[<-EK hu]
    .simp at h1
   .simp at h1
  |exit i=>
   dsimp only at h1 ⊢
   split at h1
   .rename_i s cW;split at h1
    .rename_i hh hu;simp only[j5]at h1;subst h1;dsimp only;rw[IG _ _ _ _ hu]
    .simp at h1
   .simp at h1
  |ret=>
   dsimp only at h1 ⊢
   split at h1
   .rename_i s cW;split at h1
    .rename_i hh hu;simp only[j5]at h1;subst h1;dsimp only;rw[IG _ _ _ _ hu]
    .simp at h1
   .simp at h1
theorem jzx{E:Env}(hF:CFun E.C)(hz:E.nz=Z)(hL:LFun E.L){c:Õ}{d:nM}(hs:IH E c d)
  (he:∀s R k,E.L d.b s R k=match wE d.ps d.ts s with|some h=>(loopOpt d.step h).bind λx=>EN d.exits x k|none=>O):Eu E d.b c:=by
 intro s R k r h;rw[he]at h;split at h
 .rename_i hl hu;cases hq:loopOpt d.step hl with
  |none=>simp[hq]at h
  |some x=>
   rw[hq,j4,NO]at h;obtain⟨n,hn⟩:=EM hq;refine⟨n,(tH d.exits x).1,(tH d.exits x).2,?_,h⟩;rw[EK hu]
   exact Xc (f:=LU E d.b c) (p:=pack d.ps d.ts) (q:=tH d.exits) (λa r hr=>by
    cases c with
    |rangeFunc g ps x y=>have:=jFQ hF hz hL hs a r hr;cases r<;>exact this
    |_=>have:=jC1 hF hz hL hs a r hr;cases r<;>exact this) hn
 .simp at h
def lpAt(c:Õ)(j:M):Code:=((ik 0 c).getD j (0,.skip)).2
def yE(E:Env)(c:Õ):M->D nM->Prop
 |_,[]=>æ
 |j,d::ds=>IH E (lpAt c j) d/\yE E c (j+1) ds
theorem yE.get{E:Env}{c:Õ}:∀{ds:D nM}{i j:M}{d:nM},yE E c i ds->ds[j]? = G d->IH E (lpAt c (i+j)) d
 |[],_,_,_,_,h=>by simp at h
 |x::xs,i,0,d,hs,h=>by simp at h;subst h;exact hs.1
 |x::xs,i,j+1,d,hs,h=>by
  have:=yE.get (i:=i+1) (j:=j) hs.2 (by simpa using h);rwa[show i+(j+1)=i+1+j by omega]
theorem Xd:∀{ds:D nM}{j:M}{d:nM},rN (ds.map (·.b))=Ã->ds[j]? = G d->∀s R k,wG ds d.b s R k=match wE d.ps d.ts s with|some h=>(loopOpt d.step h).bind λx=>EN d.exits x k|none=>O
 |[],_,_,_,h=>by simp at h
 |x::xs,0,d,_,h=>by simp at h;subst h;intro s R k;simp only[wG,if_true]
 |x::xs,j+1,d,hn,h=>by
  simp only[qf,rN,jg,qn,qr,q7]at hn;have hm:d∈xs:=ko (by simpa using h);have bz:x.b≠d.b:=λe=>hn.1 (e▸jz.2 ⟨d,hm,rfl⟩);intro s R k;simp only[wG,bz,zu];exact Xd (j:=j) hn.2 (by simpa using h) s R k
theorem jC2{E:Env}(hF:CFun E.C)(hz:E.nz=Z){c:Õ}{ds:D nM}(hE:E.L=wG ds)(hm:(ik 0 c).map (·.1)=ds.map (·.b))(hn:rN (ds.map (·.b))=Ã)(hs:yE E c 0 ds) :
  ∀x∈ik 0 c,Eu E x.1 x.2:=by
 intro x hx;have hLM:LFun E.L:=hE▸NP ds;obtain⟨j,hj⟩:=v7.1 hx;have xZ:(ds.map (·.b))[j]? = G x.1:=by rw[<-hm];simp[hj]
 rw[qv]at xZ;cases hd:ds[j]? with
 |none=>simp[hd]at xZ
 |some d=>
  simp only[hd,qj,j5]at xZ;have h1:=yE.get hs hd;rw[ki]at h1;have h2:lpAt c j=x.2:=by simp[lpAt,Ô,hj]
  rw[h2]at h1;have:=jzx (E:=E) hF hz hLM h1 (λs R k=>by rw[hE];exact Xd hn hd s R k);rwa[xZ]at this
inductive VPat where
 |v (t:Ty)
 |own (e:M) (t:Ty)
 |box (ts:D Ty)
 |hd
 |vn (t:Ty) (ns:D M)
 |clo (f:M) (bN:D CPat)
 |so (ls:D (I M×Ty))
 deriving Å
inductive OPat where
 |ref (ts:D Ty)
 |rl (t:Ty)
 deriving Å
def rlP:RL->(I M×Ty)×TV
 |.d x=>((O,x.t),x)
 |.own e x=>((G e,x.t),x)
def rlsF:D (I M×Ty)->D TV->D RL
 |[],_=>[]
 |(O,_)::ps,xs=> .d (xs.headD tv0)::rlsF ps xs.tail
 |(G e,_)::ps,xs=> .own e (xs.headD tv0)::rlsF ps xs.tail
theorem NQ:∀(ls:D RL)(r:D TV),rlsF (ls.map λl=>(rlP l).1) ((ls.map λl=>(rlP l).2)++r)=ls
 |[],r=>rfl
 |.d x::ls,r=>by
  have:=NQ ls r;show RL.d _::rlsF _ (_++r)=_;rw[this];rfl
 |.own e x::ls,r=>by
  have:=NQ ls r;show RL.own e _::rlsF _ (_++r)=_;rw[this];rfl
def rvP:RV->VPat×D TV
 |.v x=>(.v x.t,[x])
 |.own e x=>(.own e x.t,[x])
 |.box ls=>(.box (ls.map (·.t)),ls)
 |.hd n=>(.hd,[⟨.int .i64,(n:Æ)⟩])
 |.vn x ns=>(.vn x.t ns,[x])
 |.clo f bN=>(.clo f (pX bN).1,(pX bN).2)
 |.so ls=>(.so (ls.map λl=>(rlP l).1),ls.map λl=>(rlP l).2)
def VPat.n:VPat->M
 |.v _=>1
 |.own _ _=>1
 |.box ts=>ts.length
 |.hd=>1
 |.vn _ _=>1
 |.clo _ cs=>Cz cs
 |.so ls=>ls.length
def rvF:VPat->D TV->RV
 |.v _,xs=> .v (xs.headD tv0)
 |.own e _,xs=> .own e (xs.headD tv0)
 |.box ts,xs=> .box (xs.take ts.length)
 |.hd,xs=> .hd (NK (xs.headD tv0))
 |.vn _ ns,xs=> .vn (xs.headD tv0) ns
 |.clo f cs,xs=> .clo f (Cy cs xs)
 |.so ls,xs=> .so (rlsF ls xs)
theorem jHx(c:RV)(r:D TV):rvF (rvP c).1 ((rvP c).2++r)=c/\(rvP c).1.n=(rvP c).2.length:=by
 cases c with
 |v x=>exact⟨rfl,rfl⟩
 |own e x=>exact⟨rfl,rfl⟩
 |hd n=>exact⟨rfl,rfl⟩
 |vn x ns=>exact⟨rfl,rfl⟩
 |box ls=>simp[rvP,rvF,VPat.n]
 |clo f cs=>have:=IC cs r;simp only[rvP,rvF,VPat.n];exact⟨by rw[this.1],this.2⟩
 |so ls=>exact⟨by simp only[rvP,rvF];rw[NQ],by simp[rvP,VPat.n]⟩
def outP:Out->OPat×D TV
 |.ref ls=>(.ref (ls.map (·.t)),ls)
 |.rl x=>(.rl x.t,[x])
def OPat.n:OPat->M
 |.ref ts=>ts.length
 |.rl _=>1
def outF:OPat->D TV->Out
 |.ref ts,xs=> .ref (xs.take ts.length)
 |.rl _,xs=> .rl (xs.headD tv0)
theorem jFR(c:Out)(r:D TV):outF (outP c).1 ((outP c).2++r)=c/\(outP c).1.n=(outP c).2.length:=by
 cases c with
 |rl x=>exact⟨rfl,rfl⟩
 |ref ls=>simp[outP,outF,OPat.n]
def rvsP:D RV->D VPat×D TV
 |[]=>([],[])
 |c::cs=>((rvP c).1::(rvsP cs).1,(rvP c).2++(rvsP cs).2)
def rvsF:D VPat->D TV->D RV
 |[],_=>[]
 |c::cs,xs=>rvF c xs::rvsF cs (xs.drop c.n)
def rvsN:D VPat->M
 |[]=>0
 |c::cs=>c.n+rvsN cs
theorem NR:∀(cs:D RV)(r:D TV),rvsF (rvsP cs).1 ((rvsP cs).2++r)=cs/\rvsN (rvsP cs).1=(rvsP cs).2.length
 |[],r=>⟨rfl,rfl⟩
 |c::cs,r=>by
  simp only[rvsP,rvsF,rvsN,jh,jc];have h1:=jHx c ((rvsP cs).2++r);have h2:=NR cs r;rw[h1.1,h1.2,ye,h2.1,h2.2];exact⟨rfl,rfl⟩
def yF:D Out->D OPat×D TV
 |[]=>([],[])
 |c::cs=>((outP c).1::(yF cs).1,(outP c).2++(yF cs).2)
def II:D OPat->D TV->D Out
 |[],_=>[]
 |c::cs,xs=>outF c xs::II cs (xs.drop c.n)
theorem Xe:∀(cs:D Out)(r:D TV),II (yF cs).1 ((yF cs).2++r)=cs
 |[],r=>rfl
 |c::cs,r=>by
  simp only[yF,II,jh];have h1:=jFR c ((yF cs).2++r);rw[h1.1,h1.2,ye,Xe cs r]
structure RPat where
 vs:D VPat
 os:D OPat
 deriving Å
def tI(rp:RPat)(ts:D Ty)(h:HL ts):Ret:=⟨rvsF rp.vs (ofHL ts h),II rp.os ((ofHL ts h).drop (rvsN rp.vs))⟩
def IJ(rp:RPat)(ts:D Ty)(r:Ret):I (HL ts):=
 if (rvsP r.vals).1=rp.vs/\(yF r.outs).1=rp.os then toHL ts ((rvsP r.vals).2++(yF r.outs).2) else O
theorem jxN{rp:RPat}{ts:D Ty}{r:Ret}{h:HL ts}(hs:IJ rp ts r=G h):r=tI rp ts h:=by
 unfold IJ at hs;split at hs
 .rename_i hp;have:=IB hs;unfold tI;rw[<-this,<-hp.1,<-hp.2,(NR r.vals _).1,(NR r.vals []).2,ye];have h2:=Xe r.outs [];rw[kc]at h2;rw[h2]
 .simp at hs
structure Con where
 f:M
 ps:D APat
 ts:D Ty
 rp:RPat
 rs:D Ty
 F:HL ts->I (HL rs)
def Con.C(c:Con)(args:D Arg)(R:Type)(k:Ret->I R):I R:=
 match IE c.ps c.ts args with
 |some h=>(c.F h).bind λx=>k (tI c.rp c.rs x)
 |none=>O
def Con.OK(P:À)(c:Con):Prop:=FnOK P c.f c.C
def conC:D Con->M->D Arg->(R:Type)->(Ret->I R)->I R
 |[],_,_,_,_=>O
 |c::cs,f,args,R,k=>if c.f=f then (if (wF args).1=c.ps then c.C args R k else conC cs f args R k) else conC cs f args R k
theorem NS{P:À}{f:M}:FnOK P f (λ_ _ _=>O):=by
 intro args R k r h;simp at h
def EO(P:À):D Con->Prop
 |[]=>æ
 |c::cs=>c.OK P/\EO P cs
theorem NU{P:À}:∀cs:D Con,EO P cs->oo P (conC cs)
 |[],_,_=>NS
 |c::cs,h,f=>by
  have ih:=NU cs h.2 f;intro args R k r hk;simp only[conC]at hk;split at hk
  .rename_i hf;subst hf;split at hk
   .exact h.1 args R k r hk
   .exact ih args R k r hk
  .exact ih args R k r hk
theorem NV:∀cs:D Con,CFun (conC cs)
 |[]=>λ_ _=>⟨O,λ_ _=>rfl⟩
 |c::cs=>λf args=>by
  have ih:=NV cs f args;simp only[conC];split
  .split
   .unfold Con.C;split
    .rename_i h _;cases hq:c.F h with
     |none=>exact⟨O,λ_ _=>rfl⟩
     |some x=>exact⟨G (tI c.rp c.rs x),λ_ _=>rfl⟩
    .exact⟨O,λ_ _=>rfl⟩
   .exact ih
  .exact ih
def NW:D (M×Keep)->M->Keep
 |[],_=>⟨[],[],[],[]⟩
 |x::r,b=>if x.1=b then x.2 else NW r b
def NX:D (M×Ex×Keep)->M->Ex->Keep
 |[],_,_=>⟨[],[],[],[]⟩
 |x::r,b,e=>if x.1=b/\x.2.1=e then x.2.2 else NX r b e
def NY:D (M×D È)->M->D È
 |[],_=>[]
 |x::r,b=>if x.1=b then x.2 else NY r b
def dwL:D (M×D (D M))->M->D (D M)
 |[],_=>[]
 |x::r,b=>if x.1=b then x.2 else dwL r b
def bwL:D (M×(È×Ty))->M->I (È×Ty)
 |[],_=>O
 |x::r,f=>if x.1=f then G x.2 else bwL r f
def IK(P:À):D (M×(È×Ty))->Prop
 |[]=>æ
 |x::r=>BwK P x.1 x.2/\IK P r
theorem Xf{P:À}:∀{l:D (M×(È×Ty))},IK P l->∀f t,bwL l f=G t->BwK P f t
 |[],_,f,t,h=>by simp[bwL]at h
 |x::r,hl,f,t,h=>by
  simp only[bwL]at h;split at h
  .rename_i e;simp only[j5]at h;rw[<-e,<-h];exact hl.1
  .exact Xf hl.2 f t h
structure FnD where
 N:M
 np:M
 cs:D Con:=[]
 ds:D nM:=[]
 modes:D (M×D È):=[]
 keep:D (M×Keep):=[]
 keepX:D (M×Ex×Keep):=[]
 ro:D Bool:=[]
 dw:D (M×D (D M)):=[]
 hd:Bool:=Z
 ns:D Nat:=[]
 bw:D (M×(È×Ty)):=[]
 so:D SoK:=[]
 mvf:D Nat:=[]
def FnD.env(d:FnD)(T:D (I TyI)):Env:=⟨⟨d.N,λ_=>Z⟩,d.np,tab T,conC d.cs,NY d.modes,wG d.ds,NW d.keep,NX d.keepX,d.ro,dwL d.dw,Z,d.hd,d.ns,bwL d.bw,d.so,λf=>d.mvf.contains f⟩
theorem jFS{P:À}{T:D (I TyI)}(hT:db P (tab T))(mM:P.follows .mixedOrders=Ã)(d:FnD)(kU:Con)(fn:á)(c:Õ)(hf:P.funcs[kU.f]? = G fn)(hb:fn.body=G c)
  (hN : fn.ntmps = d.N) (AK : d.np ≤ d.N) (ct : (fn.name == "runtime.NumGoroutine") = Z) (dy : EO P d.cs) (hm : (ik 0 c).map (·.1) = d.ds.map (·.b)) (hn : rN (d.ds.map (·.b)) = Ã)
  (hs:yE (d.env T) c 0 d.ds)(hF:∀h,vD (d.env T) fn (sd kU.ps kU.ts h) (IJ kU.rp kU.rs)=kU.F h)(AF:IK P d.bw:=by trivial):kU.OK P:=by
 have hC:oo P (d.env T).C:=NU d.cs dy;have tJ:CFun (d.env T).C:=NV d.cs;have hL:LFun (d.env T).L:=NP d.ds;have sY:=WX (E:=d.env T) hT hC tJ mM hf hb hN rfl (Xf AF) AK ct (jC2 tJ rfl rfl hm hn hs);intro args R k r hk;unfold Con.C at hk;split at hk
 .rename_i h hu;rw[IF hu];cases hq:kU.F h with
  |none=>simp[hq]at hk
  |some x=>
   rw[hq,j4]at hk;refine sY _ R k r ?_;obtain⟨o,ho⟩:=jxJ tJ rfl hL fn (sd kU.ps kU.ts h);have h1:G x=_:=((hF h).trans hq).symm.trans (ho _ _);cases o with
   |none=>simp at h1
   |some ret=>rw[j4]at h1;show vD (d.env T) fn (sd kU.ps kU.ts h) k=G r;refine(ho _ _).trans ?_;rw[j4,jxN h1.symm];exact hk
 .simp at hk
theorem cOf{P:À}{T:D (I TyI)}(hT:db P (tab T))(mM:P.follows .mixedOrders=Ã)(d:FnD)(kU:Con){fn:á}(hf:P.funcs[kU.f]? = G fn)(dy:EO P d.cs)
  (hs:yE (d.env T) (fn.body.getD .skip) 0 d.ds)(AF:IK P d.bw:=by trivial)(hb:fn.body=G (fn.body.getD .skip):=by kernel_rfl)(hN:fn.ntmps=d.N:=by kernel_rfl)
  (AK : Nat.ble d.np d.N = true := by kernel_rfl) (ct : (fn.name == "runtime.NumGoroutine") = false := by kernel_rfl) (hm : (ik 0 (fn.body.getD .skip)).map (·.1) = d.ds.map (·.b) := by kernel_rfl)
  (hn:rN (d.ds.map (·.b))=true:=by kernel_rfl)(hF:∀h,vD (d.env T) fn (sd kU.ps kU.ts h) (IJ kU.rp kU.rs)=kU.F h:=by intro h;kernel_rfl):kU.OK P:=
 jFS hT mM d kU fn _ hf hb hN (Nat.le_of_ble_eq_true AK) ct dy hm hn hs hF AF
def iB{α β:Type}(B:(α->I β)->α->I β):M->α->I β
 |0,_=>O
 |n+1,a=>B (iB B n) a
open Classical in
def yG{α β:Type}(B:(α->I β)->α->I β)(a:α):I β:=
 if h:∃x n,iB B n a=G x then G h.choose else O
theorem jzE{α β:Type}{B:(α->I β)->α->I β}{a:α}{x:β}(h:yG B a=G x):∃n,iB B n a=G x:=by
 unfold yG at h;split at h
 .rename_i hx;simp only[j5]at h;obtain⟨m,hm⟩:=hx.choose_spec;exact⟨m,by rw[<-h];exact hm⟩
 .simp at h
theorem IL{α β:Type}{B:(α->I β)->α->I β}{a:α}{x:β}(h1:∃n,iB B n a=G x)(h2:∀n y,iB B n a=G y->y=x):yG B a=G x:=by
 obtain⟨n,hn⟩:=h1;have hx:∃x n,iB B n a=G x:=⟨x,n,hn⟩;unfold yG;rw[dif_pos hx];obtain⟨m,hm⟩:=hx.choose_spec;rw[h2 m _ hm]
theorem NZ{P:À}{f:M}{ps:D APat}{ts:D Ty}{rp:RPat}{rs:D Ty}{B:(HL ts->I (HL rs))->HL ts->I (HL rs)}
  (eY:∀g,Con.OK P ⟨f,ps,ts,rp,rs,g⟩->Con.OK P ⟨f,ps,ts,rp,rs,B g⟩):Con.OK P ⟨f,ps,ts,rp,rs,yG B⟩:=by
 have all:∀n,Con.OK P ⟨f,ps,ts,rp,rs,iB B n⟩:=by
  intro n;induction n with
  |zero=>
   intro args R k r hk;unfold Con.C at hk;split at hk
   .simp[iB]at hk
   .simp at hk
  |succ n ih=>exact eY _ ih
 intro args R k r hk;unfold Con.C at hk;split at hk
 .rename_i h hu;cases hq:yG B h with
  |none=>simp[hq]at hk
  |some x=>obtain⟨n,hn⟩:=jzE hq;refine all n args R k r ?_;unfold Con.C;rw[hu];dsimp only;rw[hn];dsimp only at hk;rw[hq]at hk;exact hk
 .simp at hk
def FnD.envN(d:FnD)(T:D (I TyI)):Env:=⟨⟨d.N,λ_=>Z⟩,d.np,tab T,conC d.cs,NY d.modes,wG d.ds,NW d.keep,NX d.keepX,d.ro,dwL d.dw,Ã,d.hd,d.ns,λ_=>O,d.so,λ_=>Z⟩
theorem jzG{α R:Type}(xs:D α)(K:D α->I R){r:R}(h:(cond (Ê (([]:D α).length+xs.length<=aG)) (G (([]:D α)++xs)) O).bind K=G r) :
  zN (Þ xs) (K []) (cond (Ê (([]:D α).length+xs.length<=aG)) (K (([]:D α)++xs)) O)=G r:=by
 cases hd:Ê (([]:D α).length+xs.length<=aG) with
 |false=>rw[hd]at h;simp at h
 |true=>
  rw[hd]at h;simp only[j6,j4]at h ⊢;cases xs with
  |nil=>simp only[kc]at h ⊢;rw[ş];exact h
  |cons x r=>exact h
theorem Xg{P:À}{T:D (I TyI)}(hT:db P (tab T))(mM:P.follows .mixedOrders=Ã)(d:FnD)(f:M)(a:Ty)(e:M)(fn:á)(c:Õ)(hf:P.funcs[f]? = G fn)(hb:fn.body=G c)
  (hN : fn.ntmps = d.N) (AK : d.np ≤ d.N) (ct : (fn.name == "runtime.NumGoroutine") = Z) (dy : EO P d.cs) (hl : ik 0 c = [])
  (hF:∀(h:D a.den)(R:Type)(k:Ret->I R),vD (d.envN T) fn [.v ⟨.list a,h⟩] k=zN (Þ h) (k ⟨[.own e ⟨.list a,([]:D a.den)⟩],[]⟩)
   (cond (Ê (([]:D a.den).length+Ä h<=aG)) (k ⟨[.own e ⟨.list a,([]:D a.den)++h⟩],[]⟩) O)) :
  Con.OK P ⟨f,[.v (.list a)],[.list a],⟨[.own e (.list a)],[]⟩,[.list a],λh=>cond (Ê (([]:D a.den).length+Ä h<=aG)) (G (([]:D a.den)++h)) O⟩:=by
 have hC:oo P (d.envN T).C:=NU d.cs dy;have tJ:CFun (d.envN T).C:=NV d.cs;have sY:=WX (E:=d.envN T) hT hC tJ mM hf hb hN rfl (λf t h=>by simp[FnD.envN]at h) AK ct (by rw[hl];simp);intro args R k r hk;unfold Con.C at hk;split at hk
 .rename_i h hu;rw[IF hu];refine sY _ R k r ?_;refine(hF h R k).trans ?_;exact jzG (α:=a.den) h (λx=>k ⟨[.own e ⟨.list a,x⟩],[]⟩) hk
 .simp at hk
def w64(x:Æ):Int:=IntKind.wrap .i64 x
class LP where
 lp:{α β:Type}->(α->I (α ⊕ β))->α->I β
 rp:{α β:Type}->((α->I β)->α->I β)->α->I β
noncomputable instance realLP:LP:=⟨loopOpt,yG⟩
abbrev jHW(N:M):LP:=⟨λf a=>loopN f N a,λB a=>iB B N a⟩
theorem gY{x:Æ}(h1 : -9223372036854775808<=x)(h2:x<=9223372036854775807):w64 x=x:=IntWalk.i64_in x ⟨h1,h2⟩
def lpK{α β:Type}(r:I (α ⊕ β))(f:α->I β):I β:=match r with
 |none=>O
 |some (.inl s)=>f s
 |some (.inr x)=>G x
theorem aB{α β:Type}(s:α)(f:α->I β):lpK (G (.inl s)) f=f s:=rfl
theorem aP{α β:Type}(x:β)(f:α->I β):lpK (G (.inr x)) f=G x:=rfl
theorem N0{α β γ:Type}(x:α)(f:α->γ)(g:β->γ):sumC (.inl x) f g=f x:=rfl
theorem kV{α β γ:Type}(x:β)(f:α->γ)(g:β->γ):sumC (.inr x) f g=g x:=rfl
theorem bc{α β:Type}(f:α->I (α ⊕ β))(s:α):loopOpt f s=lpK (f s) (loopOpt f):=by
 cases h:f s with
 |none=>
  cases hq:loopOpt f s with
  |none=>rfl
  |some x=>obtain⟨n,hn⟩:=EM hq;cases n<;>simp[loopN,h]at hn
 |some r=>
  cases r with
  |inl s'=>exact jt1 h
  |inr x=>exact juH h
section
variable{S0:aY}{w0:Á}{refs:Refs}
theorem N1{P:À}{E:Env}(hT:db P E.T)(hC:oo P E.C){ops:Ó Ö}{R:Type}{k:St->I R}{r:R}{Q:Exit->Ç->Á->Prop}{n:M}{rest:D M}
  (hn:∀σ' a' w' S' γ',Rel E.N E.np S0 w0 refs σ' a' w' S' γ'->eP σ'->k σ'=G r->wpOpsIn (FR O) n P ops Q rest a' w') :
  ∀(l:D Ö)(i:M){σ:St}{a:Ç}{w:Á}{S:aY}{γ:M->Â},(∀j o,l[j]? = G o->ops[i+j]? = G o/\o.guard=O)->Rel E.N E.np S0 w0 refs σ a w S γ->eP σ->rO E l σ k=G r->
   wpOpsIn (FR O) n P ops Q (â i l.length++rest) a w
 |[],i,σ,a,w,S,γ,hl,hR,hc,h=>hn _ _ _ _ _ hR hc h
 |o::l,i,σ,a,w,S,γ,hl,hR,hc,h=>by
  simp only[rO]at h;split at h
  .rename_i hd;obtain⟨ho,hg⟩:=hl 0 o rfl;have hw:Í o (yielded ops a.tmps)=true:=by simp[Í,hg]
   simp only[ji,List.range'_succ,qp,wpOpsIn,show ops[i]? = G o from ho,hw,if_true];refine Iu (.inl rfl) (λ_ _ h=>h) (Ij hT hC hR (act:=[]) (λg hg=>by simp at hg) (p:=Z) (λ_=>hc) hd h (λσ' a' w' S' γ' dI fP hk=>?_));exact N1 hT hC hn l (i+1) (λj o' hj=>by rw[show i+1+j=i+(j+1) by omega];exact hl (j+1) o' (by simpa using hj)) dI (fP rfl) hk
  .simp at h
theorem EP{N:NT}{np:M}{fx:M->I Â}{σ:St}{a:Ç}{W:Á}{S:aY}(cp:a.tmps.size=N.n)(hd:a.defers=[])(bC:∀k,σ.bx k = .free)(hS:∀g o,S g o->g<W.heap.size)
  (tu:∀i,iZ S W (λ_=>undef) σ.bx (tm a) (σ.sl i) (tm a i))(N2:∀i v,fx i=G v->N.pin i=Ã/\tm a i=v):Rel N np S W { blks:=[],val:=λ_=>O,fix:=fx } σ a W S (λ_=>undef):=
 ⟨cp,hd,tu,λk b h=>by rw[bC]at h;simp at h,λk b g h=>by rw[bC]at h;simp at h,λk k' b b' g _ h=>by rw[bC]at h;simp at h,λ_ _ h=>h,λ_ _ h=> .inl h,hS,λ_ _ _=>rfl,jn _,rfl,rfl,rfl,
  λk v h=>by simp at h,λg o h=>by simp at h,N2⟩
theorem yH{N:NT}{np:M}{fx:M->I Â}{σ:St}{a:Ç}{w:Á}{S:aY}{γ:M->Â}(hR:Rel N np S0 w0 { blks:=[],val:=λ_=>O,fix:=fx } σ a w S γ):Grew w0 w:=
 ⟨λg hg=>hR.below g hg (λh=>by have h:g∈([]:D M):=h;simp at h),hR.grow,hR.os,hR.tape,hR.output⟩
theorem jt5{P:À}{a:Ç}{w:Á}{o:Ö}{cl:Call}(ho:o.op = .call cl){x:Operand}(hc:cl.callee = .value x){l:M}(hx:a.eval x = .func (.yield l) #[] #[]){nx:Next}{w':Á}
  (hy:(Instr.yield l (cl.args.map a.eval)).run P w = .ok nx w'):(execOp a.eval o).run P w = .ok nx w':=by
 simp[execOp,ho,resolve,hc,Deferred.ofValue,hx,invoke,hy]
end
section
variable{S0:aY}{w0:Á}{refs:Refs}
def bwE(T:M->I TyI):Env:=
 { N:=⟨19,λi=>i==0||(i==1||i==11)⟩,np:=0,T:=T,C:=λ_ _ _ _=>O,modes:=λ_=>[],L:=λ_ _ _ _=>O,keep:=λ_=>⟨[],[],[],[]⟩,keepX:=λ_ _=>⟨[],[],[],[]⟩,ro:=[] }
def slF(l:D (M×Cel)):St:={ sl:=λj=>match l.find? (λx=>x.1==j) with|some x=> .one x.2|none=> .one (.one .dead),bx:=λ_=> .free }
def g3(σ:St):I Int:=match σ.sl 3 with
 |.one (.one (.d (.int .i64) v))=>G v
 |_=>O
def g1(σ:St):I (È×Æ):=match σ.sl 8,σ.sl 3 with
 |.one (.one (.d .bool b)),.one (.one (.d (.int .i64) v))=>G (b,v)
 |_,_=>O
def g18(σ:St):I (È×Æ):=match σ.sl 18,σ.sl 3 with
 |.one (.one (.d .bool b)),.one (.one (.d (.int .i64) v))=>G (b,v)
 |_,_=>O
def g16(t:Ty)(σ:St):I (Æ×t.den×Æ):=match σ.sl 12,σ.sl 16,σ.sl 3 with
 |.one (.one (.d (.int .i64) u)),.one c,.one (.one (.d (.int .i64) v))=>match rJ (λ_=> .gone) t c with
  |some (x,[])=>G (u,x,v)
  |_=>O
 |_,_,_=>O
def lstP(t:Ty)(xs:D t.den):Cel:= .one (.ip [⟨.list t,xs⟩])
def intP(i:Æ):Cel:= .one (.d (.int .i64) i)
theorem ER(l:D (M×Cel)):eP (slF l):=λi=>by
 simp only[slF];split<;>rfl
theorem jC5{np:M}{σ:St}:RdF np σ (λ_=> .gone):=⟨λ_=> .inr rfl,λk e a xs f h=>by simp at h⟩
theorem ES{S:aY}{W:Á}{γ:M->Â}{l:D (M×Cel)}{N3:M->Â}(h:∀x∈l,cm S W γ (λ_=> .free) x.2 (N3 x.1))(i:M):iZ S W γ (λ_=> .free) N3 ((slF l).sl i) (N3 i):=by
 simp only[slF];split
 .rename_i x hx;have:=h x (List.mem_of_find?_eq_some hx);have e:=List.find?_some hx;simp only[zr]at e;rw[<-e];exact this
 .exact⟨trivial,λh=>absurd rfl h⟩
theorem N4{P:À}{T:M->I TyI}(hT:db P T){WN n:M}{A:Ó Ö}{σ:St}{fx:M->I Â}{a:Ç}{w:Á}{S:aY}{γ:M->Â}{R:Type}{k:St->I R}{r:R}
  (hR:Rel (bwE T).N (bwE T).np S0 w0 { blks:=[],val:=λ_=>O,fix:=fx } σ a w S γ)(hc:eP σ)(h:rP (bwE T) A σ k=G r) :
  (Y WN A Z).wpIn (FR O) n P (λe a' w'=>e = .normal/\∃σ' S' γ',Rel (bwE T).N (bwE T).np S0 w0 { blks:=[],val:=λ_=>O,fix:=fx } σ' a' w' S' γ'/\k σ'=G r) a w:=
 wpIn_region (Et (.inl rfl) (by rintro⟨a,w,h,_⟩;cases h) _ _ _ (VU hT (λf=>NS) hR hc (λσ' a' w' S' γ' dI _ hk=>⟨rfl,σ',S',γ',dI,hk⟩) h))
theorem Xh{σ:St}{v:Æ}(h:g3 σ=G v):σ.sl 3 = .one (.one (.d (.int .i64) v)):=by
 unfold g3 at h;split at h
 .rename_i u hu;simp only[j5]at h;subst h;exact hu
 .simp at h
theorem jHy{σ:St}{b:È}{v:Æ}(h:g1 σ=G (b,v)):σ.sl 8 = .one (.one (.d .bool b))/\σ.sl 3 = .one (.one (.d (.int .i64) v)):=by
 unfold g1 at h;split at h
 .rename_i hb hu;simp only[j5,j9]at h;obtain⟨rfl,rfl⟩:=h;exact⟨hb,hu⟩
 .simp at h
theorem jFU{σ:St}{b:È}{v:Æ}(h:g18 σ=G (b,v)):σ.sl 18 = .one (.one (.d .bool b))/\σ.sl 3 = .one (.one (.d (.int .i64) v)):=by
 unfold g18 at h;split at h
 .rename_i hb hu;simp only[j5,j9]at h;obtain⟨rfl,rfl⟩:=h;exact⟨hb,hu⟩
 .simp at h
theorem jFV{t:Ty}{σ:St}{i:Æ}{x:t.den}{v:Æ}(h:g16 t σ=G (i,x,v)):σ.sl 12 = .one (.one (.d (.int .i64) i))/\σ.sl 3 = .one (.one (.d (.int .i64) v))/\∃c,σ.sl 16 = .one c/\rJ (λ_=> .gone) t c=G (x,[]):=by
 unfold g16 at h;split at h
 .rename_i c _ Ah N5 h3;split at h
  .rename_i hx;simp only[j5,j9]at h;obtain⟨rfl,rfl,rfl⟩:=h;exact⟨Ah,h3,c,N5,hx⟩
  .simp at h
 .simp at h
theorem CB{N:NT}{np:M}{σ:St}{a:Ç}{w:Á}{S:aY}{γ:M->Â}(hR:Rel N np S0 w0 refs σ a w S γ){s:M}{v:Æ}(h:σ.sl s = .one (.one (.d (.int .i64) v))):tm a s = .int .i64 v:=by
 have:=hR.slot s;rw[h]at this;have h1:[a.tmps.getD s undef]=[Value.int .i64 v]:=this.1;simpa[tm]using h1
theorem Xi{N:NT}{np:M}{σ:St}{a:Ç}{w:Á}{S:aY}{γ:M->Â}(hR:Rel N np S0 w0 refs σ a w S γ){s:M}{v:È}(h:σ.sl s = .one (.one (.d .bool v))):tm a s = .bool v:=by
 have:=hR.slot s;rw[h]at this;have h1:[a.tmps.getD s undef]=[Value.bool v]:=this.1;simpa[tm]using h1
theorem jHz{P:À}{T:M->I TyI}(hT:db P T){f:M}{t:Ty}{fn:á}(hf:P.funcs[f]? = G fn){r0 b0 r1 b1 r3 r2:M}{A0 A1 A2:Ó Ö}{o0 o6 o7:Ö}{l3:D Ö}{cl:Call}
  (hb:fn.body=G ((Y r0 A0 Z).seq (Î b0 ((((Y r1 A1 Z).seq (Ë (.tmp 8) .skip (.exit b0))).seq ((Î b1 ((Y r3 (o0::(l3++[o6,o7])).toArray Z).seq (Ë (.tmp 18) .ret .skip))).seq (Y r2 A2 Z))).loop))))
  (N6 : fn.ntmps = 19) (nL : fn.results = #[]) (ct : (fn.name == "runtime.NumGoroutine") = Z) (CC : l3.length = 5) (eU : (o0 :: (l3 ++ [o6, o7])).all (fun o => o.guard.isNone) = Ã)
  (AN:o0.op = .move (.tmp 0))(N7:o0.dst=G 11)(AO:o6.op = .call cl)(N8:cl.callee = .value (.tmp 11))(IM:cl.args = #[.tmp 12,.tmp 16])(h6d:o6.dst=G 17)
  (e0:∀xs:D t.den,rP (bwE T) A0 (slF [(1,lstP t xs)]) g3=G (w64 (è (Ä xs)-1)))
  (e1:∀i:Æ,rP (bwE T) A1 (slF [(3,intP i)]) g1=G (Ê (i>=0),i))
  (e2:∀i:Æ,rP (bwE T) A2 (slF [(3,intP i)]) g3=G (w64 (i-1)))
  (e3:∀(xs:D t.den)(i:Æ),rO (bwE T) l3 (slF [(1,lstP t xs),(3,intP i)]) (g16 t)=cond (inR i (Ä xs)) (G (i,Ô xs (Ò i) t.dflt,i)) O)
  (e7:∀(b:È)(i:Æ),rO (bwE T) [o7] (slF [(17,.one (.d .bool b)),(3,intP i)]) g18=G (!b,i)):BwOK P f t:=by
 refine⟨⟨fn,hf,by rw[hb];rfl,ct⟩,?_⟩;intro cv m l J Jx W S aQ Ap gD hY pb Cr;have hC:oo P (bwE T).C:=λf=>NS;obtain⟨S0,iu,hm,hS0,pY⟩:=pb
 obtain⟨z0,tK⟩:∃z0,cv = #[z0]:=by
  have:=pY.length;obtain⟨cl⟩:=cv;match cl,this with
  |[z],_=>exact⟨z,rfl⟩
 subst tK;refine callsIn_of_wp hf hb trivial ?_;rw[N6];obtain⟨yv,Xj⟩:∃yv,yv=Value.func (.yield l) #[] #[]:=⟨_,rfl⟩;obtain⟨R,hR⟩:∃R:Ending->Á->Prop,R=λe W'=>(∃v,e = .returned v)/\((∃S',J m S' W')\/Jx W'):=⟨_,rfl⟩;rw[<-Xj,<-hR];let fx:M->I Value:=λi=>if i=0 then G yv else if i=1 then G z0 else O
 let Fr:Ç->Prop:=λa=>a.tmps.size=19/\a.defers=[]/\tm a 0=yv/\tm a 1=z0
 let ã:Ç->Á->Prop:=λa W=>Fr a/\∃j S,j<=m/\J j S W/\tm a 3 = .int .i64 ((m:Æ)-1-j)
 let μ:Ç->Á->Nat:=λa W=>match tm a 3 with
  |.int _ v=>(v+1).toNat
  |_=>0
 have dL:∀{a:Ç}{W':Á},a.defers=[]->((∃S',J m S' W')\/Jx W')->a.defers=[]/\∃v,(results fn a.tmps).run P W' = .ok v W'/\R (.returned v) W':=by intro a W' hd h;exact⟨hd,_,results_none nL _ _ _,by rw[hR];exact⟨⟨_,rfl⟩,h⟩⟩
 have kB:∀{σ:St}{a:Ç}{w w0:Á}{S S0:aY}{γ:M->Â},Rel (bwE T).N (bwE T).np S0 w0 { blks:=[],val:=λ_=>O,fix:=fx } σ a w S γ->Fr a:=λhR=>
  ⟨hR.size,hR.defers,(hR.fix 0 yv rfl).2,(hR.fix 1 z0 rfl).2⟩
 have nN:∀{a:Ç},Fr a->∀i v,fx i=G v->(bwE T).N.pin i=Ã/\tm a i=v:=by
  intro a ha i v hv;simp only[fx]at hv;split at hv
  .rename_i e;subst e;simp only[j5]at hv;subst hv;exact⟨rfl,ha.2.2.1⟩
  .split at hv
   .rename_i _ e;subst e;simp only[j5]at hv;subst hv;exact⟨rfl,ha.2.2.2⟩
   .simp at hv
 have same:∀{j:M}{S:aY}{W W':Á},J j S W->Grew W W'->Cp S W S W':=λhJ hg=>⟨λ_ _ h=>h,λ_ _ h=> .inl h,λg o h=>zk (gD _ _ _ hJ g o h) hg.size⟩
 have hmlt:m<=9223372036854775807:=by
  obtain⟨g,o,cs,_,aA,_⟩:=pY.1;match cs,aA with
  |[z],aA=>obtain⟨ad,cap,_,h1,h2,_⟩:=aA.1;simp only[maxLen]at h2;have h1:Ä iu<=cap:=h1;omega
 obtain⟨a0,wB⟩:∃a0:Ç,a0={ tmps:=#[yv] ++ #[z0]++Array.replicate (19-(#[yv] ++ #[z0]).size) undef,defers:=[] }:=⟨_,rfl⟩;rw[<-wB]
 have wH:Fr a0:=by
  subst wB;refine⟨?_,rfl,?_,?_⟩
  .simp
  .simp[tm]
  .simp[tm]
 have pb:Rel (bwE T).N (bwE T).np S0 W { blks:=[],val:=λ_=>O,fix:=fx } (slF [(1,lstP t iu)]) a0 W S0 (λ_=>undef):=
  EP wH.1 wH.2.1 (λ_=>rfl) hS0 (ES (λx hx=>by
   simp only[kr]at hx;subst hx;rw[wH.2.2.2];exact⟨pY.1,λ_=>by obtain⟨g,o,cs,hu,_⟩:=pY.1;rw[hu];rfl⟩)) (nN wH)
 refine wpIn_seq (wpIn_mono (N4 hT pb (ER _) (e0 iu)) ?_)
 rintro e a W1 ⟨rfl,σ1,S1,γ1,bV,dE⟩
 show (Î b0 _).wpIn _ _ _ _ _ _;have h3:=CB bV (Xh dE);refine wpIn_block (wpIn_loop ã μ ⟨kB bV,0,S,kp _,aQ _ _ _ _ _ (yH bV) (same Cr (yH bV)) Cr,?_⟩ ?_)
 .rw[h3,hm,gY sqo_ sqo_];simp
 .rintro a W ⟨N9,j,S,xZ,hJ,h3⟩
  have hint:∀{a:Ç}{W:Á}{S:aY}{v:Æ},tm a 3 = .int .i64 v->cm S W (λ_=>undef) (λ_=> .free) (intP v) (tm a 3):=λh=>by rw[h];exact⟨rfl,λ_=>rfl⟩
  have IP:Rel (bwE T).N (bwE T).np S W { blks:=[],val:=λ_=>O,fix:=fx } (slF [(3,intP ((m:Æ)-1-j))]) a W S (λ_=>undef):=
   EP N9.1 N9.2.1 (λ_=>rfl) (gD _ _ _ hJ) (ES (λx hx=>by
    simp only[kr]at hx;subst hx;exact hint h3)) (nN N9)
  refine wpIn_seq (wpIn_seq (wpIn_mono (N4 hT IP (ER _) (e1 _)) ?_))
  rintro e a1 W1 ⟨rfl,σ1,S1,γ1,bV,dE⟩
  obtain⟨h8,Oa⟩:=jHy dE;have Oa:=CB bV Oa;have h8:a1.eval (.tmp 8) = .bool (Ê ((m:Æ)-1-j>=0)):=Xi bV h8;have Ob:=aQ _ _ _ _ _ (yH bV) (same hJ (yH bV)) hJ;have pd:=kB bV;show (Ë _ _ _).wpIn _ _ _ _ _ _;by_cases cq:(m:Æ)-1-j>=0
  case neg=>rw[decide_eq_false cq]at h8;refine wpIn_cond_false h8 (wpIn_exit ?_);show U b0 (bodyPost P fn R) (.exit b0) a1 W1;simp only[U,if_true];have hj:j=m:=omg_;subst hj;exact dL pd.2.1 (.inl ⟨S,Ob⟩)
  case pos=>
  rw[yd cq]at h8;refine wpIn_cond_true h8 (wpIn_skip ?_);show (Code.seq _ _).wpIn _ _ _ _ _ _;have Oc:j<m:=omg_;obtain⟨xs,dq,hlen,oP⟩:=hY j S W1 Oc Ob;refine wpIn_seq (wpIn_block (wpIn_seq (wpIn_region ?_)));obtain⟨ops,AP⟩:∃ops,ops=(o0::(l3++[o6,o7])).toArray:=⟨_,rfl⟩;rw[<-AP];have ot:∀k,ops[k]? = (o0::(l3++[o6,o7]))[k]? := λk=>by rw[AP];exact List.getElem?_toArray
  have aT:∀o∈o0::(l3++[o6,o7]),o.guard=none:=λo ho=>by have:=kj.1 eU o ho;simpa using this
  have cp:ops.size=8:=by rw[AP];simp[CC]
  have hw:∀(o:Ö)(a:Ç),o∈o0::(l3++[o6,o7])->Í o (yielded ops a.tmps)=true:=λo a ho=>by simp[Í,aT o ho]
  rw[cp,show Ø 8=0::(â 1 l3.length++[6,7]) by rw[CC];rfl];have Od:ops[0]? = G o0:=by rw[ot];rfl
  simp only[wpOpsIn,Od,hw o0 _ (zd ..),if_true];refine Iu (.inl rfl) (λ_ _ h=>h) ?_;unfold Oper.wp;rw[show (execOp a1.eval o0).run P W1 = .ok (.value (a1.eval (.tmp 0))) W1 by simp[execOp,AN,go_sem],Oper.upon_value,N7];have tL:a1.eval (.tmp 0)=yv:=pd.2.2.1;rw[tL];have ET:11<a1.tmps.size:=by rw[pd.1];omega
  obtain⟨a2,B7⟩:∃a2,a2=a1.put (G 11) yv:=⟨_,rfl⟩;rw[<-B7];have wI:∀i,tm a2 i=if i=11 then yv else tm a1 i:=λi=>by rw[B7];exact Eb ET yv i
  have wJ:Fr a2:=⟨by rw[B7,MQ];exact pd.1,by rw[B7,MR];exact pd.2.1,by rw[wI];exact pd.2.2.1,by rw[wI];exact pd.2.2.2⟩;let Xk:M->I Value:=λi=>if i=11 then G yv else fx i
  have dA:Rel (bwE T).N (bwE T).np S W1 { blks:=[],val:=λ_=>O,fix:=Xk } (slF [(1,lstP t xs),(3,intP ((m:Æ)-1-j))]) a2 W1 S (λ_=>undef):=
   EP wJ.1 wJ.2.1 (λ_=>rfl) (gD _ _ _ Ob) (ES (λx hx=>by
    simp only[je,zw,or_false]at hx;rcases hx with rfl|rfl
    .rw[wJ.2.2.2];exact⟨dq.1,λ_=>by obtain⟨g,o,cs,hu,_⟩:=dq.1;rw[hu];rfl⟩
    .exact hint (by rw[wI];exact Oa))) (λi v hv=>by
     simp only[Xk]at hv;split at hv
     .rename_i e;subst e;simp only[j5]at hv;subst hv;exact⟨rfl,by rw[wI,if_pos rfl]⟩
     .exact nN wJ i v hv)
  have hx:∃x,xs[m-1-j]? = G x/\Ô xs (Ò ((m:Æ)-1-j)) t.dflt=x:=by refine⟨xs[m-1-j]'hlen,jm hlen,?_⟩;rw[show Ò ((m:Æ)-1-j)=m-1-j by omega];simp[Ô,hlen]
  obtain⟨x,hx,hxd⟩:=hx;have Xl:=e3 xs ((m:Æ)-1-j)
  rw[hxd,show inR ((m:Æ)-1-j) (Ä xs)=Ã by
   unfold inR;rw[yd (show (0:Æ)<=(m:Æ)-1-j by omega),yd (show (m:Æ)-1-j<(Ä xs:Æ) by omega)];rfl,j6]at Xl
  refine N1 hT hC ?_ l3 1 (λk o hk=>⟨?_,?_⟩) dA (ER _) Xl
  rotate_left
  .rw[ot,Nat.add_comm,yk,É (ka.1 hk).1];exact hk
  .exact aT o (qx _ (jx _ (ko hk)))
  intro σ3 a3 W3 S3 γ3 iR _ nK;obtain⟨Ah,Oe,c,N5,Of⟩:=jFV nK;have Ah:=CB iR Ah;have Oe:=CB iR Oe;have Og:VRep S3 W3 ⟨t,x⟩ (tm a3 16):=by have:=iR.slot 16;rw[N5]at this;exact(DD (np:=(bwE T).np) jC5 iR.box Of this).2.1 S3 W3 (.refl _ _) (λy hy=>by simp at hy)
  have Mv:=yH iR;have h11:tm a3 11=yv:=(iR.fix 11 yv rfl).2;have tM:Fr a3:=⟨iR.size,iR.defers,(iR.fix 0 yv rfl).2,(iR.fix 1 z0 rfl).2⟩;obtain⟨fn6,EU,as6,bo6,hy6,tN⟩:=oP S3 W3 x _ Mv ⟨iR.ext,λg o h=>(iR.new g o h).imp id λh=>h.nil rfl,iR.here⟩ hx Og;have Oh:ops[6]? = G o6:=by rw[ot,yk,kn omg_,CC];rfl
  have Oi:ops[7]? = G o7:=by rw[ot,yk,kn omg_,CC];rfl
  simp only[wpOpsIn,Oh,hw o6 _ smp_,if_true];refine⟨λ_ _=>trivial,?_⟩
  have aS:(execOp a3.eval o6).run P W3 = .ok (.round l fn6 EU as6 bo6) W3:=by
   refine jt5 AO N8 (l:=l) (by rw[<-Xj];exact h11) ?_;rw[IM];have Oj:a3.eval (.tmp 12) = .int .i64 ((m-1-j:M):Æ):=by rw[show ((m-1-j:M):Æ)=(m:Æ)-1-j by omega];exact Ah
   have e16:a3.eval (.tmp 16)=tm a3 16:=rfl;simp only[List.map_toArray,qf,List.map_nil,Oj,e16];exact hy6
  rw[show o6.semAt (FR O).round a3.eval=execOp a3.eval o6 from rfl,aS,Oper.uponIn_round];refine⟨λhd=>by simp[FR,Fence.wide]at hd,?_⟩;refine RoundIn.mono ⟨tN.1,λc cs _=>tN.2 c cs (Wt _ _)⟩ ?_;have EV:17<a3.tmps.size:=by rw[tM.1];omega
  have rest:∀(bb:È)(W4:Á)(S4:aY),(∀g o,S4 g o->g<W4.heap.size)->
    (∀a5 W5,Fr a5->Grew W4 W5->tm a5 18 = .bool (!bb)->tm a5 3 = .int .i64 ((m:Æ)-1-j)->(Exit.then ((Ë (.tmp 18) .ret .skip).wpIn (FR O) 0 P (U b1 (Exit.then ((Y r2 A2 Z).wpIn (FR O) 0 P (Exit.then (λa' W'=>ã a' W'/\μ a' W'<μ a W) (U b0 (bodyPost P fn R))))
     (Exit.then (λa' W'=>ã a' W'/\μ a' W'<μ a W) (U b0 (bodyPost P fn R)))))) (U b1 (Exit.then ((Y r2 A2 Z).wpIn (FR O) 0 P (Exit.then (λa' W'=>ã a' W'/\μ a' W'<μ a W) (U b0 (bodyPost P fn R))))
     (Exit.then (λa' W'=>ã a' W'/\μ a' W'<μ a W) (U b0 (bodyPost P fn R)))))) .normal a5 W5)->
    wpOpsIn (FR O) 0 P ops (Exit.then ((Ë (.tmp 18) .ret .skip).wpIn (FR O) 0 P (U b1 (Exit.then ((Y r2 A2 Z).wpIn (FR O) 0 P (Exit.then (λa' W'=>ã a' W'/\μ a' W'<μ a W) (U b0 (bodyPost P fn R))))
     (Exit.then (λa' W'=>ã a' W'/\μ a' W'<μ a W) (U b0 (bodyPost P fn R)))))) (U b1 (Exit.then ((Y r2 A2 Z).wpIn (FR O) 0 P (Exit.then (λa' W'=>ã a' W'/\μ a' W'<μ a W) (U b0 (bodyPost P fn R))))
     (Exit.then (λa' W'=>ã a' W'/\μ a' W'<μ a W) (U b0 (bodyPost P fn R)))))) [7] (a3.put o6.dst (.bool bb)) W4:=by
   intro bb W4 S4 hS4 il;rw[h6d];obtain⟨a4,IQ⟩:∃a4,a4=a3.put (G 17) (.bool bb):=⟨_,rfl⟩;rw[<-IQ];have wK:∀i,tm a4 i=if i=17 then .bool bb else tm a3 i:=λi=>by rw[IQ];exact Eb EV _ i
   have AQ:Fr a4:=⟨by rw[IQ,MQ];exact tM.1,by rw[IQ,MR];exact tM.2.1,by rw[wK];exact tM.2.2.1,by rw[wK];exact tM.2.2.2⟩
   have uT:Rel (bwE T).N (bwE T).np S4 W4 { blks:=[],val:=λ_=>O,fix:=fx } (slF [(17,.one (.d .bool bb)),(3,intP ((m:Æ)-1-j))]) a4 W4 S4 (λ_=>undef):=
    EP AQ.1 AQ.2.1 (λ_=>rfl) hS4 (ES (λx hx=>by
     simp only[je,zw,or_false]at hx;rcases hx with rfl|rfl
     .rw[wK,if_pos rfl];exact⟨rfl,λ_=>rfl⟩
     .exact hint (by rw[wK];exact Oe))) (nN AQ)
   refine N1 (rest:=[]) hT hC (λσ5 a5 W5 S5 γ5 pW _ tF=>?_) [o7] 7 (λk o hk=>?_) uT (ER _) (e7 bb _)
   .obtain⟨q1,q2⟩:=jFU tF;exact il a5 W5 (kB pW) (yH pW) (Xi pW q1) (CB pW q2)
   .cases k with
    |zero=>simp at hk;subst hk;exact⟨Oi,aT _ smp_⟩
    |succ k=>simp at hk
  rintro e W4 (⟨rfl,S4,Ol⟩|⟨rfl,hx4⟩)
  .refine rest Ã W4 S4 (gD _ _ _ Ol) (λa5 W5 tO IU Om Xm=>?_);refine wpIn_cond_false (c:= .tmp 18) Om (wpIn_skip ?_);show (Y r2 A2 Z).wpIn _ _ _ _ _ _;have On:=aQ _ _ _ _ _ IU (same Ol IU) Ol
   have pW:Rel (bwE T).N (bwE T).np S4 W5 { blks:=[],val:=λ_=>O,fix:=fx } (slF [(3,intP ((m:Æ)-1-j))]) a5 W5 S4 (λ_=>undef):=
    EP tO.1 tO.2.1 (λ_=>rfl) (gD _ _ _ On) (ES (λx hx=>by
     simp only[kr]at hx;subst hx;exact hint Xm)) (nN tO)
   refine wpIn_mono (N4 hT pW (ER _) (e2 _)) ?_
   rintro e a6 W6 ⟨rfl,σ6,S6,γ6,yD,hk6⟩
   have yI:=CB yD (Xh hk6);rw[gY omg_ omg_]at yI;refine⟨⟨kB yD,j+1,S4,omg_,aQ _ _ _ _ _ (yH yD) (same On (yH yD)) On,?_⟩,?_⟩
   .rw[yI];congr 1;push_cast;omega
   .simp only[μ,yI,h3];omega
  .refine rest Z W4 (λ_ _=>False) (λ_ _ h=>h.elim) (λa5 W5 tO IU Om Xm=>?_);refine wpIn_cond_true (c:= .tmp 18) Om (wpIn_ret ?_);exact dL tO.2.1 (.inr (Ap _ _ IU hx4))
end
def AR:Õ->D (M×Ó Ö)
 |.seq x y=>AR x++AR y
 |.cond _ x y=>AR x++AR y
 |.block _ c=>AR c
 |.loop c=>AR c
 |.region id ops _=>[(id,ops)]
 |_=>[]
def bwA(fn:á)(i:M):Ó Oper:=(((AR (fn.body.getD .skip)).find? λx=>x.1==i).getD (0, #[])).2
def opAt(A:Ó Ö)(i:M):Oper:=(A[i]?).getD default
def Oo(o:Ö):Call:=match o.op with
 |.call c=>c
 |_=>default
theorem jFW{P:À}{T:M->I TyI}(hT:db P T){f:M}{t:Ty}{fn:á}(hf:P.funcs[f]? = G fn){A0 A1 A2 A3:Ó Ö}
  (hb:fn.body=G ((Y 0 A0 Z).seq (Î 0 ((((Y 1 A1 Z).seq (Ë (.tmp 8) .skip (.exit 0))).seq ((Î 1 ((Y 3 A3 Z).seq (Ë (.tmp 18) .ret .skip))).seq (Y 2 A2 Z))).loop))))
  (hA:A3=(opAt A3 0::((A3.toList.drop 1).take 5++[opAt A3 6,opAt A3 7])).toArray)
  (N6 : fn.ntmps = 19) (nL : fn.results = #[]) (ct : (fn.name == "runtime.NumGoroutine") = Z) (CC : ((A3.toList.drop 1).take 5).length = 5) (eU : (opAt A3 0 :: ((A3.toList.drop 1).take 5 ++ [opAt A3 6, opAt A3 7])).all (fun o => o.guard.isNone) = Ã)
  (AN:(opAt A3 0).op = .move (.tmp 0))(N7:(opAt A3 0).dst=G 11)(AO:(opAt A3 6).op = .call (Oo (opAt A3 6)))(N8:(Oo (opAt A3 6)).callee = .value (.tmp 11))(IM:(Oo (opAt A3 6)).args = #[.tmp 12,.tmp 16]/\(opAt A3 6).dst=G 17)
  (e0:∀xs:D t.den,rP (bwE T) A0 (slF [(1,lstP t xs)]) g3=G (w64 (è (Ä xs)-1)))
  (e1:∀i:Æ,rP (bwE T) A1 (slF [(3,intP i)]) g1=G (Ê (i>=0),i))
  (e2:∀i:Æ,rP (bwE T) A2 (slF [(3,intP i)]) g3=G (w64 (i-1)))
  (e3:∀(xs:D t.den)(i:Æ),rO (bwE T) ((A3.toList.drop 1).take 5) (slF [(1,lstP t xs),(3,intP i)]) (g16 t)=cond (inR i (Ä xs)) (G (i,Ô xs (Ò i) t.dflt,i)) O)
  (e7:∀(b:È)(i:Æ),rO (bwE T) [opAt A3 7] (slF [(17,.one (.d .bool b)),(3,intP i)]) g18=G (!b,i)):BwOK P f t:=by
 rw[hA]at hb;exact jHz hT hf hb N6 nL ct CC eU AN N7 AO N8 IM.1 IM.2 e0 e1 e2 e3 e7
open Go.RowKit Go.WideShapes Go.ChangeShapes
theorem jzJ{P:À}{f:M}{ps:D APat}{ts:D Ty}{F:HL ts->I È}(bX:Con.OK P ⟨f,ps,ts,⟨[.v .bool],[]⟩,[.bool],F⟩)(h:HL ts)(hF:F h=G Ã)
  (w:Á)(S:aY)(vals:D Â)(ha:All2 (pO S w) (sd ps ts h) vals)(hr:eu (sd ps ts h) vals=[])(hS:∀g o,S g o->g<w.heap.size)(hu:IE ps ts (sd ps ts h)=G h) :
  Calls P f vals.toArray w λe w'=>e = .returned (.bool Ã)/\Below w.heap.size w w':=by
 have:=(bX (sd ps ts h) Ret G (tI ⟨[.v .bool],[]⟩ [.bool] Ã) (by
  unfold Con.C;rw[hu];show (F h).bind _=_;rw[hF];rfl)).2
 refine(this w S vals ha (by rw[hr];exact vq) hS).mono ?_
 rintro e w' ⟨ret,cX,v,S',vs,rfl,bX⟩
 simp only[j5]at cX;subst cX;have bR:All2 (rX S' w') [.v ⟨.bool,Ã⟩] vs:=bX.rep;refine⟨?_,bX.os,bX.tape,bX.output,bX.grow,λk hk=>bX.below k hk (by rw[hr];simp)⟩;rw[bX.val];match vs,bR with
 |[u],bR=>have h1:=bR.1;have h2:u.cells.toList=[.bool Ã]/\(kM Ty.bool=Ã->∃cs,u=Value.agg cs)/\(kM Ty.bool=Z->One u):=h1;have h3:=B8 (h2.2.2 rfl);rw[h2.1]at h3;simp only[List.cons.injEq,and_true]at h3;rw[<-h3];rfl
 |[],bR=>exact absurd bR (by simp[All2])
 |_::_::_,bR=>exact absurd bR (by simp[All2])
theorem jr5{H:Type}{enc:Ì×Â->H}{P:À}{f:á}{s:ChangeSpec}{apart fresh handsOn again:È}{W W':Á}{args:Ó Â}{v:Â}{ds gs:D (Ü H)}{before pa pv:D Ð}
  (hW:DataW.Whole enc P f.params.toList s.vars apart W args.toList ds gs before)
  (nL:∀(b:M)(sp:M->È)(hd:È),Ý enc P W' b sp hd f.resultTypes.toList (v.resultList f.resultTypes.size) (s.fn H (ds++gs)).results [])
  (fo:∀sp:M->È,(∀p∈before,sp p.block=Ã)->Ý enc P W' 0 sp Ã f.params.toList args.toList (s.fn H (ds++gs)).args pa)
  (yJ:∀sp:M->È,(∀p∈before,sp p.block=Ã)->DataW.TrodVars enc P W' sp s.vars (s.fn H (ds++gs)).vars pv)
  (jD:before=pa++pv)(hb:Below W.heap.size W W')
  (bX:∀(j:M)(t:Ì)(r:Â),f.resultTypes[j]? = G t->(v.resultList f.resultTypes.size)[j]? = G r->Ï P W' .any 0 t r) :
  s.post enc P f apart fresh handsOn again W args v W':=by
 have aq:∀p∈before,p.block<W.heap.size:=λp hp=>hW.lt p hp;have hold:∀p∈before,(λb=>Ê (b<W.heap.size)) p.block=true:=λp hp=>by simpa using aq p hp
 refine⟨ds,gs,before,[],pa,pv,hW,nL _ _ _,fo _ hold,yJ _ hold,World.keptBut_mono (λp hp=>⟨hp,?_⟩) (hb.frame (· ∈ before)),λ_=>?_⟩
 .rw[jD,jj]at hp;exact Or.inr hp
 .obtain⟨_,_,_,_,_,hz,hn⟩:=hW;refine⟨bX,_,_,([]++pa)++pv,⟨[]++pa,pv,trodAll_append (fo _ (λ_ _=>rfl)) (nL _ _ _),yJ _ (λ_ _=>rfl),rfl,?_,?_⟩,?_⟩
  .intro b off hp;have iE:MemPlace.cell b off∈before:=by rw[jD];simpa using hp
   rw[hb.frozen (aq _ iE)];exact hz b off iE
  .intro ha;have:=hn ha;rw[jD]at this;simpa using this
  .intro p hp _;rw[jD];simpa using hp
open Go.RowKit Go.WideShapes Go.ChangeShapes
def wL(P:À):M->Ì->Ty->È
 |0,_,_=>Z
 |n+1,t,ty=>match P.underlying t with
  |some (.int k)=>Ê (ty = .int k)
  |some .bool=>Ê (ty = .bool)
  |some .string=>Ê (ty = .str)
  |some (.slice e)=>match ty with
   |.list a=>wL P n e a&&Ê (P.cellsOf e=a.size)&&Ê (0<a.size)
   |_=>Z
  |_=>Z
def Wf:(t:Ty)->t.den->Prop
 |.int k,n=>(Lit.int k n).wf=Ã
 |.bool,_=>æ
 |.str,s=>s.size<=maxLen
 |.unit,_=>æ
 |.wrap a,v=>Wf a v
 |.pair a b,v=>Wf a v.1/\Wf b v.2
 |.list a,xs=>Ä xs<=maxLen/\∀x∈(show D a.den from xs),Wf a x
 |.arr _ _,_=>æ
theorem IV{α β:Type}{f:α->I β}:∀{l:D α}{ys:D β},l.mapM f=G ys->ys.length=l.length/\∀(i:M)(x:α),l[i]? = G x->∃y,ys[i]? = G y/\f x=G y
 |[],ys,h=>by
  simp at h;subst h;exact⟨rfl,λi x hx=>by simp at hx⟩
 |a::l,ys,h=>by
  rw[Ú]at h;cases ha:f a with
  |none=>simp[ha]at h
  |some y=>
   cases hl:l.mapM f with
   |none=>simp[ha,hl]at h
   |some zs=>
    simp[ha,hl]at h;subst h;obtain⟨h1,h2⟩:=IV hl;refine⟨by simp[h1],λi x hx=>?_⟩;cases i with
    |zero=>simp at hx;subst hx;exact⟨y,rfl,ha⟩
    |succ i=>simp at hx;obtain⟨z,hz,hf⟩:=h2 i x hx;exact⟨z,by simpa using hz,hf⟩
theorem IW{α β:Type}{f g:α->I β}:∀{l:D α}{ys:D β},l.mapM f=G ys->(∀x∈l,∀y,y∈ys->f x=G y->g x=G y)->l.mapM g=G ys
 |[],ys,h,_=>by simpa using h
 |a::l,ys,h,hk=>by
  rw[Ú]at h ⊢;cases ha:f a with
  |none=>simp[ha]at h
  |some y=>
   cases hl:l.mapM f with
   |none=>simp[ha,hl]at h
   |some zs=>simp[ha,hl]at h;subst h;rw[hk a smp_ y smp_ ha,IW hl (λx hx z hz hf=>hk x (by simp[hx]) z (by simp[hz]) hf)];rfl
theorem Xn{α:Type}{Q:M->α->Prop}:∀n,(∀i,i<n->∃x,Q i x)->∃xs:D α,xs.length=n/\∀i x,xs[i]? = G x->Q i x
 |0,_=>⟨[],rfl,λi x h=>by simp at h⟩
 |n+1,h=>by
  obtain⟨xs,hl,hx⟩:=Xn n (λi hi=>h i omg_);obtain⟨x,hq⟩:=h n omg_;refine⟨xs++[x],by simp[hl],λi y hy=>?_⟩;rcases qy i n with hi|hi
  .rw[É omg_]at hy;exact hx i y hy
  .have:i=n:=by have:=(ka.1 hy).1;simp[hl]at this;omega
   subst this;rw[kn omg_,hl,yx]at hy;simp at hy;subst hy;exact hq
theorem Xo{α β:Type}{R:α->β->Prop}:∀{as:D α}{bs:D β},as.length=bs.length->(∀(i:M)(a:α)(b:β),as[i]? = G a->bs[i]? = G b->R a b)->All2 R as bs
 |[],[],_,_=>trivial
 |a::as,b::bs,hl,h=>⟨h 0 a b rfl rfl,Xo (by simpa using hl) λi x y hx hy=>h (i+1) x y (by simpa using hx) (by simpa using hy)⟩
 |[],_::_,hl,_=>by simp at hl
 |_::_,[],hl,_=>by simp at hl
theorem Xp{m:M}:∀{css:D (D Â)},(∀c∈css,c.length=m)->∀{j:M}{v:Â},css.flatten[j]? = G v->∃i r c,j=i*m+r/\r<m/\css[i]? = G c/\c[r]? = G v
 |[],_,j,v,h=>by simp at h
 |c::css,hl,j,v,h=>by
  simp only[qm]at h;have hc:=hl c smp_;rcases qy j c.length with hj|hj
  .rw[É hj]at h;exact⟨0,j,c,omg_,omg_,rfl,h⟩
  .rw[kn hj]at h;obtain⟨i,r,c',e,hr,hi,hv⟩:=Xp (λx hx=>hl x (by simp[hx])) h;exact⟨i+1,r,c',by rw[Nat.add_mul];omega,hr,by simpa using hi,hv⟩
def Ext(W W':Á):Prop:=∀(k:M) x,W.heap[k]? = G x->W'.heap[k]? = G x
theorem Ext.cell{W W':Á}(h:Ext W W'){a:ê}{v:Â}(hc:W.cell? a=G v):W'.cell? a=G v:=by
 unfold World.cell? at hc ⊢;split at hc
 .rename_i c _ _ hb;rw[h _ _ hb];exact hc
 .simp at hc
theorem Ext.cells{W W':Á}(h:Ext W W'){a:ê}{n:M}{cs:D Â}(hc:W.cells? 0 a n=G cs):W'.cells? 0 a n=G cs:=by
 unfold World.cells? at hc ⊢;simp only[kp,if_true]at hc ⊢;exact IW hc λi _ y _ hf=>h.cell hf
theorem Oq{W:Á}{a:ê}{n:M}{cs:D Â}(hc:W.cells? 0 a n=G cs):cs.length=n/\∀i v,cs[i]? = G v->W.cell? (a.add i)=G v:=by
 unfold World.cells? at hc;simp only[kp,if_true]at hc;obtain⟨h1,h2⟩:=IV hc;simp only[Ù]at h1;refine⟨h1,λi v hv=>?_⟩;have hi:i<n:=by rw[<-h1];exact(ka.1 hv).1
 obtain⟨y,hy,hf⟩:=h2 i i (by simp[hi]);rw[hv]at hy;simp at hy;subst hy;exact hf
theorem Xq{W:Á}{a:ê}{v:Â}(h:W.cell? a=G v):a.block<W.heap.size/\a.spot=none:=by
 unfold World.cell? at h;split at h
 .rename_i c _ _ hb;refine⟨(jq.1 hb).1,?_⟩;split at h
  .simp at h
  .rename_i hs;simpa using hs
 .simp at h
def oldS(W:Á):aY:=λg _=>g<W.heap.size
def IX{H:Type}(enc:Ì×Â->H)(P:À)(W:Á)(held:È)(fuel:M)(t:Ì)(ty:Ty)(cs:D Â)(d:Ü H)(ps:D Ð):Prop:=
 cs.length=ty.size/\(∃v:ty.den,Rep (oldS W) W ty v cs/\Wf ty v)/\
  ∀W' sp,Ext W W'->(∀q∈ps,sp q.block=Ã)->X enc P W' 0 sp held fuel t cs=G (d,ps)
section
variable{H:Type}{enc:Ì×Â->H}{P:À}{W:Á}{held:È}
theorem jzL{a:ê}{n:M}(hn:0<n):∃q∈MemPlace.row a n,q.block=a.block:=
 ⟨.cell a.block (a.off+0),jz.2 ⟨0,by simp[hn],rfl⟩,rfl⟩
theorem juJ{n:M}{t e:Ì}{el:Ty}(hu:P.underlying t=G (.slice e))(cp:P.cellsOf e=el.size)(cq:0<el.size){fuel:M}{cs:D Â}{d:Ü H}{ps:D Ð}
  (ih:∀(m:M)(cs:D Â)(d:Ü H)(ps:D Ð),X enc P W 0 (λ_=>Ã) held m e cs=G (d,ps)->IX enc P W held m e el cs d ps)
  (h:X enc P W 0 (λ_=>Ã) held fuel t cs=G (d,ps)):IX enc P W held fuel t (.list el) cs d ps:=by
 cases fuel with
 |zero=>simp[X]at h
 |succ m=>
  have h':=h;unfold X at h;rw[hu]at h;split at h;all_goals (try (rename_i heq _;simp at heq;done))
  all_goals (try (rename_i heq;simp at heq;done))
  .rename_i heq;refine⟨rfl,⟨[],⟨O,0,rfl,jn _,kp _,λ_=>rfl,λb hb=>by simp at hb⟩,⟨kp _,smp_⟩⟩,λW' sp _ _=>?_⟩;unfold X;rw[hu];exact h
  .rename_i e' a len cap heq;simp only[j5,TypeDesc.slice.injEq]at heq;subst heq;simp only[kp,qc,if_true]at h;split at h
   .rename_i hc;cases gV:(Ø len).mapM (λi=>(W.cells? 0 (a.add (i*P.cellsOf e)) (P.cellsOf e)).bind (X enc P W 0 (λ_=>Ã) held m e)) with
    |none=>rw[gV]at h;simp at h
    |some elems=>
     rw[gV]at h;simp only[j4]at h;cases IY:(Ø (cap-len)).mapM (λj=>(W.cells? 0 (a.add ((len+j)*P.cellsOf e)) (P.cellsOf e)).bind (X enc P W 0 (λ_=>Ã) held m e)) with
     |none=>rw[IY]at h;simp at h
     |some rest=>
      rw[IY]at h;simp only[qj,j5,j9]at h;obtain⟨rfl,rfl⟩:=h;obtain⟨l1,g1⟩:=IV gV;obtain⟨l2,g2⟩:=IV IY;simp only[Ù]at l1 l2
      have one:∀i y,(W.cells? 0 (a.add (i*P.cellsOf e)) (P.cellsOf e)).bind (X enc P W 0 (λ_=>Ã) held m e)=G y->∃c,W.cells? 0 (a.add (i*P.cellsOf e)) (P.cellsOf e)=G c/\IX enc P W held m e el c y.1 y.2:=by
       intro i y hy;cases hc:W.cells? 0 (a.add (i*P.cellsOf e)) (P.cellsOf e) with
       |none=>rw[hc]at hy;simp at hy
       |some c=>rw[hc]at hy;exact⟨c,rfl,ih m c y.1 y.2 hy⟩
      refine⟨rfl,?_,?_⟩
      .have each:∀i,i<len->∃x:el.den×D Â,W.cells? 0 (a.add (i*P.cellsOf e)) (P.cellsOf e)=G x.2/\Rep (oldS W) W el x.1 x.2/\Wf el x.1:=by intro i hi;obtain⟨y,hy,hf⟩:=g1 i i (by simp[hi]);obtain⟨c,fL,_,⟨v,hv,hw⟩,_⟩:=one i y hf;exact⟨(v,c),fL,hv,hw⟩
       obtain⟨xs,om,gW⟩:=Xn len each;have EW:∀c∈xs.map (·.2),c.length=P.cellsOf e:=by intro c hc;obtain⟨x,hx,rfl⟩:=jz.1 hc;obtain⟨i,hi⟩:=v7.1 hx;exact(Oq (gW i x hi).1).1
       refine⟨xs.map (·.1),?_,?_⟩
       .refine⟨G a,cap,by simp[om],by simp[om,hc.1],hc.2,smp_,λb hb=>?_⟩;simp only[j5]at hb;subst hb;have yK:len≠0->a.spot=none:=by intro hl;obtain⟨x,hx⟩:∃x,xs[0]? = G x:=⟨xs[0],jm omg_⟩;obtain⟨k1,k2⟩:=Oq (gW 0 x hx).1;obtain⟨v,hv⟩:∃v,x.2[0]? = G v:=⟨x.2[0],jm omg_⟩;have:=(Xq (k2 0 v hv)).2;simpa[Addr.add]using this
        refine⟨λbz=>yK (λh0=>bz (by rw[List.map_eq_nil_iff];exact kf omg_)),xs.map (·.2),Xo smp_ (λi x c hx hc=>?_),λj v hv=>?_⟩
        .simp only[qv,Ñ]at hx hc;obtain⟨y,hy,rfl⟩:=hx;obtain⟨z,hz,rfl⟩:=hc;rw[hy]at hz;simp at hz;subst hz;exact(gW i y hy).2.1
        .obtain⟨i,r,c,hj,hr,oK,Al⟩:=Xp EW hv;simp only[qv,Ñ]at oK;obtain⟨x,hx,rfl⟩:=oK;have dF:=(Oq (gW i x hx).1).2 r v Al;have kC:i<len:=by rw[<-om];exact(ka.1 hx).1
         have hs:=yK omg_;have Ae:(a.add (i*P.cellsOf e)).add r=⟨a.block,a.off+j,O⟩:=by obtain⟨g,o,s⟩:=a;simp only at hs;subst hs;simp only[Addr.add];split<;>split<;>simp<;>omega
         rw[Ae]at dF;exact⟨(Xq dF).1,dF⟩
       .refine⟨by simp only[ke,om];omega,λx hx=>?_⟩;obtain⟨y,hy,rfl⟩:=jz.1 hx;obtain⟨i,hi⟩:=v7.1 hy;exact(gW i y hi).2.2
      .intro W' sp hE dz
       have keep:∀i y,y∈elems++rest->(W.cells? 0 (a.add (i*P.cellsOf e)) (P.cellsOf e)).bind (X enc P W 0 (λ_=>Ã) held m e)=G y->
         (W'.cells? 0 (a.add (i*P.cellsOf e)) (P.cellsOf e)).bind (X enc P W' 0 sp held m e)=G y:=by
        intro i y hy hf;obtain⟨c,fL,_,_,hk⟩:=one i y hf;rw[hE.cells fL];exact hk W' sp hE (λq hq=>dz q (k5 _ (qg.2 ⟨y,hy,hq⟩)))
       unfold X;rw[hu];simp only[kp,qc];rw[if_pos hc,IW gV (λi _ y hy hf=>keep i y (jx _ hy) hf)];simp only[j4]
       have eO:(if sp a.block=Ã then (Ø (cap-len)).mapM (λj=>(W'.cells? 0 (a.add ((len+j)*P.cellsOf e)) (P.cellsOf e)).bind (X enc P W' 0 sp held m e)) else G [])=G rest:=by
        split
        .exact IW IY (λj _ y hy hf=>keep (len+j) y (k5 _ hy) hf)
        .rename_i hsf;rcases yp ((elems.length+rest.length)*P.cellsOf e) with h0|h0
         .have:rest=[]:=by
           rcases Nat.mul_eq_zero.1 h0 with h|h
           .exact kf omg_
           .omega
          rw[this]
         .obtain⟨q,hq,hb⟩:=jzL (a:=a) h0;have:=dz q (jx _ hq);rw[hb]at this;exact absurd this hsf
       rw[eO];rfl
   .simp at h
  .simp at h
theorem Xr:∀(n:M)(t:Ì)(ty:Ty),wL P n t ty=Ã->∀(fuel:M)(cs:D Â)(d:Ü H)(ps:D Ð),X enc P W 0 (λ_=>Ã) held fuel t cs=G (d,ps)->
  IX enc P W held fuel t ty cs d ps
 |0,_,_,hc,_,_,_,_,_=>by simp[wL]at hc
 |n+1,t,ty,hc,fuel,cs,d,ps,h=>by
  have ih:=Xr n;cases fuel with
  |zero=>simp[X]at h
  |succ m=>
  have jB:=hc;unfold wL at hc;split at hc
  .rename_i k hu;have:=q8 hc;subst this;obtain⟨z,rfl,hx,hw⟩:=DataW.trod_int hu h;refine⟨rfl,⟨z,rfl,hw⟩,λW' sp _ _=>?_⟩;simp only[j9]at hx;rw[hx.1,hx.2];exact trod_int_mk m hu hw
  .rename_i hu;have:=q8 hc;subst this;obtain⟨z,rfl,hx⟩:=DataW.trod_bool hu h;refine⟨rfl,⟨z,rfl,trivial⟩,λW' sp _ _=>?_⟩;unfold X at h ⊢;rw[hu]at h ⊢;exact h
  .rename_i hu;have:=q8 hc;subst this;obtain⟨z,rfl,hx,hw⟩:=DataW.trod_string hu h;refine⟨rfl,⟨z,rfl,hw⟩,λW' sp _ _=>?_⟩;unfold X at h ⊢;rw[hu]at h ⊢;exact h
  .rename_i e hu;split at hc
   .rename_i a;simp only[jg,js]at hc;exact juJ (n:=n) hu hc.1.2 hc.2 (λm cs d ps h=>ih e a hc.1.1 m cs d ps h) h
   .simp at hc
  .simp at hc
end
theorem IZ{P:À}{W:Á}{r:Reach}{base:M}{t:Ì}{v:Â}{d:TypeDesc}(hu:P.underlying t=G d)(hd:(∃k,d = .int k)\/d = .bool\/d = .string\/∃e,d = .slice e)(h:Ï P W r base t v):One v:=by
 have hc:Cell.ok P W r base t v:=by unfold Ï at h;rw[hu]at h;rcases hd with⟨k,rfl⟩|rfl|rfl|⟨e,rfl⟩<;>(dsimp only at h;unfold Cell.okWide at h;rw[hu]at h;exact h)
 unfold Cell.ok at hc;rw[hu]at hc;rcases hd with⟨k,rfl⟩|rfl|rfl|⟨e,rfl⟩<;>cases v<;>first|rfl|(exact absurd hc smp_)
theorem jC7{H:Type}{enc:Ì×Â->H}{P:À}{W:Á}{n:M}{t:Ì}{ty:Ty}(im:wL P n t ty=Ã){r:Reach}{base:M}{v:Â}(bX:Ï P W r base t v){d:Ü H}{p:D Ð}
  (h:ç enc P W 0 (λ_=>Ã) Ã t v d p) :
  ∃x:ty.den,pO (oldS W) W (.v ⟨ty,x⟩) v/\Wf ty x/\∀W' sp,Below W.heap.size W W'->(∀q∈p,sp q.block=Ã)->ç enc P W' 0 sp Ã t v d p:=by
 obtain⟨fuel,h⟩:=h;obtain⟨_,⟨x,hx,hw⟩,hk⟩:=Xr n t ty im fuel _ d p h;refine⟨x,⟨hx,λhm=>?_,λhm=>?_⟩,hw,λW' sp hb dz=>⟨fuel,hk W' sp (λk y hy=>by rw[hb.block k (jq.1 hy).1];exact hy) dz⟩⟩
 .cases n with
  |zero=>simp[wL]at im
  |succ n=>
   unfold wL at im;split at im
   .have:=q8 im;subst this;simp[kM,Ty.agg]at hm
   .have:=q8 im;subst this;simp[kM,Ty.agg]at hm
   .have:=q8 im;subst this;simp[kM,Ty.agg]at hm
   .split at im
    .simp[kM,Ty.agg]at hm
    .simp at im
   .simp at im
 .cases n with
  |zero=>simp[wL]at im
  |succ n=>
   unfold wL at im;split at im
   .rename_i k hu;exact IZ hu (.inl ⟨k,rfl⟩) bX
   .rename_i hu;exact IZ hu (.inr (.inl rfl)) bX
   .rename_i hu;exact IZ hu (.inr (.inr (.inl rfl))) bX
   .rename_i e hu;exact IZ hu (.inr (.inr (.inr ⟨e,rfl⟩))) bX
   .simp at im
def OLe{α:Type}(a b:I α):Prop:=∀r,a=G r->b=G r
theorem OLe.refl{α:Type}(a:I α):OLe a a:=λ_ h=>h
theorem OLe.none{α:Type}(a:I α):OLe O a:=λ_ h=>by simp at h
theorem OLe.bind{α β:Type}{a b:I α}{f g:α->I β}(h:OLe a b)(h':∀x,OLe (f x) (g x)):OLe (a.bind f) (b.bind g):=by
 intro r hr;cases a with
 |none=>simp at hr
 |some x=>rw[h x rfl];exact h' x r hr
theorem OLe.cond{α:Type}{c:È}{a b a' b':I α}(h:OLe a a')(h':OLe b b'):OLe (cond c a b) (cond c a' b'):=by
 cases c with
 |true=>exact h
 |false=>exact h'
theorem OLe.sumC{α β γ:Type}{x:α ⊕ β}{f f':α->I γ}{g g':β->I γ}(h:∀x,OLe (f x) (f' x))(h':∀x,OLe (g x) (g' x)):OLe (sumC x f g) (Lft.sumC x f' g'):=by
 cases x with
 |inl a=>exact h a
 |inr b=>exact h' b
theorem OLe.loopN{α β:Type}{f g:α->I (α ⊕ β)}(h:∀s,OLe (f s) (g s)):∀(n:M)(s:α),OLe (Lft.loopN f n s) (Lft.loopN g n s)
 |0,_=> .none _
 |n+1,s=>by
  intro r hr;simp only[Lft.loopN]at hr ⊢;cases hf:f s with
  |none=>simp[hf]at hr
  |some x=>
   rw[h s x hf];cases x with
   |inl a=>simp only[hf]at hr;exact OLe.loopN h n a r hr
   |inr b=>simpa[hf]using hr
theorem OLe.loop{α β:Type}{f g:α->I (α ⊕ β)}(n:M)(s:α)(h:∀s,OLe (f s) (g s)):OLe (Lft.loopN f n s) (loopOpt g s):=
 λr hr=>EL (OLe.loopN h n s r hr)
theorem OLe.loopOpt{α β:Type}{f g:α->I (α ⊕ β)}(s:α)(h:∀s,OLe (f s) (g s)):OLe (Lft.loopOpt f s) (Lft.loopOpt g s):=by
 intro r hr;obtain⟨n,hn⟩:=EM hr;exact EL (OLe.loopN h n s r hn)
theorem Xs{α β:Type}{B B':(α->I β)->α->I β}(h:∀g g',(∀a,OLe (g a) (g' a))->∀a,OLe (B g a) (B' g' a)):∀n a,OLe (iB B n a) (iB B' n a)
 |0,_=> .none _
 |n+1,a=>h _ _ (Xs h n) a
theorem Ot{α β:Type}{B:(α->I β)->α->I β}(h:∀g g',(∀a,OLe (g a) (g' a))->∀a,OLe (B g a) (B g' a)):∀(k n:M)(a:α),OLe (iB B n a) (iB B (n+k) a)
 |k,0,a=> .none _
 |k,n+1,a=>by
  rw[show n+1+k=(n+k)+1 by omega];exact h _ _ (Ot h k n) a
theorem OLe.rec{α β:Type}{B B':(α->I β)->α->I β}(n:M)(a:α)(h:∀g g',(∀a,OLe (g a) (g' a))->∀a,OLe (B g a) (B' g' a))(h':∀g g',(∀a,OLe (g a) (g' a))->∀a,OLe (B' g a) (B' g' a)) :
  OLe (iB B n a) (yG B' a):=by
 intro r hr;have h1:=Xs h n a r hr;refine IL ⟨n,h1⟩ λm y hy=>?_;have e1:=Ot h' m n a r h1;have e2:=Ot h' n m a y hy;rw[Nat.add_comm m n]at e2;rw[e1]at e2;simpa using e2.symm
end Go.Lft
