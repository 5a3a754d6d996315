/- Dx of arguments and tX: what is known of them but the data. IM. -/
import Derived.Test.YtbpjdcbbmibehaaGreatWELC
import Derived.KernelRfl
import Derived.IntWalk
import Derived.Below
import Derived.ChangeSame
noncomputable section
set_option linter.unusedVariables false
namespace Go.Lft
inductive CPat where
 |v (t:Ty)
 |p (ts:List Ty)
 deriving DecidableEq
inductive LPat where
 |dead|nil
 |d (t:Ty)
 |ol (k:Nat)
 |bp (k c:Nat)
 |ep (k i c:Nat)
 |tl (k:Nat)
 |hd (k:Nat)
 |s1 (k:Nat)
 |ip (ts:List Ty)
 |clo (f:Nat) (caps:List CPat)
 |clr (f:Nat) (ks:List Nat)
 deriving DecidableEq
inductive KPat where
 |one (l:LPat)
 |st (ls:List LPat)
 |av (n:Nat) (a:Ty)
 deriving DecidableEq
inductive BPat where
 |free|gone
 |cell (ls:List LPat) (frz:Bool)
 |lst (e:Nat) (a:Ty) (frz:Bool)
 |arr (n:Nat) (a:Ty)
 deriving DecidableEq
inductive IPat where
 |s (c:KPat)
 |b (x:BPat)
 deriving DecidableEq
abbrev iT:Ty:= .int .i64
abbrev sI:IPat:= .s (.one (.d iT))
inductive APat where
 |v (t:Ty)
 |ref (ts:List Ty)
 |rl (e:Nat) (t:Ty)
 |ip (ts:List Ty)
 |clo (f:Nat) (caps:List CPat)
 |mv (e:Nat) (t:Ty)
 deriving DecidableEq
@[reducible] def HL:List Ty->Type
 |[]=>Unit
 |[t]=>t.den
 |t::t'::ts=>t.den×HL (t'::ts)
def ofHL:(ts:List Ty)->HL ts->List TV
 |[],_=>[]
 |[t],h=>[⟨t,h⟩]
 |t::t'::ts,h=>⟨t,h.1⟩::ofHL (t'::ts) h.2
def toHL:(ts:List Ty)->List TV->Option (HL ts)
 |[],[]=>some ()
 |[t],[x]=>x.to t
 |t::t'::ts,x::xs=>match x.to t with
  |some v=>match toHL (t'::ts) xs with
   |some r=>some (v,r)
   |none=>none
  |none=>none
 |_,_=>none
theorem y9:∀{ts:List Ty}{xs:List TV}{h:HL ts},toHL ts xs=some h->xs=ofHL ts h
 |[],[],_,_=>rfl
 |[],_::_,_,h=>by simp[toHL]at h
 |[_],[],_,h=>by simp[toHL]at h
 |[t],[x],hl,h=>by
  simp only[toHL]at h;rw[gU h];rfl
 |[t],x::y::xs,hl,h=>by simp[toHL]at h
 |_::_::_,[],_,h=>by simp[toHL]at h
 |t::t'::ts,x::xs,hl,h=>by
  simp only[toHL]at h;split at h
  .rename_i v hv;split at h
   .rename_i r hr;simp only[j5]at h;subst h;rw[gU hv,y9 hr];rfl
   .simp at h
  .simp at h
def capP:Cap->CPat×List TV
 |.v x=>(.v x.t,[x])
 |.p ls=>(.p (ls.map (·.t)),ls)
def jT:List Cap->List CPat×List TV
 |[]=>([],[])
 |c::cs=>((capP c).1::(jT cs).1,(capP c).2++(jT cs).2)
def tv0:TV:=⟨.unit,()⟩
def capF:CPat->List TV->Cap
 |.v _,xs=> .v (xs.headD tv0)
 |.p ts,xs=> .p (xs.take ts.length)
def CPat.n:CPat->Nat
 |.v _=>1
 |.p ts=>ts.length
def tY:List CPat->List TV->List Cap
 |[],_=>[]
 |c::cs,xs=>capF c xs::tY cs (xs.drop c.n)
def tZ:List CPat->Nat
 |[]=>0
 |c::cs=>c.n+tZ cs
theorem P7(c:Cap)(r:List TV):capF (capP c).1 ((capP c).2++r)=c/\(capP c).1.n=(capP c).2.length:=by
 cases c with
 |v x=>exact⟨rfl,rfl⟩
 |p ls=>simp[capP,capF,CPat.n]
theorem zm:∀(cs:List Cap)(r:List TV),tY (jT cs).1 ((jT cs).2++r)=cs/\tZ (jT cs).1=(jT cs).2.length
 |[],r=>⟨rfl,rfl⟩
 |c::cs,r=>by
  simp only[jT,tY,tZ,jj,jn];have h1:=P7 c ((jT cs).2++r);have h2:=zm cs r;rw[h1.1,h1.2,z6,h2.1,h2.2];exact⟨rfl,rfl⟩
def nA:Leaf->LPat×List TV
 |.dead=>(.dead,[])
 |.nil=>(.nil,[])
 |.d t v=>(.d t,[⟨t,v⟩])
 |.ol k=>(.ol k,[])
 |.bp k c=>(.bp k c,[])
 |.ep k i c=>(.ep k i c,[])
 |.tl k i=>(.tl k,[⟨.int .i64,(i:Int)⟩])
 |.hd k i=>(.hd k,[⟨.int .i64,(i:Int)⟩])
 |.s1 k=>(.s1 k,[])
 |.ip ls=>(.ip (ls.map (·.t)),ls)
 |.clo f caps=>(.clo f (jT caps).1,(jT caps).2)
 |.clr f ks=>(.clr f ks,[])
def Dy:TV->Nat
 |⟨.int _,v⟩=>Int.toNat v
 |_=>0
def LPat.n:LPat->Nat
 |.d _=>1
 |.tl _=>1
 |.hd _=>1
 |.ip ts=>ts.length
 |.clo _ cs=>tZ cs
 |_=>0
def wU:LPat->List TV->Leaf
 |.dead,_=> .dead
 |.nil,_=> .nil
 |.d _,xs=> .d (xs.headD tv0).t (xs.headD tv0).v
 |.ol k,_=> .ol k
 |.bp k c,_=> .bp k c
 |.ep k i c,_=> .ep k i c
 |.tl k,xs=> .tl k (Dy (xs.headD tv0))
 |.hd k,xs=> .hd k (Dy (xs.headD tv0))
 |.s1 k,_=> .s1 k
 |.ip ts,xs=> .ip (xs.take ts.length)
 |.clo f cs,xs=> .clo f (tY cs xs)
 |.clr f ks,_=> .clr f ks
theorem IP(l:Leaf)(r:List TV):wU (nA l).1 ((nA l).2++r)=l/\(nA l).1.n=(nA l).2.length:=by
 cases l with
 |ip ls=>simp[nA,wU,LPat.n]
 |clo f cs=>have:=zm cs r;simp only[nA,wU,LPat.n];exact⟨by rw[this.1],this.2⟩
 |_=>exact⟨rfl,rfl⟩
def ln:List Leaf->List LPat×List TV
 |[]=>([],[])
 |c::cs=>((nA c).1::(ln cs).1,(nA c).2++(ln cs).2)
def wV:List LPat->List TV->List Leaf
 |[],_=>[]
 |c::cs,xs=>wU c xs::wV cs (xs.drop c.n)
def wW:List LPat->Nat
 |[]=>0
 |c::cs=>c.n+wW cs
theorem Dz:∀(cs:List Leaf)(r:List TV),wV (ln cs).1 ((ln cs).2++r)=cs/\wW (ln cs).1=(ln cs).2.length
 |[],r=>⟨rfl,rfl⟩
 |c::cs,r=>by
  simp only[ln,wV,wW,jj,jn];have h1:=IP c ((ln cs).2++r);have h2:=Dz cs r;rw[h1.1,h1.2,z6,h2.1,h2.2];exact⟨rfl,rfl⟩
def celP:Cel->KPat×List TV
 |.one l=>(.one (nA l).1,(nA l).2)
 |.st ls=>(.st (ln ls).1,(ln ls).2)
 |.av n a xs=>(.av n a,[⟨.list a,xs⟩])
def wX(a:Ty)(xs:List TV):List a.den:=((xs.headD tv0).to (.list a)).getD []
theorem DA(a:Ty)(xs:List a.den)(r:List TV):wX a (⟨.list a,xs⟩::r)=xs:=by
 simp[wX,TV.to]
def KPat.n:KPat->Nat
 |.one l=>l.n
 |.st ls=>wW ls
 |.av _ _=>1
def celF:KPat->List TV->Cel
 |.one l,xs=> .one (wU l xs)
 |.st ls,xs=> .st (wV ls xs)
 |.av n a,xs=> .av n a (wX a xs)
theorem P8(c:Cel)(r:List TV):celF (celP c).1 ((celP c).2++r)=c/\(celP c).1.n=(celP c).2.length:=by
 cases c with
 |one l=>have:=IP l r;exact⟨by simp only[celP,celF];rw[this.1],this.2⟩
 |st ls=>have:=Dz ls r;exact⟨by simp only[celP,celF];rw[this.1],this.2⟩
 |av n a xs=>exact⟨by simp only[celP,celF,List.cons_append,kj];rw[DA],rfl⟩
def bsP:BS->BPat×List TV
 |.free=>(.free,[])
 |.gone=>(.gone,[])
 |.live (.cell ls f)=>(.cell (ln ls).1 f,(ln ls).2)
 |.live (.lst e a xs f)=>(.lst e a f,[⟨.list a,xs⟩])
 |.live (.arr n a xs)=>(.arr n a,[⟨.list a,xs⟩])
def BPat.n:BPat->Nat
 |.free|.gone=>0
 |.cell ls _=>wW ls
 |.lst _ _ _=>1
 |.arr _ _=>1
def bsF:BPat->List TV->BS
 |.free,_=> .free
 |.gone,_=> .gone
 |.cell ls f,xs=> .live (.cell (wV ls xs) f)
 |.lst e a f,xs=> .live (.lst e a (wX a xs) f)
 |.arr n a,xs=> .live (.arr n a (wX a xs))
theorem P9(c:BS)(r:List TV):bsF (bsP c).1 ((bsP c).2++r)=c/\(bsP c).1.n=(bsP c).2.length:=by
 cases c with
 |free=>exact⟨rfl,rfl⟩
 |gone=>exact⟨rfl,rfl⟩
 |live b=>
  cases b with
  |cell ls f=>have:=Dz ls r;exact⟨by simp only[bsP,bsF];rw[this.1],this.2⟩
  |lst e a xs f=>exact⟨by simp only[bsP,bsF,List.cons_append,kj];rw[DA],rfl⟩
  |arr n a xs=>exact⟨by simp only[bsP,bsF,List.cons_append,kj];rw[DA],rfl⟩
def itP:Item->IPat×List TV
 |.s c=>(.s (celP c).1,(celP c).2)
 |.b x=>(.b (bsP x).1,(bsP x).2)
def IPat.n:IPat->Nat
 |.s c=>c.n
 |.b x=>x.n
def itF:IPat->List TV->Item
 |.s c,xs=> .s (celF c xs)
 |.b x,xs=> .b (bsF x xs)
theorem IQ(c:Item)(r:List TV):itF (itP c).1 ((itP c).2++r)=c/\(itP c).1.n=(itP c).2.length:=by
 cases c with
 |s c=>have:=P8 c r;exact⟨by simp only[itP,itF];rw[this.1],this.2⟩
 |b x=>have:=P9 x r;exact⟨by simp only[itP,itF];rw[this.1],this.2⟩
def ik:Snap->List IPat×List TV
 |[]=>([],[])
 |c::cs=>((itP c).1::(ik cs).1,(itP c).2++(ik cs).2)
def sw:List IPat->List TV->Snap
 |[],_=>[]
 |c::cs,xs=>itF c xs::sw cs (xs.drop c.n)
theorem IU:∀(cs:Snap),sw (ik cs).1 (ik cs).2=cs
 |[]=>rfl
 |c::cs=>by
  simp only[ik,sw];have h1:=IQ c (ik cs).2;rw[h1.1,h1.2,z6,IU cs]
def pack(ps:List IPat)(ts:List Ty)(h:HL ts):Snap:=sw ps (ofHL ts h)
def mF(ps:List IPat)(ts:List Ty)(s:Snap):Option (HL ts):=
 if (ik s).1=ps then toHL ts (ik s).2 else none
theorem ua{ps:List IPat}{ts:List Ty}{s:Snap}{h:HL ts}(hs:mF ps ts s=some h):s=pack ps ts h:=by
 unfold mF at hs;split at hs
 .rename_i hp;have:=y9 hs;rw[pack,<-this,<-hp,IU]
 .simp at hs
def argP:Arg->APat×List TV
 |.v x=>(.v x.t,[x])
 |.ref ls=>(.ref (ls.map (·.t)),ls)
 |.rl e x=>(.rl e x.t,[x])
 |.ip ls=>(.ip (ls.map (·.t)),ls)
 |.clo f cs=>(.clo f (jT cs).1,(jT cs).2)
 |.mv e x=>(.mv e x.t,[x])
def APat.n:APat->Nat
 |.v _=>1
 |.ref ts=>ts.length
 |.rl _ _=>1
 |.ip ts=>ts.length
 |.clo _ cs=>tZ cs
 |.mv _ _=>1
def argF:APat->List TV->Arg
 |.v _,xs=> .v (xs.headD tv0)
 |.ref ts,xs=> .ref (xs.take ts.length)
 |.rl e _,xs=> .rl e (xs.headD tv0)
 |.ip ts,xs=> .ip (xs.take ts.length)
 |.clo f cs,xs=> .clo f (tY cs xs)
 |.mv e _,xs=> .mv e (xs.headD tv0)
theorem Qa(c:Arg)(r:List TV):argF (argP c).1 ((argP c).2++r)=c/\(argP c).1.n=(argP c).2.length:=by
 cases c with
 |v x=>exact⟨rfl,rfl⟩
 |rl e x=>exact⟨rfl,rfl⟩
 |mv e x=>exact⟨rfl,rfl⟩
 |ref ls=>simp[argP,argF,APat.n]
 |ip ls=>simp[argP,argF,APat.n]
 |clo f cs=>have:=zm cs r;exact⟨by simp only[argP,argF];rw[this.1],this.2⟩
def oP:List Arg->List APat×List TV
 |[]=>([],[])
 |c::cs=>((argP c).1::(oP cs).1,(argP c).2++(oP cs).2)
def wY:List APat->List TV->List Arg
 |[],_=>[]
 |c::cs,xs=>argF c xs::wY cs (xs.drop c.n)
theorem IV:∀(cs:List Arg),wY (oP cs).1 (oP cs).2=cs
 |[]=>rfl
 |c::cs=>by
  simp only[oP,wY];have h1:=Qa c (oP cs).2;rw[h1.1,h1.2,z6,IV cs]
def mG(ps:List APat)(ts:List Ty)(h:HL ts):List Arg:=wY ps (ofHL ts h)
def zn(ps:List APat)(ts:List Ty)(s:List Arg):Option (HL ts):=
 if (oP s).1=ps then toHL ts (oP s).2 else none
theorem DB{ps:List APat}{ts:List Ty}{s:List Arg}{h:HL ts}(hs:zn ps ts s=some h):s=mG ps ts h:=by
 unfold zn at hs;split at hs
 .rename_i hp;have:=y9 hs;rw[mG,<-this,<-hp,IV]
 .simp at hs
theorem IW{α β:Type}{f:α->Option (α ⊕ β)}:∀{n m:Nat}{s:α}{x y:β},loopN f n s=some x->loopN f m s=some y->x=y
 |0,_,_,_,_,h,_=>by simp[loopN]at h
 |_+1,0,_,_,_,_,h=>by simp[loopN]at h
 |n+1,m+1,s,x,y,h,h'=>by
  simp only[loopN]at h h';cases hf:f s with
  |none=>simp[hf]at h
  |some r=>
   cases r with
   |inl s'=>simp only[hf]at h h';exact IW h h'
   |inr z=>simp only[hf,j5]at h h';rw[<-h,<-h']
open Classical in
def loopOpt{α β:Type}(f:α->Option (α ⊕ β))(s:α):Option β:=
 if h:∃x n,loopN f n s=some x then some h.choose else none
theorem wZ{α β:Type}{f:α->Option (α ⊕ β)}{s:α}{n:Nat}{x:β}(h:loopN f n s=some x):loopOpt f s=some x:=by
 unfold loopOpt;have hx:∃x n,loopN f n s=some x:=⟨x,n,h⟩;rw[dif_pos hx];obtain⟨m,hm⟩:=hx.choose_spec;rw[IW hm h]
theorem w6{α β:Type}{f:α->Option (α ⊕ β)}{s:α}{x:β}(h:loopOpt f s=some x):∃n,loopN f n s=some x:=by
 unfold loopOpt at h;split at h
 .rename_i hx;simp only[j5]at h;obtain⟨m,hm⟩:=hx.choose_spec;exact⟨m,by rw[<-h];exact hm⟩
 .simp at h
theorem Qb{α β:Type}{f:α->Option (α ⊕ β)}{s s':α}(h:f s=some (.inl s')):loopOpt f s=loopOpt f s':=by
 cases hq:loopOpt f s' with
 |some x=>obtain⟨n,hn⟩:=w6 hq;exact wZ (n:=n+1) (by simp only[loopN,h];exact hn)
 |none=>
  cases hp:loopOpt f s with
  |none=>rfl
  |some x=>
   obtain⟨n,hn⟩:=w6 hp;cases n with
   |zero=>simp[loopN]at hn
   |succ n=>simp only[loopN,h]at hn;rw[wZ hn]at hq;simp at hq
theorem Qc{α β:Type}{f:α->Option (α ⊕ β)}{s:α}{x:β}(h:f s=some (.inr x)):loopOpt f s=some x:=
 wZ (n:=1) (by simp only[loopN,h])
theorem IX{α β A B:Type}{f:α->Option (α ⊕ β)}{g:A->Option (A ⊕ B)}{p:A->α}{q:B->β}
  (h:∀a r,g a=some r->f (p a)=some (match r with|.inl a'=> .inl (p a')|.inr b=> .inr (q b))):∀{n:Nat}{a:A}{x:B},loopN g n a=some x->loopN f n (p a)=some (q x)
 |0,_,_,hn=>by simp[loopN]at hn
 |n+1,a,x,hn=>by
  simp only[loopN]at hn;cases hg:g a with
  |none=>simp[hg]at hn
  |some r=>
   have:=h a r hg;cases r with
   |inl a'=>simp only[hg]at hn;simp only[loopN,this];exact IX h hn
   |inr b=>simp only[hg,j5]at hn;subst hn;simp only[loopN,this]
def sumC{α β γ:Type}(x:α ⊕ β)(f:α->γ)(g:β->γ):γ:=match x with
 |.inl a=>f a
 |.inr b=>g b
structure XD where
 ex:Ex
 ps:List IPat
 ts:List Ty
@[reducible] def XT:List XD->Type
 |[]=>Empty
 |[x]=>HL x.ts
 |x::y::r=>HL x.ts ⊕ XT (y::r)
def mH:(l:List XD)->XT l->Ex×Snap
 |[],h=>nomatch h
 |[x],h=>(x.ex,pack x.ps x.ts h)
 |x::y::r,h=>match h with
  |.inl a=>(x.ex,pack x.ps x.ts a)
  |.inr b=>mH (y::r) b
def w7{R:Type}:(l:List XD)->XT l->(Ex->Snap->Option R)->Option R
 |[],_,_=>none
 |[x],h,k=>k x.ex (pack x.ps x.ts h)
 |x::y::r,h,k=>sumC h (λa=>k x.ex (pack x.ps x.ts a)) (λb=>w7 (y::r) b k)
theorem DC{R:Type}:∀(l:List XD)(h:XT l)(k:Ex->Snap->Option R),w7 l h k=k (mH l h).1 (mH l h).2
 |[],h,_=>nomatch h
 |[x],h,k=>rfl
 |x::y::r,h,k=>by
  cases h with
  |inl a=>rfl
  |inr b=>exact DC (y::r) b k
def unX:(l:List XD)->Ex->Snap->Option (XT l)
 |[],_,_=>none
 |[x],e,s=>if e=x.ex then mF x.ps x.ts s else none
 |x::y::r,e,s=>if e=x.ex/\(ik s).1=x.ps then match mF x.ps x.ts s with
   |some a=>some (.inl a)
   |none=>none
  else match unX (y::r) e s with
   |some b=>some (.inr b)
   |none=>none
theorem zo:∀(l:List XD)(e:Ex)(s:Snap)(x:XT l),unX l e s=some x->mH l x=(e,s)
 |[],_,_,_,h=>by simp[unX]at h
 |[x],e,s,h,he=>by
  simp only[unX]at he;split at he
  .rename_i h1;rw[mH,<-ua he,h1]
  .simp at he
 |x::y::r,e,s,h,he=>by
  simp only[unX]at he;split at he
  .rename_i h1;split at he
   .rename_i a ha;simp only[j5]at he;subst he;show (x.ex,pack x.ps x.ts a)=(e,s);rw[<-ua ha,h1.1]
   .simp at he
  .split at he
   .rename_i b hb;simp only[j5]at he;subst he;exact zo (y::r) e s b hb
   .simp at he
structure il where
 b:Nat
 ps:List IPat
 ts:List Ty
 exits:List XD
 step:HL ts->Option (HL ts ⊕ XT exits)
def oQ:List il->Nat->Snap->(R:Type)->(Ex->Snap->Option R)->Option R
 |[],_,_,_,_=>none
 |d::ds,b,s,R,k=>if d.b=b then match mF d.ps d.ts s with
   |some h=>(loopOpt d.step h).bind λx=>w7 d.exits x k
   |none=>none
  else oQ ds b s R k
theorem DD:∀ds:List il,LFun (oQ ds)
 |[]=>λ_ _=>⟨none,λ_ _=>rfl⟩
 |d::ds=>λb s=>by
  simp only[oQ];split
  .split
   .rename_i h _;cases hq:loopOpt d.step h with
    |none=>exact⟨none,λ_ _=>rfl⟩
    |some x=>exact⟨some (mH d.exits x),λR k=>DC d.exits x k⟩
   .exact⟨none,λ_ _=>rfl⟩
  .exact DD ds b s
structure MrD where
 b:Nat
 m:Nat
 nm:Nat
 ps:List IPat
 ts:List Ty
 em:Nat
 v:Ty
 G:HL ts->Int->v.den->(R:Type)->(v.den->Option R)->Option R
def mrL:List MrD->Nat->Snap->(R:Type)->(Snap->Option R)->Option R
 |[],_,_,_,_=>none
 |d::ds,b,s,R,k=>if d.b=b then match mF d.ps d.ts s,pk d.em d.v s with
   |some h,some xs=>(nO (λq z=>d.G h q z d.v.den some) xs).bind λys=>k (dU s d.em d.v ys)
   |_,_=>none
  else mrL ds b s R k
def mrF:List MrD->Nat->Option (Nat×Nat)
 |[],_=>none
 |d::ds,b=>if d.b=b then some (d.m,d.nm) else mrF ds b
theorem DE:∀ds:List MrD,MFun (mrL ds)
 |[]=>λ_ _=>⟨none,λ_ _=>rfl⟩
 |d::ds=>λb s=>by
  simp only[mrL];split
  .split
   .rename_i h xs _ _;cases nO (λq z=>d.G h q z d.v.den some) xs with
    |none=>exact⟨none,λ_ _=>rfl⟩
    |some ys=>exact⟨some (dU s d.em d.v ys),λ_ _=>rfl⟩
   .exact⟨none,λ_ _=>rfl⟩
  .exact DE ds b s
theorem IY{b m nm:Nat}:∀{ds:List MrD},mrF ds b=some (m,nm)->∃d∈ds,d.b=b/\d.m=m/\d.nm=nm/\∀s R k,mrL ds b s R k=match mF d.ps d.ts s,pk d.em d.v s with
   |some h,some xs=>(nO (λq z=>d.G h q z d.v.den some) xs).bind λys=>k (dU s d.em d.v ys)
   |_,_=>none
 |[],h=>by simp[mrF]at h
 |d::ds,h=>by
  simp only[mrF]at h;split at h
  .rename_i hb;simp only[j5,j9]at h;refine⟨d,by simp,hb,h.1,h.2,λs R k=>?_⟩;simp only[mrL,hb,if_true]
  .rename_i hb;obtain⟨d',hm,h1,h2,h3,h4⟩:=IY h;refine⟨d',by simp[hm],h1,h2,h3,λs R k=>?_⟩;rw[<-h4];simp only[mrL,hb,qi]
def mrPd(b:Nat)(c:Code):MrP:=(mrP b c).getD ⟨0,0,0,0,0, #[],.skip⟩
structure DF(E:Env)(c:Code)(d:MrD):Prop where
 em:isM d.em=true
 bx:∀h zs,(bj E.np (E.keep d.b) (dU (pack d.ps d.ts h) d.em d.v zs)).bx d.nm = .live (.lst d.em (.pair (.int .i64) d.v) zs false)
 sl:∀h zs,(bj E.np (E.keep d.b) (dU (pack d.ps d.ts h) d.em d.v zs)).sl d.m = .one (.one (.ol d.nm))
 step:∀h zs q z (R:Type) (k:Snap->Option R),tb E d.b (mrPd d.b c) d.m (dU (pack d.ps d.ts h) d.em d.v zs) d.v q z k=
  d.G h q z R (λy=>k (dU (pack d.ps d.ts h) d.em d.v (@gH _ _ (Ty.int .i64).keq zs q y)))
theorem Qd(t:Ty)(v:t.den):(TV.mk t v).to t=some v:=by simp[TV.to]
theorem Qe(s:Snap)(em:Nat)(v:Ty)(zs:List (Int×v.den)):pk em v (dU s em v zs)=some zs:=by
 unfold pk dU;simp only[List.getLast?_append,List.getLast?_singleton,Option.some_or,if_true];exact Qd (.list (.pair (.int .i64) v)) zs
theorem Qf{em:Nat}{v:Ty}{s:Snap}{xs:List (Int×v.den)}(h:pk em v s=some xs):s=dU s em v xs:=by
 unfold pk at h;split at h
 .rename_i e a zs hl;split at h
  .rename_i he;subst he;have:=gU h;cases this;obtain⟨pre,rfl⟩:=List.getLast?_eq_some_iff.1 hl;unfold dU;rw[List.dropLast_concat]
  .simp at h
 .simp at h
theorem IZ{α β:Type}{G:α->β->Option β}:∀{xs ys:List (α×β)},nO G xs=some ys->All2 (λx y=>y.1=x.1/\G x.1 x.2=some y.2) xs ys
 |[],ys,h=>by
  simp only[nO,j5]at h;subst h;trivial
 |x::r,ys,h=>by
  simp only[nO]at h;cases hg:G x.1 x.2 with
  |none=>rw[hg]at h;simp at h
  |some z=>
   rw[hg,j4]at h;cases hr:nO G r with
   |none=>rw[hr]at h;simp at h
   |some r'=>rw[hr,j4,j5]at h;subst h;exact⟨⟨rfl,hg⟩,IZ hr⟩
theorem Qg{E:Env}(hF:CFun E.C)(hz:E.nz=false)(hL:LFun E.L/\MFun E.M){c:Code}{ds:List MrD}{b:Nat}(hm:E.mr=mrF ds)(hM:E.M=mrL ds)(hs:∀d∈ds,d.b=b->DF E c d):MrOK E b c:=by
 intro m nm p hb hp s R k r h;rw[hm]at hb;obtain⟨d,hd,rfl,rfl,rfl,he⟩:=IY hb;have aM:=hs d hd rfl;rw[hM,he]at h;split at h
 case h_2=>simp at h
 rename_i hh xs hu hg;cases hq:nO (λq z=>d.G hh q z d.v.den some) xs with
 |none=>rw[hq]at h;simp at h
 |some ys=>
 rw[hq,j4]at h;obtain rfl:=ua hu;have Qh:mrPd d.b c=p:=by unfold mrPd;rw[hp];rfl
 refine⟨d.em,d.v,xs,ys,aM.em,Qf hg,λzs=>⟨aM.bx hh zs,aM.sl hh zs⟩,(IZ hq).mono λx y yW=>⟨yW.1,λzs=>?_⟩,h⟩;obtain⟨o,ho⟩:=P5 hF hz hL d.b p d.m (dU (pack d.ps d.ts hh) d.em d.v []) d.v x.1 x.2;have aj:=λzs R k=>aM.step hh zs x.1 x.2 R k;rw[Qh]at aj
 let inv:Snap->d.v.den:=λs=>match pk d.em d.v s with
  |some ((_,y)::_)=>y
  |_=>d.v.dflt
 have hinv:∀y,inv (dU (pack d.ps d.ts hh) d.em d.v (@gH _ _ (Ty.int .i64).keq [] x.1 y))=y:=λy=>by
  show (match pk d.em d.v _ with
   |some ((_,y)::_)=>y
   |_=>d.v.dflt)=y
  rw[Qe];rfl
 have hG:∀(R:Type)(κ:d.v.den->Option R),d.G hh x.1 x.2 R κ=o.bind λs=>κ (inv s):=λR κ=>by
  rw[<-ho];show _=tb E d.b p d.m (dU (pack d.ps d.ts hh) d.em d.v []) d.v x.1 x.2 λs=>κ (inv s);rw[aj];congr 1;funext y;rw[hinv]
 rw[aj,hG];have h2:=yW.2;rw[hG]at h2;cases o with
 |none=>simp at h2
 |some s0=>rw[j4,j5]at h2;rw[j4,h2]
def mrAt(c:Code)(b:Nat):Code:=(((dt 0 c).find? λx=>Nat.beq x.1 b).getD (0,.skip)).2
def sx(E:Env)(c:Code):List MrD->Prop
 |[]=>True
 |d::ds=>DF E (mrAt c d.b) d/\sx E c ds
theorem sx.get{E:Env}{c:Code}:∀{ds:List MrD},sx E c ds->∀d∈ds,DF E (mrAt c d.b) d
 |[],_,d,h=>by simp at h
 |x::r,hs,d,h=>by
  rcases jf.1 h with rfl|h
  .exact hs.1
  .exact sx.get hs.2 d h
theorem I0:∀{l:List (Nat×Code)}{x:Nat×Code},(l.map (·.1)).Nodup->x∈l->l.find? (λy=>Nat.beq y.1 x.1)=some x
 |[],x,_,h=>by simp at h
 |y::r,x,hn,h=>by
  have hc:=q8.1 (show (y.1::r.map (·.1)).Nodup from hn);rcases jf.1 h with rfl|h
  .rw[List.find?_cons,Nat.beq_refl]
  .have aB:y.1≠x.1:=λe=>hc.1 (e▸jy.2 ⟨x,h,rfl⟩);rw[List.find?_cons,beqF aB];exact I0 hc.2 h
def uk(E:Env)(d:il)(e:Ex)(σ:St):Option (HL d.ts ⊕ XT d.exits):=
 match e with
 |.normal=>match eV E.np (E.keep d.b) σ with
  |some s=>match mF d.ps d.ts s with
   |some h=>some (.inl h)
   |none=>none
  |none=>none
 |e=>match eV E.np (E.keepX d.b e) σ with
  |some s=>match unX d.exits e s with
   |some x=>some (.inr x)
   |none=>none
  |none=>none
def ukR(E:Env)(d:il)(ps:Array Nat)(x y:Code)(p:Option (List Item))(e:Ex)(σ:St):Option (HL d.ts ⊕ XT d.exits):=
 match p,e with
 |some q,.normal=>match eV E.np (E.keep d.b) σ with
  |some s=>match mF d.ps d.ts (q++s) with
   |some h=>some (.inl h)
   |none=>none
  |none=>none
 |_,e=>cond (pinK ps x y (E.keepX d.b e)) (match eV E.np (E.keepX d.b e) σ with
  |some s=>match unX d.exits e s with
   |some x=>some (.inr x)
   |none=>none
  |none=>none) none
def Qi(E:Env)(d:il)(h:HL d.ts):Code->Option (HL d.ts ⊕ XT d.exits)
 |.rangeFunc g ps x y=>uQ E d.b g ps x y (pack d.ps d.ts h) (ukR E d ps x y)
 |c=>dg E d.b c (bj E.np (E.keep d.b) (pack d.ps d.ts h)) (uk E d)
def zp(E:Env)(c:Code)(d:il):Prop:=∀h,Qi E d h c=d.step h
def outS(d:il)(r:HL d.ts ⊕ XT d.exits):Snap ⊕ Ex×Snap:=match r with
 |.inl a=> .inl (pack d.ps d.ts a)
 |.inr x=> .inr (mH d.exits x)
theorem Qj{E:Env}(hF:CFun E.C)(hz:E.nz=false)(hL:LFun E.L/\MFun E.M){g:Operand}{ps:Array Nat}{x y:Code}{d:il}(hs:zp E (.rangeFunc g ps x y) d)(h:HL d.ts)(r:HL d.ts ⊕ XT d.exits):d.step h=some r->
  s9 E d.b g ps x y (pack d.ps d.ts h)=some (outS d r):=by
 intro hr;obtain⟨o,ho⟩:=P4 hF hz hL d.b g ps x y (pack d.ps d.ts h);rw[<-hs h]at hr;have h1:some r=_:=hr.symm.trans (ho _ (λz=>ukR E d ps x y z.1 z.2.1 z.2.2));cases o with
 |none=>simp at h1
 |some z=>
  obtain⟨p,e,σ⟩:=z;simp only[j4]at h1
  have h2:=ho _ (λz:Option (List Item)×Ex×St=>match z.1,z.2.1 with
   |some q,.normal=>match eV E.np (E.keep d.b) z.2.2 with
    |some s'=>some (Sum.inl (q++s'))
    |none=>none
   |_,e=>cond (pinK ps x y (E.keepX d.b e)) (match eV E.np (E.keepX d.b e) z.2.2 with
    |some s'=>some (Sum.inr (e,s'))
    |none=>none) none)
  have h3:s9 E d.b g ps x y (pack d.ps d.ts h)=_:=h2;rw[h3,j4];clear h3 h2 hr ho;dsimp only;have h1:=h1.symm;unfold ukR at h1
  have hx:∀e,(cond (pinK ps x y (E.keepX d.b e)) (match eV E.np (E.keepX d.b e) σ with
    |some s=>match unX d.exits e s with
     |some x=>some (Sum.inr x)
     |none=>none
    |none=>none) none:Option (HL d.ts ⊕ XT d.exits))=some r->(cond (pinK ps x y (E.keepX d.b e)) (match eV E.np (E.keepX d.b e) σ with
    |some s'=>some (Sum.inr (e,s'))
    |none=>none) none:Option (Snap ⊕ Ex×Snap))=some (outS d r):=by
   intro e h1;cases hp:pinK ps x y (E.keepX d.b e) with
   |false=>rw[hp]at h1;simp at h1
   |true=>
    rw[hp,j6]at h1;rw[j6];split at h1
    .rename_i s cW;split at h1
     .rename_i hh hu;simp only[j5]at h1;subst h1;simp only[outS];rw[zo _ _ _ _ hu]
     .simp at h1
    .simp at h1
  cases p with
  |none=>exact hx e h1
  |some q=>
   cases e with
   |normal=>
    dsimp only at h1 ⊢
    split at h1
    .rename_i s cW;split at h1
     .rename_i hh hu;simp only[j5]at h1;subst h1;simp only[outS];rw[<-ua hu]
     .simp at h1
    .simp at h1
   |exit i=>exact hx _ h1
   |ret=>exact hx _ h1
theorem Qk{E:Env}(hF:CFun E.C)(hz:E.nz=false)(hL:LFun E.L/\MFun E.M){c:Code}{d:il}(hs:∀h,dg E d.b c (bj E.np (E.keep d.b) (pack d.ps d.ts h)) (uk E d)=d.step h)(h:HL d.ts)(r:HL d.ts ⊕ XT d.exits):d.step h=some r->
  re E d.b c (pack d.ps d.ts h)=some (match r with|.inl a=> .inl (pack d.ps d.ts a)|.inr x=> .inr (mH d.exits x)):=by
 intro hr;obtain⟨o,ho⟩:=wT hF hz hL c d.b (bj E.np (E.keep d.b) (pack d.ps d.ts h));rw[<-hs h]at hr;have h1:some r=_:=hr.symm.trans (ho _ (λz=>uk E d z.1 z.2));cases o with
 |none=>simp at h1
 |some z=>
  obtain⟨e,σ⟩:=z;simp only[j4]at h1
  have h2:=ho _ (λz:Ex×St=>match z.1 with
   |.normal=>match eV E.np (E.keep d.b) z.2 with
    |some s'=>some (Sum.inl s')
    |none=>none
   |e=>match eV E.np (E.keepX d.b e) z.2 with
    |some s'=>some (Sum.inr (e,s'))
    |none=>none)
  have h3:re E d.b c (pack d.ps d.ts h)=_:=h2;rw[h3,j4];clear h3 h2 hr ho;dsimp only;have h1:=h1.symm;unfold uk at h1;cases e with
  |normal=>
   dsimp only at h1 ⊢
   split at h1
   .rename_i s cW;split at h1
    .rename_i hh hu;simp only[j5]at h1;subst h1;dsimp only;rw[<-ua hu]
    .simp at h1
   .simp at h1
  |exit i=>
   dsimp only at h1 ⊢
   split at h1
   .rename_i s cW;split at h1
    .rename_i hh hu;simp only[j5]at h1;subst h1;dsimp only;rw[zo _ _ _ _ hu]
    .simp at h1
   .simp at h1
  |ret=>
   dsimp only at h1 ⊢
   split at h1
   .rename_i s cW;split at h1
    .rename_i hh hu;simp only[j5]at h1;subst h1;dsimp only;rw[zo _ _ _ _ hu]
    .simp at h1
   .simp at h1
theorem Ql{E:Env}(hF:CFun E.C)(hz:E.nz=false)(hL:LFun E.L/\MFun E.M){c:Code}{d:il}(hs:zp E c d)
  (he:∀s R k,E.L d.b s R k=match mF d.ps d.ts s with|some h=>(loopOpt d.step h).bind λx=>w7 d.exits x k|none=>none):wi E d.b c:=by
 intro s R k r h;rw[he]at h;split at h
 .rename_i hl hu;cases hq:loopOpt d.step hl with
  |none=>simp[hq]at h
  |some x=>
   rw[hq,j4,DC]at h;obtain⟨n,hn⟩:=w6 hq;refine⟨n,(mH d.exits x).1,(mH d.exits x).2,?_,h⟩;rw[ua hu]
   exact IX (f:=AQ E d.b c) (p:=pack d.ps d.ts) (q:=mH d.exits) (λa r hr=>by
    cases c with
    |rangeFunc g ps x y=>have:=Qj hF hz hL hs a r hr;cases r<;>exact this
    |_=>have:=Qk hF hz hL hs a r hr;cases r<;>exact this) hn
 .simp at h
def lpAt(c:Code)(j:Nat):Code:=((dt 0 c).getD j (0,.skip)).2
def qK(E:Env)(c:Code):Nat->List il->Prop
 |_,[]=>True
 |j,d::ds=>zp E (lpAt c j) d/\qK E c (j+1) ds
theorem qK.get{E:Env}{c:Code}:∀{ds:List il}{i j:Nat}{d:il},qK E c i ds->ds[j]? = some d->zp E (lpAt c (i+j)) d
 |[],_,_,_,_,h=>by simp at h
 |x::xs,i,0,d,hs,h=>by simp at h;subst h;exact hs.1
 |x::xs,i,j+1,d,hs,h=>by
  have:=qK.get (i:=i+1) (j:=j) hs.2 (by simpa using h);rwa[show i+(j+1)=i+1+j by omega]
theorem I1:∀{ds:List il}{j:Nat}{d:il},jE (ds.map (·.b))=true->ds[j]? = some d->∀s R k,oQ ds d.b s R k=match mF d.ps d.ts s with|some h=>(loopOpt d.step h).bind λx=>w7 d.exits x k|none=>none
 |[],_,_,_,h=>by simp at h
 |x::xs,0,d,_,h=>by simp at h;subst h;intro s R k;simp only[oQ,if_true]
 |x::xs,j+1,d,hn,h=>by
  simp only[qb,jE,jb,kf,kg,k7]at hn;have hm:d∈xs:=js (by simpa using h);have aB:x.b≠d.b:=λe=>hn.1 (e▸jy.2 ⟨d,hm,rfl⟩);intro s R k;simp only[oQ,aB,qi];exact I1 (j:=j) hn.2 (by simpa using h) s R k
theorem Qm{E:Env}(hF:CFun E.C)(hz:E.nz=false){c:Code}{ds:List il}(hE:E.L=oQ ds)(hm:(dt 0 c).map (·.1)=ds.map (·.b))(hn:jE (ds.map (·.b))=true)(hs:qK E c 0 ds){ms:List MrD}(wD:E.mr=mrF ms)(hM:E.M=mrL ms)(w8:sx E c ms) :
  ∀x∈dt 0 c,wi E x.1 x.2/\MrOK E x.1 x.2:=by
 intro x hx;have I2:LFun E.L/\MFun E.M:=⟨hE▸DD ds,hM▸DE ms⟩;have bV:((dt 0 c).map (·.1)).Nodup:=hm▸rH hn;refine⟨?_,Qg hF hz I2 wD hM λd hd hb=>?_⟩
 rotate_left
 .have:=w8.get d hd;unfold mrAt at this;rw[hb,I0 bV hx]at this;exact this
 obtain⟨j,hj⟩:=qg.1 hx;have sb:(ds.map (·.b))[j]? = some x.1:=by rw[<-hm];simp[hj]
 rw[kn]at sb;cases hd:ds[j]? with
 |none=>simp[hd]at sb
 |some d=>
  simp only[hd,ki,j5]at sb;have h1:=qK.get hs hd;rw[jt]at h1;have h2:lpAt c j=x.2:=by simp[lpAt,List.getD,hj]
  rw[h2]at h1;have:=Ql (E:=E) hF hz I2 h1 (λs R k=>by rw[hE];exact I1 hn hd s R k);rwa[sb]at this
inductive VPat where
 |v (t:Ty)
 |own (e:Nat) (t:Ty)
 |box (ts:List Ty)
 |hd
 |vn (t:Ty) (ns:List Nat)
 |clo (f:Nat) (caps:List CPat)
 |so (ls:List (Option Nat×Ty))
 |raw (ns:List Nat) (ps:List IPat)
 deriving DecidableEq
inductive OPat where
 |ref (ts:List Ty)
 |rl (t:Ty)
 deriving DecidableEq
def rlP:RL->(Option Nat×Ty)×TV
 |.d x=>((none,x.t),x)
 |.own e x=>((some e,x.t),x)
def rlsF:List (Option Nat×Ty)->List TV->List RL
 |[],_=>[]
 |(none,_)::ps,xs=> .d (xs.headD tv0)::rlsF ps xs.tail
 |(some e,_)::ps,xs=> .own e (xs.headD tv0)::rlsF ps xs.tail
theorem DG:∀(ls:List RL)(r:List TV),rlsF (ls.map λl=>(rlP l).1) ((ls.map λl=>(rlP l).2)++r)=ls
 |[],r=>rfl
 |.d x::ls,r=>by
  have:=DG ls r;show RL.d _::rlsF _ (_++r)=_;rw[this];rfl
 |.own e x::ls,r=>by
  have:=DG ls r;show RL.own e _::rlsF _ (_++r)=_;rw[this];rfl
def zq:List IPat->Nat
 |[]=>0
 |c::cs=>c.n+zq cs
theorem DH:∀(cs:Snap)(r:List TV),sw (ik cs).1 ((ik cs).2++r)=cs/\zq (ik cs).1=(ik cs).2.length
 |[],r=>⟨rfl,rfl⟩
 |c::cs,r=>by
  simp only[ik,sw,zq,jj,jn];have h1:=IQ c ((ik cs).2++r);have h2:=DH cs r;rw[h1.1,h1.2,z6,h2.1,h2.2];exact⟨rfl,rfl⟩
def rvP:RV->VPat×List TV
 |.v x=>(.v x.t,[x])
 |.own e x=>(.own e x.t,[x])
 |.box ls=>(.box (ls.map (·.t)),ls)
 |.hd n=>(.hd,[⟨.int .i64,(n:Int)⟩])
 |.vn x ns=>(.vn x.t ns,[x])
 |.clo f caps=>(.clo f (jT caps).1,(jT caps).2)
 |.so ls=>(.so (ls.map λl=>(rlP l).1),ls.map λl=>(rlP l).2)
 |.raw ns s=>(.raw ns (ik s).1,(ik s).2)
def VPat.n:VPat->Nat
 |.v _=>1
 |.own _ _=>1
 |.box ts=>ts.length
 |.hd=>1
 |.vn _ _=>1
 |.clo _ cs=>tZ cs
 |.so ls=>ls.length
 |.raw _ ps=>zq ps
def rvF:VPat->List TV->RV
 |.v _,xs=> .v (xs.headD tv0)
 |.own e _,xs=> .own e (xs.headD tv0)
 |.box ts,xs=> .box (xs.take ts.length)
 |.hd,xs=> .hd (Dy (xs.headD tv0))
 |.vn _ ns,xs=> .vn (xs.headD tv0) ns
 |.clo f cs,xs=> .clo f (tY cs xs)
 |.so ls,xs=> .so (rlsF ls xs)
 |.raw ns ps,xs=> .raw ns (sw ps xs)
theorem Qn(c:RV)(r:List TV):rvF (rvP c).1 ((rvP c).2++r)=c/\(rvP c).1.n=(rvP c).2.length:=by
 cases c with
 |v x=>exact⟨rfl,rfl⟩
 |own e x=>exact⟨rfl,rfl⟩
 |hd n=>exact⟨rfl,rfl⟩
 |vn x ns=>exact⟨rfl,rfl⟩
 |box ls=>simp[rvP,rvF,VPat.n]
 |clo f cs=>have:=zm cs r;simp only[rvP,rvF,VPat.n];exact⟨by rw[this.1],this.2⟩
 |so ls=>exact⟨by simp only[rvP,rvF];rw[DG],by simp[rvP,VPat.n]⟩
 |raw ns s=>exact⟨by simp only[rvP,rvF];rw[(DH s r).1],(DH s r).2⟩
def outP:Out->OPat×List TV
 |.ref ls=>(.ref (ls.map (·.t)),ls)
 |.rl x=>(.rl x.t,[x])
def OPat.n:OPat->Nat
 |.ref ts=>ts.length
 |.rl _=>1
def outF:OPat->List TV->Out
 |.ref ts,xs=> .ref (xs.take ts.length)
 |.rl _,xs=> .rl (xs.headD tv0)
theorem Qo(c:Out)(r:List TV):outF (outP c).1 ((outP c).2++r)=c/\(outP c).1.n=(outP c).2.length:=by
 cases c with
 |rl x=>exact⟨rfl,rfl⟩
 |ref ls=>simp[outP,outF,OPat.n]
def rvsP:List RV->List VPat×List TV
 |[]=>([],[])
 |c::cs=>((rvP c).1::(rvsP cs).1,(rvP c).2++(rvsP cs).2)
def rvsF:List VPat->List TV->List RV
 |[],_=>[]
 |c::cs,xs=>rvF c xs::rvsF cs (xs.drop c.n)
def rvsN:List VPat->Nat
 |[]=>0
 |c::cs=>c.n+rvsN cs
theorem DI:∀(cs:List RV)(r:List TV),rvsF (rvsP cs).1 ((rvsP cs).2++r)=cs/\rvsN (rvsP cs).1=(rvsP cs).2.length
 |[],r=>⟨rfl,rfl⟩
 |c::cs,r=>by
  simp only[rvsP,rvsF,rvsN,jj,jn];have h1:=Qn c ((rvsP cs).2++r);have h2:=DI cs r;rw[h1.1,h1.2,z6,h2.1,h2.2];exact⟨rfl,rfl⟩
def qL:List Out->List OPat×List TV
 |[]=>([],[])
 |c::cs=>((outP c).1::(qL cs).1,(outP c).2++(qL cs).2)
def zr:List OPat->List TV->List Out
 |[],_=>[]
 |c::cs,xs=>outF c xs::zr cs (xs.drop c.n)
theorem I3:∀(cs:List Out)(r:List TV),zr (qL cs).1 ((qL cs).2++r)=cs
 |[],r=>rfl
 |c::cs,r=>by
  simp only[qL,zr,jj];have h1:=Qo c ((qL cs).2++r);rw[h1.1,h1.2,z6,I3 cs r]
structure RPat where
 vs:List VPat
 os:List OPat
 deriving DecidableEq
def nB(rp:RPat)(ts:List Ty)(h:HL ts):Ret:=⟨rvsF rp.vs (ofHL ts h),zr rp.os ((ofHL ts h).drop (rvsN rp.vs))⟩
def zt(rp:RPat)(ts:List Ty)(r:Ret):Option (HL ts):=
 if (rvsP r.vals).1=rp.vs/\(qL r.outs).1=rp.os then toHL ts ((rvsP r.vals).2++(qL r.outs).2) else none
theorem Qp{rp:RPat}{ts:List Ty}{r:Ret}{h:HL ts}(hs:zt rp ts r=some h):r=nB rp ts h:=by
 unfold zt at hs;split at hs
 .rename_i hp;have:=y9 hs;unfold nB;rw[<-this,<-hp.1,<-hp.2,(DI r.vals _).1,(DI r.vals []).2,z6];have h2:=I3 r.outs [];rw[kz]at h2;rw[h2]
 .simp at hs
structure Con where
 f:Nat
 ps:List APat
 ts:List Ty
 rp:RPat
 rs:List Ty
 F:HL ts->Option (HL rs)
def Con.C(c:Con)(args:List Arg)(R:Type)(k:Ret->Option R):Option R:=
 match zn c.ps c.ts args with
 |some h=>(c.F h).bind λx=>k (nB c.rp c.rs x)
 |none=>none
def Con.OK(P:Program)(c:Con):Prop:=FnOK P c.f c.C
def conC:List Con->Nat->List Arg->(R:Type)->(Ret->Option R)->Option R
 |[],_,_,_,_=>none
 |c::cs,f,args,R,k=>if c.f=f then (if (oP args).1=c.ps then c.C args R k else conC cs f args R k) else conC cs f args R k
theorem Qq{P:Program}{f:Nat}:FnOK P f (λ_ _ _=>none):=by
 intro args R k r h;simp at h
def w9(P:Program):List Con->Prop
 |[]=>True
 |c::cs=>c.OK P/\w9 P cs
theorem DJ{P:Program}:∀cs:List Con,w9 P cs->fW P (conC cs)
 |[],_,_=>Qq
 |c::cs,h,f=>by
  have ih:=DJ cs h.2 f;intro args R k r hk;simp only[conC]at hk;split at hk
  .rename_i hf;subst hf;split at hk
   .exact h.1 args R k r hk
   .exact ih args R k r hk
  .exact ih args R k r hk
theorem DK:∀cs:List Con,CFun (conC cs)
 |[]=>λ_ _=>⟨none,λ_ _=>rfl⟩
 |c::cs=>λf args=>by
  have ih:=DK cs f args;simp only[conC];split
  .split
   .unfold Con.C;split
    .rename_i h _;cases hq:c.F h with
     |none=>exact⟨none,λ_ _=>rfl⟩
     |some x=>exact⟨some (nB c.rp c.rs x),λ_ _=>rfl⟩
    .exact⟨none,λ_ _=>rfl⟩
   .exact ih
  .exact ih
def DL:List (Nat×Keep)->Nat->Keep
 |[],_=>⟨[],[],[],[]⟩
 |x::r,b=>if x.1=b then x.2 else DL r b
def DM:List (Nat×Ex×Keep)->Nat->Ex->Keep
 |[],_,_=>⟨[],[],[],[]⟩
 |x::r,b,e=>if x.1=b/\x.2.1=e then x.2.2 else DM r b e
def DN:List (Nat×List Bool)->Nat->List Bool
 |[],_=>[]
 |x::r,b=>if x.1=b then x.2 else DN r b
def dwL:List (Nat×List (List Nat))->Nat->List (List Nat)
 |[],_=>[]
 |x::r,b=>if x.1=b then x.2 else dwL r b
def bwL:List (Nat×(Bool×Ty))->Nat->Option (Bool×Ty)
 |[],_=>none
 |x::r,f=>if x.1=f then some x.2 else bwL r f
def zu(P:Program):List (Nat×(Bool×Ty))->Prop
 |[]=>True
 |x::r=>BwK P x.1 x.2/\zu P r
theorem I4{P:Program}:∀{l:List (Nat×(Bool×Ty))},zu P l->∀f t,bwL l f=some t->BwK P f t
 |[],_,f,t,h=>by simp[bwL]at h
 |x::r,hl,f,t,h=>by
  simp only[bwL]at h;split at h
  .rename_i e;simp only[j5]at h;rw[<-e,<-h];exact hl.1
  .exact I4 hl.2 f t h
structure FnD where
 N:Nat
 np:Nat
 cs:List Con
 ds:List il
 modes:List (Nat×List Bool):=[]
 keep:List (Nat×Keep):=[]
 keepX:List (Nat×Ex×Keep):=[]
 ro:List Bool:=[]
 dw:List (Nat×List (List Nat)):=[]
 hd:Bool:=false
 ns:List Nat:=[]
 bw:List (Nat×(Bool×Ty)):=[]
 so:List SoK:=[]
 cr:List Nat:=[]
 un:List Nat:=[]
 pre:List (Nat×List Gh):=[]
 rw:Bool:=false
 rn:List Nat:=[]
 b1:List Nat:=[]
 ks:List Nat:=[]
 ms:List MrD:=[]
 mvf:List Nat:=[]
def preL:List (Nat×List Gh)->Nat->List Gh
 |[],_=>[]
 |x::r,i=>if x.1=i then x.2 else preL r i
def FnD.env(d:FnD)(T:List (Option TyI)):Env:=⟨⟨d.N,λ_=>false⟩,d.np,tab T,conC d.cs,DN d.modes,oQ d.ds,DL d.keep,DM d.keepX,d.ro,dwL d.dw,false,d.hd,d.ns,bwL d.bw,d.so,d.cr,λb=>d.un.contains b,preL d.pre,d.rw,d.rn,d.b1,λi=>d.ks.contains i,λf=>d.mvf.contains f,mrF d.ms,mrL d.ms⟩
theorem Qr{P:Program}{T:List (Option TyI)}(hT:bk P (tab T))(ea:P.follows .mixedOrders=true)(d:FnD)(fF:Con)(fn:Func)(c:Code)(hf:P.funcs[fF.f]? = some fn)(hb:fn.body=some c)
  (hN : fn.ntmps = d.N) (ss : d.np ≤ d.N) (bn : (fn.name == "runtime.NumGoroutine") = false) (cB : w9 P d.cs) (hm : (dt 0 c).map (·.1) = d.ds.map (·.b)) (hn : jE (d.ds.map (·.b)) = true)
  (hs:qK (d.env T) c 0 d.ds)(hF:∀h,nT (d.env T) fn (mG fF.ps fF.ts h) (zt fF.rp fF.rs)=fF.F h)(eM:zu P d.bw:=by trivial)(w8:sx (d.env T) c d.ms:=by trivial):fF.OK P:=by
 have hC:fW P (d.env T).C:=DJ d.cs cB;have mI:CFun (d.env T).C:=DK d.cs;have hL:LFun (d.env T).L/\MFun (d.env T).M:=⟨DD d.ds,DE d.ms⟩;have oq:=IG (E:=d.env T) hT hC mI ea hf hb hN rfl (I4 eM) ss bn (Qm mI rfl rfl hm hn hs rfl rfl w8);intro args R k r hk;unfold Con.C at hk;split at hk
 .rename_i h hu;rw[DB hu];cases hq:fF.F h with
  |none=>simp[hq]at hk
  |some x=>
   rw[hq,j4]at hk;refine oq _ R k r ?_;obtain⟨o,ho⟩:=P6 mI rfl hL fn (mG fF.ps fF.ts h);have h1:some x=_:=((hF h).trans hq).symm.trans (ho _ _);cases o with
   |none=>simp at h1
   |some ret=>rw[j4]at h1;show nT (d.env T) fn (mG fF.ps fF.ts h) k=some r;refine(ho _ _).trans ?_;rw[j4,Qp h1.symm];exact hk
 .simp at hk
theorem cOf{P:Program}{T:List (Option TyI)}(hT:bk P (tab T))(ea:P.follows .mixedOrders=true)(d:FnD)(fF:Con){fn:Func}(hf:P.funcs[fF.f]? = some fn)(cB:w9 P d.cs)
  (hs:qK (d.env T) (fn.body.getD .skip) 0 d.ds)(eM:zu P d.bw:=by trivial)(hb:fn.body=some (fn.body.getD .skip):=by kernel_rfl)(hN:fn.ntmps=d.N:=by kernel_rfl)
  (ss : Nat.ble d.np d.N = true := by kernel_rfl) (bn : (fn.name == "runtime.NumGoroutine") = false := by kernel_rfl) (hm : (dt 0 (fn.body.getD .skip)).map (·.1) = d.ds.map (·.b) := by kernel_rfl)
  (hn:jE (d.ds.map (·.b))=true:=by kernel_rfl)(hF:∀h,nT (d.env T) fn (mG fF.ps fF.ts h) (zt fF.rp fF.rs)=fF.F h:=by intro h;kernel_rfl)(w8:sx (d.env T) (fn.body.getD .skip) d.ms:=by trivial):fF.OK P:=
 Qr hT ea d fF fn _ hf hb hN (qh ss) bn cB hm hn hs hF eM w8
def mJ{α β:Type}(B:(α->Option β)->α->Option β):Nat->α->Option β
 |0,_=>none
 |n+1,a=>B (mJ B n) a
open Classical in
def zv{α β:Type}(B:(α->Option β)->α->Option β)(a:α):Option β:=
 if h:∃x n,mJ B n a=some x then some h.choose else none
theorem Qs{α β:Type}{B:(α->Option β)->α->Option β}{a:α}{x:β}(h1:∃n,mJ B n a=some x)(h2:∀n y,mJ B n a=some y->y=x):zv B a=some x:=by
 obtain⟨n,hn⟩:=h1;have hx:∃x n,mJ B n a=some x:=⟨x,n,hn⟩;unfold zv;rw[dif_pos hx];obtain⟨m,hm⟩:=hx.choose_spec;rw[h2 m _ hm]
def FnD.envN(d:FnD)(T:List (Option TyI)):Env:=⟨⟨d.N,λ_=>false⟩,d.np,tab T,conC d.cs,DN d.modes,oQ d.ds,DL d.keep,DM d.keepX,d.ro,dwL d.dw,true,d.hd,d.ns,λ_=>none,d.so,d.cr,λ_=>false,λ_=>[],false,[],[],λ_=>false,λ_=>false,λ_=>none,λ_ _ _ _=>none⟩
theorem Qt{α R:Type}(xs:List α)(K:List α->Option R){r:R}(h:(cond (decide (([]:List α).length+xs.length<=bI)) (some (([]:List α)++xs)) none).bind K=some r) :
  qX (List.isEmpty xs) (K []) (cond (decide (([]:List α).length+xs.length<=bI)) (K (([]:List α)++xs)) none)=some r:=by
 cases hd:decide (([]:List α).length+xs.length<=bI) with
 |false=>rw[hd]at h;simp at h
 |true=>
  rw[hd]at h;simp only[j6,j4]at h ⊢;cases xs with
  |nil=>simp only[kz]at h ⊢;rw[Lv];exact h
  |cons x r=>exact h
theorem Qu{P:Program}{T:List (Option TyI)}(hT:bk P (tab T))(ea:P.follows .mixedOrders=true)(d:FnD)(f:Nat)(a:Ty)(e:Nat)(fn:Func)(c:Code)(hf:P.funcs[f]? = some fn)(hb:fn.body=some c)
  (hN : fn.ntmps = d.N) (ss : d.np ≤ d.N) (bn : (fn.name == "runtime.NumGoroutine") = false) (cB : w9 P d.cs) (hl : dt 0 c = [])
  (hF:∀(h:List a.den)(R:Type)(k:Ret->Option R),nT (d.envN T) fn [.v ⟨.list a,h⟩] k=qX (List.isEmpty h) (k ⟨[.own e ⟨.list a,([]:List a.den)⟩],[]⟩)
   (cond (decide (([]:List a.den).length+List.length h<=bI)) (k ⟨[.own e ⟨.list a,([]:List a.den)++h⟩],[]⟩) none)) :
  Con.OK P ⟨f,[.v (.list a)],[.list a],⟨[.own e (.list a)],[]⟩,[.list a],λh=>cond (decide (([]:List a.den).length+List.length h<=bI)) (some (([]:List a.den)++h)) none⟩:=by
 have hC:fW P (d.envN T).C:=DJ d.cs cB;have mI:CFun (d.envN T).C:=DK d.cs;have oq:=IG (E:=d.envN T) hT hC mI ea hf hb hN rfl (λf t h=>by simp[FnD.envN]at h) ss bn (by rw[hl];simp);intro args R k r hk;unfold Con.C at hk;split at hk
 .rename_i h hu;rw[DB hu];refine oq _ R k r ?_;refine(hF h R k).trans ?_;exact Qt (α:=a.den) h (λx=>k ⟨[.own e ⟨.list a,x⟩],[]⟩) hk
 .simp at hk
def w64(x:Int):Int:=IntKind.wrap .i64 x
class LP where
 lp:{α β:Type}->(α->Option (α ⊕ β))->α->Option β
 rp:{α β:Type}->((α->Option β)->α->Option β)->α->Option β
noncomputable instance realLP:LP:=⟨loopOpt,zv⟩
abbrev cT(N:Nat):LP:=⟨λf a=>loopN f N a,λB a=>mJ B N a⟩
theorem an{x:Int}(h1 : -9223372036854775808<=x)(h2:x<=9223372036854775807):w64 x=x:=IntWalk.i64_in x ⟨h1,h2⟩
def lpK{α β:Type}(r:Option (α ⊕ β))(f:α->Option β):Option β:=match r with
 |none=>none
 |some (.inl s)=>f s
 |some (.inr x)=>some x
theorem bF{α β:Type}(s:α)(f:α->Option β):lpK (some (.inl s)) f=f s:=rfl
theorem bC{α β:Type}(x:β)(f:α->Option β):lpK (some (.inr x)) f=some x:=rfl
theorem Qv{α β γ:Type}(x:α)(f:α->γ)(g:β->γ):sumC (.inl x) f g=f x:=rfl
theorem ub{α β γ:Type}(x:β)(f:α->γ)(g:β->γ):sumC (.inr x) f g=g x:=rfl
theorem cG{α β:Type}(f:α->Option (α ⊕ β))(s:α):loopOpt f s=lpK (f s) (loopOpt f):=by
 cases h:f s with
 |none=>
  cases hq:loopOpt f s with
  |none=>rfl
  |some x=>obtain⟨n,hn⟩:=w6 hq;cases n<;>simp[loopN,h]at hn
 |some r=>
  cases r with
  |inl s'=>exact Qb h
  |inr x=>exact Qc h
section
variable{S0:aq}{w0:World}{refs:Refs}
end
section
variable{S0:aq}{w0:World}{refs:Refs}
def g3(σ:St):Option Int:=match σ.sl 3 with
 |.one (.one (.d (.int .i64) v))=>some v
 |_=>none
def g1(σ:St):Option (Bool×Int):=match σ.sl 8,σ.sl 3 with
 |.one (.one (.d .bool b)),.one (.one (.d (.int .i64) v))=>some (b,v)
 |_,_=>none
end
section
variable{P:Program}{E:Env}{ops pre:Array Oper}{cl:List Nat}{τ:Nat->St}{S0:aq}{w0:World}{refs:Bool->Refs}
end
section
variable{S0:aq}{w0:World}{refs:Refs}
def g7(σ:St):Option (Bool×Int):=match σ.sl 7,σ.sl 3 with
 |.one (.one (.d .bool b)),.one (.one (.d (.int .i64) v))=>some (b,v)
 |_,_=>none
theorem Grew.trans{w w' mX:World}(h:Grew w w')(h':Grew w' mX):Grew w mX:=
 ⟨λg hg=>(h'.old g (q7 hg h.size)).trans (h.old g hg),ko h.size h'.size,h'.os.trans h.os,h'.tape.trans h.tape,h'.output.trans h.output⟩
end
open Go.RowKit Go.WideShapes Go.ChangeShapes
theorem Qw{P:Program}{f:Nat}{ps:List APat}{ts:List Ty}{F:HL ts->Option Bool}(aM:Con.OK P ⟨f,ps,ts,⟨[.v .bool],[]⟩,[.bool],F⟩)(h:HL ts)(hF:F h=some true)
  (w:World)(S:aq)(vals:List Value)(ha:All2 (jM S w) (mG ps ts h) vals)(hr:cu (mG ps ts h) vals=[])(hS:∀g o,S g o->g<w.heap.size)(hu:zn ps ts (mG ps ts h)=some h) :
  Calls P f vals.toArray w λe w'=>e = .returned (.bool true)/\Below w.heap.size w w':=by
 have:=(aM (mG ps ts h) Ret some (nB ⟨[.v .bool],[]⟩ [.bool] true) (by
  unfold Con.C;rw[hu];show (F h).bind _=_;rw[hF];rfl)).2
 refine(this w S vals ha (by rw[hr];exact List.nodup_nil) hS).mono ?_
 rintro e w' ⟨ret,aU,v,S',vs,rfl,aM⟩
 simp only[j5]at aU;subst aU;have aG:All2 (lg S' w') [.v ⟨.bool,true⟩] vs:=aM.rep;refine⟨?_,aM.os,aM.tape,aM.output,aM.grow,λk hk=>aM.below k hk (by rw[hr];simp)⟩;rw[aM.val];match vs,aG with
 |[u],aG=>have h1:=aG.1;have h2:u.cells.toList=[.bool true]/\(fi Ty.bool=true->∃cs,u=Value.agg cs)/\(fi Ty.bool=false->One u):=h1;have h3:=tp (h2.2.2 rfl);rw[h2.1]at h3;simp only[zh,and_true]at h3;rw[<-h3];rfl
 |[],aG=>exact absurd aG (by simp[All2])
 |_::_::_,aG=>exact absurd aG (by simp[All2])
theorem jdX{H:Type}{enc:TypeId×Value->H}{P:Program}{f:Func}{s:ChangeSpec}{apart fresh handsOn again:Bool}{W W':World}{args:Array Value}{v:Value}{ds gs:List (DataW H)}{before pa pv:List MemPlace}
  (hW:DataW.Whole enc P f.params.toList s.vars apart W args.toList ds gs before)
  (oM:∀(b:Nat)(sp:Nat->Bool)(hd:Bool),DataW.TrodAll enc P W' b sp hd f.resultTypes.toList (v.resultList f.resultTypes.size) (s.fn H (ds++gs)).results [])
  (bu:∀sp:Nat->Bool,(∀p∈before,sp p.block=true)->DataW.TrodAll enc P W' 0 sp true f.params.toList args.toList (s.fn H (ds++gs)).args pa)
  (qM:∀sp:Nat->Bool,(∀p∈before,sp p.block=true)->DataW.TrodVars enc P W' sp s.vars (s.fn H (ds++gs)).vars pv)
  (eJ:before=pa++pv)(hb:Below W.heap.size W W')
  (aM:∀(j:Nat)(t:TypeId)(r:Value),f.resultTypes[j]? = some t->(v.resultList f.resultTypes.size)[j]? = some r->Value.okWide P W' .any 0 t r) :
  s.post enc P f apart fresh handsOn again W args v W':=by
 have ak:∀p∈before,p.block<W.heap.size:=λp hp=>hW.lt p hp;have hold:∀p∈before,(λb=>decide (b<W.heap.size)) p.block=true:=λp hp=>by simpa using ak p hp
 refine⟨ds,gs,before,[],pa,pv,hW,oM _ _ _,bu _ hold,qM _ hold,World.keptBut_mono (λp hp=>⟨hp,?_⟩) (hb.frame (· ∈ before)),λ_=>?_⟩
 .rw[eJ,jp]at hp;exact Or.inr hp
 .obtain⟨_,_,_,_,_,hz,hn⟩:=hW;refine⟨aM,_,_,([]++pa)++pv,⟨[]++pa,pv,trodAll_append (bu _ (λ_ _=>rfl)) (oM _ _ _),qM _ (λ_ _=>rfl),rfl,?_,?_⟩,?_⟩
  .intro b off hp;have kG:MemPlace.cell b off∈before:=by rw[eJ];simpa using hp
   rw[hb.frozen (ak _ kG)];exact hz b off kG
  .intro ha;have:=hn ha;rw[eJ]at this;simpa using this
  .intro p hp _;rw[eJ];simpa using hp
open Go.RowKit Go.WideShapes Go.ChangeShapes
def qN(P:Program)(f:TypeId->Ty->Bool):List Field->Nat->Ty->Bool
 |[],_,_=>false
 |[x],off,b=>decide (x.offset=off)&&decide (P.cellsOf x.type=b.size)&&f x.type b
 |x::y::r,off,.pair a b=>decide (x.offset=off)&&decide (P.cellsOf x.type=a.size)&&f x.type a&&qN P f (y::r) (off+a.size) b
 |_,_,_=>false
def kR(P:Program):Nat->TypeId->Ty->Bool
 |0,_,_=>false
 |n+1,t,ty=>match P.underlying t with
  |some (.int k)=>decide (ty = .int k)
  |some .bool=>decide (ty = .bool)
  |some .string=>decide (ty = .str)
  |some (.slice e)=>match ty with
   |.list a=>kR P n e a&&decide (P.cellsOf e=a.size)&&decide (0<a.size)
   |_=>false
  |some (.struct fs)=>decide (P.cellsOf t=ty.size)&&match fs.toList,ty with
   |[x],.wrap a=>qN P (kR P n) [x] 0 a
   |x::y::r,.pair a b=>qN P (kR P n) (x::y::r) 0 (.pair a b)
   |_,_=>false
  |_=>false
def Wf:(t:Ty)->t.den->Prop
 |.int k,n=>(Lit.int k n).wf=true
 |.bool,_=>True
 |.str,s=>s.size<=maxLen
 |.unit,_=>True
 |.wrap a,v=>Wf a v
 |.pair a b,v=>Wf a v.1/\Wf b v.2
 |.list a,xs=>List.length xs<=maxLen/\∀x∈(show List a.den from xs),Wf a x
 |.arr _ _,_=>True
theorem zw{α β:Type}{f:α->Option β}:∀{l:List α}{ys:List β},l.mapM f=some ys->ys.length=l.length/\∀(i:Nat)(x:α),l[i]? = some x->∃y,ys[i]? = some y/\f x=some y
 |[],ys,h=>by
  simp at h;subst h;exact⟨rfl,λi x hx=>by simp at hx⟩
 |a::l,ys,h=>by
  rw[qt]at h;cases ha:f a with
  |none=>simp[ha]at h
  |some y=>
   cases hl:l.mapM f with
   |none=>simp[ha,hl]at h
   |some zs=>
    simp[ha,hl]at h;subst h;obtain⟨h1,h2⟩:=zw hl;refine⟨by simp[h1],λi x hx=>?_⟩;cases i with
    |zero=>simp at hx;subst hx;exact⟨y,rfl,ha⟩
    |succ i=>simp at hx;obtain⟨z,hz,hf⟩:=h2 i x hx;exact⟨z,by simpa using hz,hf⟩
theorem I5{α β:Type}{f:α->Option β}:∀{l:List α}{ys:List β},ys.length=l.length->(∀(i:Nat)(x:α),l[i]? = some x->f x=ys[i]?)->l.mapM f=some ys
 |[],ys,h,_=>by
  have:ys=[]:=jo (by simpa using h);subst this;rfl
 |a::l,[],h,_=>by simp at h
 |a::l,y::ys,h,hg=>by
  have h0:f a=some y:=by simpa using hg 0 a rfl
  rw[qt,h0,I5 (ys:=ys) (by simpa using h) (λi x hx=>by simpa using hg (i+1) x (by simpa using hx))];rfl
theorem zA{α β:Type}{f g:α->Option β}:∀{l:List α}{ys:List β},l.mapM f=some ys->(∀x∈l,∀y,y∈ys->f x=some y->g x=some y)->l.mapM g=some ys
 |[],ys,h,_=>by simpa using h
 |a::l,ys,h,hk=>by
  rw[qt]at h ⊢;cases ha:f a with
  |none=>simp[ha]at h
  |some y=>
   cases hl:l.mapM f with
   |none=>simp[ha,hl]at h
   |some zs=>simp[ha,hl]at h;subst h;rw[hk a (by simp) y (by simp) ha,zA hl (λx hx z hz hf=>hk x (by simp[hx]) z (by simp[hz]) hf)];rfl
theorem I6{α:Type}{Q:Nat->α->Prop}:∀n,(∀i,i<n->∃x,Q i x)->∃xs:List α,xs.length=n/\∀i x,xs[i]? = some x->Q i x
 |0,_=>⟨[],rfl,λi x h=>by simp at h⟩
 |n+1,h=>by
  obtain⟨xs,hl,hx⟩:=I6 n (λi hi=>h i (by omega));obtain⟨x,hq⟩:=h n (by omega);refine⟨xs++[x],by simp[hl],λi y hy=>?_⟩;rcases qk i n with hi|hi
  .rw[List.getElem?_append_left (by omega)]at hy;exact hx i y hy
  .have:i=n:=by have:=(jk.1 hy).1;simp[hl]at this;omega
   subst this;rw[k5 (by omega),hl,Nat.sub_self]at hy;simp at hy;subst hy;exact hq
theorem I7{α β:Type}{R:α->β->Prop}:∀{as:List α}{bs:List β},as.length=bs.length->(∀(i:Nat)(a:α)(b:β),as[i]? = some a->bs[i]? = some b->R a b)->All2 R as bs
 |[],[],_,_=>trivial
 |a::as,b::bs,hl,h=>⟨h 0 a b rfl rfl,I7 (by simpa using hl) λi x y hx hy=>h (i+1) x y (by simpa using hx) (by simpa using hy)⟩
 |[],_::_,hl,_=>by simp at hl
 |_::_,[],hl,_=>by simp at hl
theorem I8{m:Nat}:∀{css:List (List Value)},(∀c∈css,c.length=m)->∀{j:Nat}{v:Value},css.flatten[j]? = some v->∃i r c,j=i*m+r/\r<m/\css[i]? = some c/\c[r]? = some v
 |[],_,j,v,h=>by simp at h
 |c::css,hl,j,v,h=>by
  simp only[k9]at h;have hc:=hl c (by simp);rcases qk j c.length with hj|hj
  .rw[List.getElem?_append_left hj]at h;exact⟨0,j,c,by omega,by omega,rfl,h⟩
  .rw[k5 hj]at h;obtain⟨i,r,c',e,hr,hi,hv⟩:=I8 (λx hx=>hl x (by simp[hx])) h;exact⟨i+1,r,c',by rw[Nat.add_mul];omega,hr,by simpa using hi,hv⟩
def Ext(W W':World):Prop:=∀(k:Nat) x,W.heap[k]? = some x->W'.heap[k]? = some x
theorem Ext.cell{W W':World}(h:Ext W W'){a:Addr}{v:Value}(hc:W.cell? a=some v):W'.cell? a=some v:=by
 unfold World.cell? at hc ⊢;split at hc
 .rename_i c _ _ hb;rw[h _ _ hb];exact hc
 .simp at hc
theorem Ext.cells{W W':World}(h:Ext W W'){a:Addr}{n:Nat}{cs:List Value}(hc:W.cells? 0 a n=some cs):W'.cells? 0 a n=some cs:=by
 unfold World.cells? at hc ⊢;simp only[jw,if_true]at hc ⊢;exact zA hc λi _ y _ hf=>h.cell hf
theorem DO{W:World}{a:Addr}{n:Nat}{cs:List Value}(hc:W.cells? 0 a n=some cs):cs.length=n/\∀i v,cs[i]? = some v->W.cell? (a.add i)=some v:=by
 unfold World.cells? at hc;simp only[jw,if_true]at hc;obtain⟨h1,h2⟩:=zw hc;simp only[List.length_range]at h1;refine⟨h1,λi v hv=>?_⟩;have hi:i<n:=by rw[<-h1];exact(jk.1 hv).1
 obtain⟨y,hy,hf⟩:=h2 i i (by simp[hi]);rw[hv]at hy;simp at hy;subst hy;exact hf
theorem I9{W:World}{a:Addr}{v:Value}(h:W.cell? a=some v):a.block<W.heap.size/\a.spot=none:=by
 unfold World.cell? at h;split at h
 .rename_i c _ _ hb;refine⟨(jc.1 hb).1,?_⟩;split at h
  .simp at h
  .rename_i hs;simpa using hs
 .simp at h
def oldS(W:World):aq:=λg _=>g<W.heap.size
def xa{H:Type}(enc:TypeId×Value->H)(P:Program)(W:World)(held:Bool)(fuel:Nat)(t:TypeId)(ty:Ty)(cs:List Value)(d:DataW H)(ps:List MemPlace):Prop:=
 cs.length=ty.size/\(∃v:ty.den,Rep (oldS W) W ty v cs/\Wf ty v)/\
  ∀W' sp,Ext W W'->(∀q∈ps,sp q.block=true)->DataW.trod enc P W' 0 sp held fuel t cs=some (d,ps)
section
variable{H:Type}{enc:TypeId×Value->H}{P:Program}{W:World}{held:Bool}
theorem Qx{a:Addr}{n:Nat}(hn:0<n):∃q∈MemPlace.row a n,q.block=a.block:=
 ⟨.cell a.block (a.off+0),jy.2 ⟨0,by simp[hn],rfl⟩,rfl⟩
theorem Qy{n:Nat}{t e:TypeId}{el:Ty}(hu:P.underlying t=some (.slice e))(ba:P.cellsOf e=el.size)(cc:0<el.size){fuel:Nat}{cs:List Value}{d:DataW H}{ps:List MemPlace}
  (ih:∀(m:Nat)(cs:List Value)(d:DataW H)(ps:List MemPlace),DataW.trod enc P W 0 (λ_=>true) held m e cs=some (d,ps)->xa enc P W held m e el cs d ps)
  (h:DataW.trod enc P W 0 (λ_=>true) held fuel t cs=some (d,ps)):xa enc P W held fuel t (.list el) cs d ps:=by
 cases fuel with
 |zero=>simp[DataW.trod]at h
 |succ m=>
  have h':=h;unfold DataW.trod at h;rw[hu]at h;split at h;all_goals (try (rename_i heq _;simp at heq;done))
  all_goals (try (rename_i heq;simp at heq;done))
  .rename_i heq;refine⟨rfl,⟨[],⟨none,0,rfl,jr _,jw _,λ_=>rfl,λb hb=>by simp at hb⟩,⟨jw _,by simp⟩⟩,λW' sp _ _=>?_⟩;unfold DataW.trod;rw[hu];exact h
  .rename_i e' a len cap heq;simp only[j5,TypeDesc.slice.injEq]at heq;subst heq;simp only[jw,kq,if_true]at h;split at h
   .rename_i hc;cases kD:(List.range len).mapM (λi=>(W.cells? 0 (a.add (i*P.cellsOf e)) (P.cellsOf e)).bind (DataW.trod enc P W 0 (λ_=>true) held m e)) with
    |none=>rw[kD]at h;simp at h
    |some elems=>
     rw[kD]at h;simp only[j4]at h;cases zB:(List.range (cap-len)).mapM (λj=>(W.cells? 0 (a.add ((len+j)*P.cellsOf e)) (P.cellsOf e)).bind (DataW.trod enc P W 0 (λ_=>true) held m e)) with
     |none=>rw[zB]at h;simp at h
     |some rest=>
      rw[zB]at h;simp only[ki,j5,j9]at h;obtain⟨rfl,rfl⟩:=h;obtain⟨l1,g1⟩:=zw kD;obtain⟨l2,g2⟩:=zw zB;simp only[List.length_range]at l1 l2
      have one:∀i y,(W.cells? 0 (a.add (i*P.cellsOf e)) (P.cellsOf e)).bind (DataW.trod enc P W 0 (λ_=>true) held m e)=some y->∃c,W.cells? 0 (a.add (i*P.cellsOf e)) (P.cellsOf e)=some c/\xa enc P W held m e el c y.1 y.2:=by
       intro i y hy;cases hc:W.cells? 0 (a.add (i*P.cellsOf e)) (P.cellsOf e) with
       |none=>rw[hc]at hy;simp at hy
       |some c=>rw[hc]at hy;exact⟨c,rfl,ih m c y.1 y.2 hy⟩
      refine⟨rfl,?_,?_⟩
      .have each:∀i,i<len->∃x:el.den×List Value,W.cells? 0 (a.add (i*P.cellsOf e)) (P.cellsOf e)=some x.2/\Rep (oldS W) W el x.1 x.2/\Wf el x.1:=by intro i hi;obtain⟨y,hy,hf⟩:=g1 i i (by simp[hi]);obtain⟨c,dK,_,⟨v,hv,hw⟩,_⟩:=one i y hf;exact⟨(v,c),dK,hv,hw⟩
       obtain⟨xs,lX,dM⟩:=I6 len each;have xb:∀c∈xs.map (·.2),c.length=P.cellsOf e:=by intro c hc;obtain⟨x,hx,rfl⟩:=jy.1 hc;obtain⟨i,hi⟩:=qg.1 hx;exact(DO (dM i x hi).1).1
       refine⟨xs.map (·.1),?_,?_⟩
       .refine⟨some a,cap,by simp[lX],by simp[lX,hc.1],hc.2,by simp,λb hb=>?_⟩;simp only[j5]at hb;subst hb;have qO:len≠0->a.spot=none:=by intro hl;obtain⟨x,hx⟩:∃x,xs[0]? = some x:=⟨xs[0],jq (by omega)⟩;obtain⟨k1,k2⟩:=DO (dM 0 x hx).1;obtain⟨v,hv⟩:∃v,x.2[0]? = some v:=⟨x.2[0],jq (by omega)⟩;have:=(I9 (k2 0 v hv)).2;simpa[Addr.add]using this
        refine⟨λaB=>qO (λh0=>aB (by rw[List.map_eq_nil_iff];exact jo (by omega))),xs.map (·.2),I7 (by simp) (λi x c hx hc=>?_),λj v hv=>?_⟩
        .simp only[kn,Option.map_eq_some_iff]at hx hc;obtain⟨y,hy,rfl⟩:=hx;obtain⟨z,hz,rfl⟩:=hc;rw[hy]at hz;simp at hz;subst hz;exact(dM i y hy).2.1
        .obtain⟨i,r,c,hj,hr,iI,l7⟩:=I8 xb hv;simp only[kn,Option.map_eq_some_iff]at iI;obtain⟨x,hx,rfl⟩:=iI;have bZ:=(DO (dM i x hx).1).2 r v l7;have yb:i<len:=by rw[<-lX];exact(jk.1 hx).1
         have hs:=qO (by omega);have rC:(a.add (i*P.cellsOf e)).add r=⟨a.block,a.off+j,none⟩:=by obtain⟨g,o,s⟩:=a;simp only at hs;subst hs;simp only[Addr.add];split<;>split<;>simp<;>omega
         rw[rC]at bZ;exact⟨(I9 bZ).1,bZ⟩
       .refine⟨by simp only[qf,lX];omega,λx hx=>?_⟩;obtain⟨y,hy,rfl⟩:=jy.1 hx;obtain⟨i,hi⟩:=qg.1 hy;exact(dM i y hi).2.2
      .intro W' sp hE bS
       have keep:∀i y,y∈elems++rest->(W.cells? 0 (a.add (i*P.cellsOf e)) (P.cellsOf e)).bind (DataW.trod enc P W 0 (λ_=>true) held m e)=some y->
         (W'.cells? 0 (a.add (i*P.cellsOf e)) (P.cellsOf e)).bind (DataW.trod enc P W' 0 sp held m e)=some y:=by
        intro i y hy hf;obtain⟨c,dK,_,_,hk⟩:=one i y hf;rw[hE.cells dK];exact hk W' sp hE (λq hq=>bS q (jx _ (List.mem_flatMap.2 ⟨y,hy,hq⟩)))
       unfold DataW.trod;rw[hu];simp only[jw,kq];rw[if_pos hc,zA kD (λi _ y hy hf=>keep i y (k6 _ hy) hf)];simp only[j4]
       have bH:(if sp a.block=true then (List.range (cap-len)).mapM (λj=>(W'.cells? 0 (a.add ((len+j)*P.cellsOf e)) (P.cellsOf e)).bind (DataW.trod enc P W' 0 sp held m e)) else some [])=some rest:=by
        split
        .exact zA zB (λj _ y hy hf=>keep (len+j) y (jx _ hy) hf)
        .rename_i Qz;rcases Nat.eq_zero_or_pos ((elems.length+rest.length)*P.cellsOf e) with h0|h0
         .have:rest=[]:=by
           rcases Nat.mul_eq_zero.1 h0 with h|h
           .exact jo (by omega)
           .omega
          rw[this]
         .obtain⟨q,hq,hb⟩:=Qx (a:=a) h0;have:=bS q (k6 _ hq);rw[hb]at this;exact absurd this Qz
       rw[bH];rfl
   .simp at h
  .simp at h
theorem xc{n m:Nat}(ih:∀(t:TypeId)(ty:Ty),kR P n t ty=true->∀(cs:List Value)(d:DataW H)(ps:List MemPlace),DataW.trod enc P W 0 (λ_=>true) held m t cs=some (d,ps)->xa enc P W held m t ty cs d ps)(cs:List Value) :
  ∀(fs:List Field)(off:Nat)(ty:Ty)(xs:List (DataW H×List MemPlace)),qN P (kR P n) fs off ty=true->cs.length=off+ty.size->
   fs.mapM (λf=>DataW.trod enc P W 0 (λ_=>true) held m f.type ((cs.drop f.offset).take (P.cellsOf f.type)))=some xs->
   (∃v:ty.den,Rep (oldS W) W ty v (cs.drop off)/\Wf ty v)/\
    ∀W' sp,Ext W W'->(∀q∈xs.flatMap (·.2),sp q.block=true)->fs.mapM (λf=>DataW.trod enc P W' 0 sp held m f.type ((cs.drop f.offset).take (P.cellsOf f.type)))=some xs
 |[],_,_,_,hc,_,_=>by simp[qN]at hc
 |[f],off,ty,xs,hc,hl,hm=>by
  simp only[qN,jb,jg]at hc;obtain⟨⟨ho,hz⟩,hc⟩:=hc;rw[qt]at hm;cases hf:DataW.trod enc P W 0 (λ_=>true) held m f.type ((cs.drop f.offset).take (P.cellsOf f.type)) with
  |none=>simp[hf]at hm
  |some y=>simp[hf]at hm;subst hm;obtain⟨_,hv,hk⟩:=ih f.type ty hc _ y.1 y.2 hf;rw[ho,hz,List.take_of_length_le (by simp;omega)]at hv;refine⟨hv,λW' sp hE bS=>?_⟩;rw[qt,hk W' sp hE (λq hq=>bS q (by simpa using hq))];rfl
 |f::g::r,off,ty,xs,hc,hl,hm=>by
  cases ty with
  |pair a b=>
   simp only[qN,jb,jg]at hc;obtain⟨⟨⟨ho,hz⟩,hc⟩,hr⟩:=hc;rw[qt]at hm;cases hf:DataW.trod enc P W 0 (λ_=>true) held m f.type ((cs.drop f.offset).take (P.cellsOf f.type)) with
   |none=>simp[hf]at hm
   |some y=>
    cases bH:(g::r).mapM (λf=>DataW.trod enc P W 0 (λ_=>true) held m f.type ((cs.drop f.offset).take (P.cellsOf f.type))) with
    |none=>rw[hf,bH]at hm;simp at hm
    |some ys=>
     rw[hf,bH]at hm;simp at hm;subst hm;have iR:cs.length=off+(a.size+b.size):=hl;obtain⟨pH,⟨v,hv,hw⟩,hk⟩:=ih f.type a hc _ y.1 y.2 hf;obtain⟨⟨v2,CW,qI⟩,dj⟩:=xc ih cs (g::r) (off+a.size) b ys hr (by omega) bH;rw[ho,hz]at hv;refine⟨⟨(v,v2),⟨(cs.drop off).take a.size,cs.drop (off+a.size),?_,hv,CW⟩,hw,qI⟩,λW' sp hE bS=>?_⟩
     .rw[<-List.drop_drop,qs]
     .rw[qt,hk W' sp hE (λq hq=>bS q (by simp[hq])),dj W' sp hE (λq hq=>bS q (by simp at hq ⊢;exact .inr hq))];rfl
  |_=>simp[qN]at hc
theorem Ja:∀(n:Nat)(t:TypeId)(ty:Ty),kR P n t ty=true->∀(fuel:Nat)(cs:List Value)(d:DataW H)(ps:List MemPlace),DataW.trod enc P W 0 (λ_=>true) held fuel t cs=some (d,ps)->
  xa enc P W held fuel t ty cs d ps
 |0,_,_,hc,_,_,_,_,_=>by simp[kR]at hc
 |n+1,t,ty,hc,fuel,cs,d,ps,h=>by
  have ih:=Ja n;cases fuel with
  |zero=>simp[DataW.trod]at h
  |succ m=>
  have rv:=hc;unfold kR at hc;split at hc
  .rename_i k hu;have:=qe hc;subst this;obtain⟨z,rfl,hx,hw⟩:=DataW.trod_int hu h;refine⟨rfl,⟨z,rfl,hw⟩,λW' sp _ _=>?_⟩;simp only[j9]at hx;rw[hx.1,hx.2];exact trod_int_mk m hu hw
  .rename_i hu;have:=qe hc;subst this;obtain⟨z,rfl,hx⟩:=DataW.trod_bool hu h;refine⟨rfl,⟨z,rfl,trivial⟩,λW' sp _ _=>?_⟩;unfold DataW.trod at h ⊢;rw[hu]at h ⊢;exact h
  .rename_i hu;have:=qe hc;subst this;obtain⟨z,rfl,hx,hw⟩:=DataW.trod_string hu h;refine⟨rfl,⟨z,rfl,hw⟩,λW' sp _ _=>?_⟩;unfold DataW.trod at h ⊢;rw[hu]at h ⊢;exact h
  .rename_i e hu;split at hc
   .rename_i a;simp only[jb,jg]at hc;exact Qy (n:=n) hu hc.1.2 hc.2 (λm cs d ps h=>ih e a hc.1.1 m cs d ps h) h
   .simp at hc
  .rename_i fs hu;simp only[jb,jg]at hc;obtain⟨ba,hc⟩:=hc
   have DP:cs.length=P.cellsOf t/\∃xs,fs.toList.mapM (λf=>DataW.trod enc P W 0 (λ_=>true) held m f.type ((cs.drop f.offset).take (P.cellsOf f.type)))=some xs/\d = .agg (xs.map (·.1))/\ps=xs.flatMap (·.2):=by
    obtain⟨xs,m',e1,e2,e3,e4,e5⟩:=DataW.trod_struct hu h;have:m'=m:=by omega
    subst this;simp only[j9]at e2;exact⟨e3,xs,I5 (by simpa using e4) (λi x hx=>e5 i x (by simpa using hx)),e2.1,e2.2⟩
   obtain⟨hl,xs,hm,rfl,rfl⟩:=DP
   have mk:∀W' sp,fs.toList.mapM (λf=>DataW.trod enc P W' 0 sp held m f.type ((cs.drop f.offset).take (P.cellsOf f.type)))=some xs->
     DataW.trod enc P W' 0 sp held (m+1) t cs=some (.agg (xs.map (·.1)),xs.flatMap (·.2)):=by
    intro W' sp fo
    exact trod_struct_mk hu hl (by
     first
     |exact fo
     |(intros;exact fo))
   refine⟨by omega,?_,λW' sp hE bS=>?_⟩;all_goals split at hc
   .rename_i x a oT;rw[oT]at hm;obtain⟨⟨v,hv,hw⟩,_⟩:=xc (λt ty hc cs d ps h=>ih t ty hc m cs d ps h) cs [x] 0 a xs hc (by rw[hl,ba];simp[Ty.size]) hm;exact⟨v,by simpa[Rep]using hv,hw⟩
   .rename_i x y r a b oT;rw[oT]at hm;obtain⟨⟨v,hv,hw⟩,_⟩:=xc (λt ty hc cs d ps h=>ih t ty hc m cs d ps h) cs (x::y::r) 0 (.pair a b) xs hc (by omega) hm;exact⟨v,by simpa using hv,hw⟩
   .simp at hc
   .rename_i x a oT;rw[oT]at hm;obtain⟨_,hk⟩:=xc (λt ty hc cs d ps h=>ih t ty hc m cs d ps h) cs [x] 0 a xs hc (by rw[hl,ba];simp[Ty.size]) hm;exact mk W' sp (by rw[oT];exact hk W' sp hE bS)
   .rename_i x y r a b oT;rw[oT]at hm;obtain⟨_,hk⟩:=xc (λt ty hc cs d ps h=>ih t ty hc m cs d ps h) cs (x::y::r) 0 (.pair a b) xs hc (by omega) hm;exact mk W' sp (by rw[oT];exact hk W' sp hE bS)
   .simp at hc
  .simp at hc
end
theorem zC{P:Program}{W:World}{r:Reach}{base:Nat}{t:TypeId}{v:Value}{d:TypeDesc}(hu:P.underlying t=some d)(hd:(∃k,d = .int k)\/d = .bool\/d = .string\/∃e,d = .slice e)(h:Value.okWide P W r base t v):One v:=by
 have hc:Cell.ok P W r base t v:=by unfold Value.okWide at h;rw[hu]at h;rcases hd with⟨k,rfl⟩|rfl|rfl|⟨e,rfl⟩<;>(dsimp only at h;unfold Cell.okWide at h;rw[hu]at h;exact h)
 unfold Cell.ok at hc;rw[hu]at hc;rcases hd with⟨k,rfl⟩|rfl|rfl|⟨e,rfl⟩<;>cases v<;>first|rfl|(exact absurd hc (by simp))
theorem xd{H:Type}{enc:TypeId×Value->H}{P:Program}{W:World}{n:Nat}{t:TypeId}{ty:Ty}(dD:kR P n t ty=true){r:Reach}{base:Nat}{v:Value}(aM:Value.okWide P W r base t v){d:DataW H}{p:List MemPlace}
  (h:DataW.Trod enc P W 0 (λ_=>true) true t v d p) :
  ∃x:ty.den,jM (oldS W) W (.v ⟨ty,x⟩) v/\Wf ty x/\∀W' sp,Below W.heap.size W W'->(∀q∈p,sp q.block=true)->DataW.Trod enc P W' 0 sp true t v d p:=by
 obtain⟨fuel,h⟩:=h;obtain⟨_,⟨x,hx,hw⟩,hk⟩:=Ja n t ty dD fuel _ d p h;refine⟨x,⟨hx,λhm=>?_,λhm=>?_⟩,hw,λW' sp hb bS=>⟨fuel,hk W' sp (λk y hy=>by rw[hb.block k (jc.1 hy).1];exact hy) bS⟩⟩
 .cases n with
  |zero=>simp[kR]at dD
  |succ n=>
   unfold kR at dD;split at dD
   .have:=qe dD;subst this;simp[fi,Ty.agg]at hm
   .have:=qe dD;subst this;simp[fi,Ty.agg]at hm
   .have:=qe dD;subst this;simp[fi,Ty.agg]at hm
   .split at dD
    .simp[fi,Ty.agg]at hm
    .simp at dD
   .rename_i hu;unfold Value.okWide at aM;rw[hu]at aM;obtain⟨cs,cB,_⟩:=aM;exact⟨cs,cB⟩
   .simp at dD
 .cases n with
  |zero=>simp[kR]at dD
  |succ n=>
   unfold kR at dD;split at dD
   .rename_i k hu;exact zC hu (.inl ⟨k,rfl⟩) aM
   .rename_i hu;exact zC hu (.inr (.inl rfl)) aM
   .rename_i hu;exact zC hu (.inr (.inr (.inl rfl))) aM
   .rename_i e hu;exact zC hu (.inr (.inr (.inr ⟨e,rfl⟩))) aM
   .rename_i hu;simp only[jb]at dD;have h2:=dD.2;split at h2
    .simp[fi,Ty.agg]at hm
    .simp[fi,Ty.agg]at hm
    .simp at h2
   .simp at dD
def OLe{α:Type}(a b:Option α):Prop:=∀r,a=some r->b=some r
theorem OLe.refl{α:Type}(a:Option α):OLe a a:=λ_ h=>h
theorem OLe.none{α:Type}(a:Option α):OLe none a:=λ_ h=>by simp at h
theorem OLe.bind{α β:Type}{a b:Option α}{f g:α->Option β}(h:OLe a b)(h':∀x,OLe (f x) (g x)):OLe (a.bind f) (b.bind g):=by
 intro r hr;cases a with
 |none=>simp at hr
 |some x=>rw[h x rfl];exact h' x r hr
theorem OLe.cond{α:Type}{c:Bool}{a b a' b':Option α}(h:OLe a a')(h':OLe b b'):OLe (cond c a b) (cond c a' b'):=by
 cases c with
 |true=>exact h
 |false=>exact h'
theorem OLe.sumC{α β γ:Type}{x:α ⊕ β}{f f':α->Option γ}{g g':β->Option γ}(h:∀x,OLe (f x) (f' x))(h':∀x,OLe (g x) (g' x)):OLe (sumC x f g) (Lft.sumC x f' g'):=by
 cases x with
 |inl a=>exact h a
 |inr b=>exact h' b
theorem OLe.loopN{α β:Type}{f g:α->Option (α ⊕ β)}(h:∀s,OLe (f s) (g s)):∀(n:Nat)(s:α),OLe (Lft.loopN f n s) (Lft.loopN g n s)
 |0,_=> .none _
 |n+1,s=>by
  intro r hr;simp only[Lft.loopN]at hr ⊢;cases hf:f s with
  |none=>simp[hf]at hr
  |some x=>
   rw[h s x hf];cases x with
   |inl a=>simp only[hf]at hr;exact OLe.loopN h n a r hr
   |inr b=>simpa[hf]using hr
theorem OLe.loop{α β:Type}{f g:α->Option (α ⊕ β)}(n:Nat)(s:α)(h:∀s,OLe (f s) (g s)):OLe (Lft.loopN f n s) (loopOpt g s):=
 λr hr=>wZ (OLe.loopN h n s r hr)
theorem OLe.loopOpt{α β:Type}{f g:α->Option (α ⊕ β)}(s:α)(h:∀s,OLe (f s) (g s)):OLe (Lft.loopOpt f s) (Lft.loopOpt g s):=by
 intro r hr;obtain⟨n,hn⟩:=w6 hr;exact wZ (OLe.loopN h n s r hn)
theorem Jb{α β:Type}{B B':(α->Option β)->α->Option β}(h:∀g g',(∀a,OLe (g a) (g' a))->∀a,OLe (B g a) (B' g' a)):∀n a,OLe (mJ B n a) (mJ B' n a)
 |0,_=> .none _
 |n+1,a=>h _ _ (Jb h n) a
theorem DQ{α β:Type}{B:(α->Option β)->α->Option β}(h:∀g g',(∀a,OLe (g a) (g' a))->∀a,OLe (B g a) (B g' a)):∀(k n:Nat)(a:α),OLe (mJ B n a) (mJ B (n+k) a)
 |k,0,a=> .none _
 |k,n+1,a=>by
  rw[show n+1+k=(n+k)+1 by omega];exact h _ _ (DQ h k n) a
theorem OLe.rec{α β:Type}{B B':(α->Option β)->α->Option β}(n:Nat)(a:α)(h:∀g g',(∀a,OLe (g a) (g' a))->∀a,OLe (B g a) (B' g' a))(h':∀g g',(∀a,OLe (g a) (g' a))->∀a,OLe (B' g a) (B' g' a)) :
  OLe (mJ B n a) (zv B' a):=by
 intro r hr;have h1:=Jb h n a r hr;refine Qs ⟨n,h1⟩ λm y hy=>?_;have e1:=DQ h' m n a r h1;have e2:=DQ h' n m a y hy;rw[Nat.add_comm m n]at e2;rw[e1]at e2;simpa using e2.symm
theorem oR{α:Type}(a:Option α):OLe a a:=OLe.refl a
theorem oN{α:Type}(a:Option α):OLe none a:=OLe.none a
theorem oB{α β:Type}{a b:Option α}{f g:α->Option β}(h:OLe a b)(h':∀x,OLe (f x) (g x)):OLe (a.bind f) (b.bind g):=OLe.bind h h'
theorem oC{α:Type}{c:Bool}{a b a' b':Option α}(h:OLe a a')(h':OLe b b'):OLe (cond c a b) (cond c a' b'):=OLe.cond h h'
theorem oS{α β γ:Type}{x:α ⊕ β}{f f':α->Option γ}{g g':β->Option γ}(h:∀x,OLe (f x) (f' x))(h':∀x,OLe (g x) (g' x)):OLe (sumC x f g) (Lft.sumC x f' g'):=OLe.sumC h h'
end Go.Lft
