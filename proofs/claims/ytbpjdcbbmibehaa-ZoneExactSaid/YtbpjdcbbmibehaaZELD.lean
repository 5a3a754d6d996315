/- DY of arguments and uv: what is known of them but the data. IX. -/
import Derived.Test.YtbpjdcbbmibehaaZELC
import Derived.KernelRfl
import Derived.IntWalk
import Derived.Below
import Derived.ChangeSame
noncomputable section
set_option linter.unusedVariables false
namespace Go.Lft
inductive CPat where
 |v (t:Ty)
 |p (ts:List Ty)
 deriving DecidableEq
inductive LPat where
 |dead|nil
 |d (t:Ty)
 |ol (k:Nat)
 |bp (k c:Nat)
 |ep (k i c:Nat)
 |tl (k:Nat)
 |hd (k:Nat)
 |s1 (k:Nat)
 |ip (ts:List Ty)
 |clo (f:Nat) (caps:List CPat)
 |clr (f:Nat) (ks:List Nat)
 deriving DecidableEq
inductive KPat where
 |one (l:LPat)
 |st (ls:List LPat)
 |av (n:Nat) (a:Ty)
 deriving DecidableEq
inductive BPat where
 |free|gone
 |cell (ls:List LPat) (frz:Bool)
 |lst (e:Nat) (a:Ty) (frz:Bool)
 |arr (n:Nat) (a:Ty)
 deriving DecidableEq
inductive IPat where
 |s (c:KPat)
 |b (x:BPat)
 deriving DecidableEq
abbrev iT:Ty:= .int .i64
abbrev sI:IPat:= .s (.one (.d iT))
inductive APat where
 |v (t:Ty)
 |ref (ts:List Ty)
 |rl (e:Nat) (t:Ty)
 |ip (ts:List Ty)
 |clo (f:Nat) (caps:List CPat)
 |mv (e:Nat) (t:Ty)
 deriving DecidableEq
@[reducible] def HL:List Ty->Type
 |[]=>Unit
 |[t]=>t.den
 |t::t'::ts=>t.den×HL (t'::ts)
def ofHL:(ts:List Ty)->HL ts->List TV
 |[],_=>[]
 |[t],h=>[⟨t,h⟩]
 |t::t'::ts,h=>⟨t,h.1⟩::ofHL (t'::ts) h.2
def toHL:(ts:List Ty)->List TV->Option (HL ts)
 |[],[]=>some ()
 |[t],[x]=>x.to t
 |t::t'::ts,x::xs=>match x.to t with
  |some v=>match toHL (t'::ts) xs with
   |some r=>some (v,r)
   |none=>none
  |none=>none
 |_,_=>none
theorem zI:∀{ts:List Ty}{xs:List TV}{h:HL ts},toHL ts xs=some h->xs=ofHL ts h
 |[],[],_,_=>rfl
 |[],_::_,_,h=>by simp[toHL]at h
 |[_],[],_,h=>by simp[toHL]at h
 |[t],[x],hl,h=>by
  simp only[toHL]at h;rw[gN h];rfl
 |[t],x::y::xs,hl,h=>by simp[toHL]at h
 |_::_::_,[],_,h=>by simp[toHL]at h
 |t::t'::ts,x::xs,hl,h=>by
  simp only[toHL]at h;split at h
  .rename_i v hv;split at h
   .rename_i r hr;simp only[j3]at h;subst h;rw[gN hv,zI hr];rfl
   .simp at h
  .simp at h
def capP:Cap->CPat×List TV
 |.v x=>(.v x.t,[x])
 |.p ls=>(.p (ls.map (·.t)),ls)
def jJ:List Cap->List CPat×List TV
 |[]=>([],[])
 |c::cs=>((capP c).1::(jJ cs).1,(capP c).2++(jJ cs).2)
def tv0:TV:=⟨.unit,()⟩
def capF:CPat->List TV->Cap
 |.v _,xs=> .v (xs.headD tv0)
 |.p ts,xs=> .p (xs.take ts.length)
def CPat.n:CPat->Nat
 |.v _=>1
 |.p ts=>ts.length
def uw:List CPat->List TV->List Cap
 |[],_=>[]
 |c::cs,xs=>capF c xs::uw cs (xs.drop c.n)
def uy:List CPat->Nat
 |[]=>0
 |c::cs=>c.n+uy cs
theorem Qi(c:Cap)(r:List TV):capF (capP c).1 ((capP c).2++r)=c/\(capP c).1.n=(capP c).2.length:=by
 cases c with
 |v x=>exact⟨rfl,rfl⟩
 |p ls=>simp[capP,capF,CPat.n]
theorem zJ:∀(cs:List Cap)(r:List TV),uw (jJ cs).1 ((jJ cs).2++r)=cs/\uy (jJ cs).1=(jJ cs).2.length
 |[],r=>⟨rfl,rfl⟩
 |c::cs,r=>by
  simp only[jJ,uw,uy,jd,ja];have h1:=Qi c ((jJ cs).2++r);have h2:=zJ cs r;rw[h1.1,h1.2,qy,h2.1,h2.2];exact⟨rfl,rfl⟩
def ny:Leaf->LPat×List TV
 |.dead=>(.dead,[])
 |.nil=>(.nil,[])
 |.d t v=>(.d t,[⟨t,v⟩])
 |.ol k=>(.ol k,[])
 |.bp k c=>(.bp k c,[])
 |.ep k i c=>(.ep k i c,[])
 |.tl k i=>(.tl k,[⟨.int .i64,(i:Int)⟩])
 |.hd k i=>(.hd k,[⟨.int .i64,(i:Int)⟩])
 |.s1 k=>(.s1 k,[])
 |.ip ls=>(.ip (ls.map (·.t)),ls)
 |.clo f caps=>(.clo f (jJ caps).1,(jJ caps).2)
 |.clr f ks=>(.clr f ks,[])
def DZ:TV->Nat
 |⟨.int _,v⟩=>Int.toNat v
 |_=>0
def LPat.n:LPat->Nat
 |.d _=>1
 |.tl _=>1
 |.hd _=>1
 |.ip ts=>ts.length
 |.clo _ cs=>uy cs
 |_=>0
def xk:LPat->List TV->Leaf
 |.dead,_=> .dead
 |.nil,_=> .nil
 |.d _,xs=> .d (xs.headD tv0).t (xs.headD tv0).v
 |.ol k,_=> .ol k
 |.bp k c,_=> .bp k c
 |.ep k i c,_=> .ep k i c
 |.tl k,xs=> .tl k (DZ (xs.headD tv0))
 |.hd k,xs=> .hd k (DZ (xs.headD tv0))
 |.s1 k,_=> .s1 k
 |.ip ts,xs=> .ip (xs.take ts.length)
 |.clo f cs,xs=> .clo f (uw cs xs)
 |.clr f ks,_=> .clr f ks
theorem IY(l:Leaf)(r:List TV):xk (ny l).1 ((ny l).2++r)=l/\(ny l).1.n=(ny l).2.length:=by
 cases l with
 |ip ls=>simp[ny,xk,LPat.n]
 |clo f cs=>have:=zJ cs r;simp only[ny,xk,LPat.n];exact⟨by rw[this.1],this.2⟩
 |_=>exact⟨rfl,rfl⟩
def ll:List Leaf->List LPat×List TV
 |[]=>([],[])
 |c::cs=>((ny c).1::(ll cs).1,(ny c).2++(ll cs).2)
def xl:List LPat->List TV->List Leaf
 |[],_=>[]
 |c::cs,xs=>xk c xs::xl cs (xs.drop c.n)
def xm:List LPat->Nat
 |[]=>0
 |c::cs=>c.n+xm cs
theorem D0:∀(cs:List Leaf)(r:List TV),xl (ll cs).1 ((ll cs).2++r)=cs/\xm (ll cs).1=(ll cs).2.length
 |[],r=>⟨rfl,rfl⟩
 |c::cs,r=>by
  simp only[ll,xl,xm,jd,ja];have h1:=IY c ((ll cs).2++r);have h2:=D0 cs r;rw[h1.1,h1.2,qy,h2.1,h2.2];exact⟨rfl,rfl⟩
def celP:Cel->KPat×List TV
 |.one l=>(.one (ny l).1,(ny l).2)
 |.st ls=>(.st (ll ls).1,(ll ls).2)
 |.av n a xs=>(.av n a,[⟨.list a,xs⟩])
def xn(a:Ty)(xs:List TV):List a.den:=((xs.headD tv0).to (.list a)).getD []
theorem D1(a:Ty)(xs:List a.den)(r:List TV):xn a (⟨.list a,xs⟩::r)=xs:=by
 simp[xn,TV.to]
def KPat.n:KPat->Nat
 |.one l=>l.n
 |.st ls=>xm ls
 |.av _ _=>1
def celF:KPat->List TV->Cel
 |.one l,xs=> .one (xk l xs)
 |.st ls,xs=> .st (xl ls xs)
 |.av n a,xs=> .av n a (xn a xs)
theorem Qj(c:Cel)(r:List TV):celF (celP c).1 ((celP c).2++r)=c/\(celP c).1.n=(celP c).2.length:=by
 cases c with
 |one l=>have:=IY l r;exact⟨by simp only[celP,celF];rw[this.1],this.2⟩
 |st ls=>have:=D0 ls r;exact⟨by simp only[celP,celF];rw[this.1],this.2⟩
 |av n a xs=>exact⟨by simp only[celP,celF,kj,js];rw[D1],rfl⟩
def bsP:BS->BPat×List TV
 |.free=>(.free,[])
 |.gone=>(.gone,[])
 |.live (.cell ls f)=>(.cell (ll ls).1 f,(ll ls).2)
 |.live (.lst e a xs f)=>(.lst e a f,[⟨.list a,xs⟩])
 |.live (.arr n a xs)=>(.arr n a,[⟨.list a,xs⟩])
def BPat.n:BPat->Nat
 |.free|.gone=>0
 |.cell ls _=>xm ls
 |.lst _ _ _=>1
 |.arr _ _=>1
def bsF:BPat->List TV->BS
 |.free,_=> .free
 |.gone,_=> .gone
 |.cell ls f,xs=> .live (.cell (xl ls xs) f)
 |.lst e a f,xs=> .live (.lst e a (xn a xs) f)
 |.arr n a,xs=> .live (.arr n a (xn a xs))
theorem Qk(c:BS)(r:List TV):bsF (bsP c).1 ((bsP c).2++r)=c/\(bsP c).1.n=(bsP c).2.length:=by
 cases c with
 |free=>exact⟨rfl,rfl⟩
 |gone=>exact⟨rfl,rfl⟩
 |live b=>
  cases b with
  |cell ls f=>have:=D0 ls r;exact⟨by simp only[bsP,bsF];rw[this.1],this.2⟩
  |lst e a xs f=>exact⟨by simp only[bsP,bsF,kj,js];rw[D1],rfl⟩
  |arr n a xs=>exact⟨by simp only[bsP,bsF,kj,js];rw[D1],rfl⟩
def itP:Item->IPat×List TV
 |.s c=>(.s (celP c).1,(celP c).2)
 |.b x=>(.b (bsP x).1,(bsP x).2)
def IPat.n:IPat->Nat
 |.s c=>c.n
 |.b x=>x.n
def itF:IPat->List TV->Item
 |.s c,xs=> .s (celF c xs)
 |.b x,xs=> .b (bsF x xs)
theorem IZ(c:Item)(r:List TV):itF (itP c).1 ((itP c).2++r)=c/\(itP c).1.n=(itP c).2.length:=by
 cases c with
 |s c=>have:=Qj c r;exact⟨by simp only[itP,itF];rw[this.1],this.2⟩
 |b x=>have:=Qk x r;exact⟨by simp only[itP,itF];rw[this.1],this.2⟩
def hZ:Snap->List IPat×List TV
 |[]=>([],[])
 |c::cs=>((itP c).1::(hZ cs).1,(itP c).2++(hZ cs).2)
def sO:List IPat->List TV->Snap
 |[],_=>[]
 |c::cs,xs=>itF c xs::sO cs (xs.drop c.n)
theorem I0:∀(cs:Snap),sO (hZ cs).1 (hZ cs).2=cs
 |[]=>rfl
 |c::cs=>by
  simp only[hZ,sO];have h1:=IZ c (hZ cs).2;rw[h1.1,h1.2,qy,I0 cs]
def pack(ps:List IPat)(ts:List Ty)(h:HL ts):Snap:=sO ps (ofHL ts h)
def mz(ps:List IPat)(ts:List Ty)(s:Snap):Option (HL ts):=
 if (hZ s).1=ps then toHL ts (hZ s).2 else none
theorem uz{ps:List IPat}{ts:List Ty}{s:Snap}{h:HL ts}(hs:mz ps ts s=some h):s=pack ps ts h:=by
 unfold mz at hs;split at hs
 .rename_i hp;have:=zI hs;rw[pack,<-this,<-hp,I0]
 .simp at hs
def argP:Arg->APat×List TV
 |.v x=>(.v x.t,[x])
 |.ref ls=>(.ref (ls.map (·.t)),ls)
 |.rl e x=>(.rl e x.t,[x])
 |.ip ls=>(.ip (ls.map (·.t)),ls)
 |.clo f cs=>(.clo f (jJ cs).1,(jJ cs).2)
 |.mv e x=>(.mv e x.t,[x])
def APat.n:APat->Nat
 |.v _=>1
 |.ref ts=>ts.length
 |.rl _ _=>1
 |.ip ts=>ts.length
 |.clo _ cs=>uy cs
 |.mv _ _=>1
def argF:APat->List TV->Arg
 |.v _,xs=> .v (xs.headD tv0)
 |.ref ts,xs=> .ref (xs.take ts.length)
 |.rl e _,xs=> .rl e (xs.headD tv0)
 |.ip ts,xs=> .ip (xs.take ts.length)
 |.clo f cs,xs=> .clo f (uw cs xs)
 |.mv e _,xs=> .mv e (xs.headD tv0)
theorem Ql(c:Arg)(r:List TV):argF (argP c).1 ((argP c).2++r)=c/\(argP c).1.n=(argP c).2.length:=by
 cases c with
 |v x=>exact⟨rfl,rfl⟩
 |rl e x=>exact⟨rfl,rfl⟩
 |mv e x=>exact⟨rfl,rfl⟩
 |ref ls=>simp[argP,argF,APat.n]
 |ip ls=>simp[argP,argF,APat.n]
 |clo f cs=>have:=zJ cs r;exact⟨by simp only[argP,argF];rw[this.1],this.2⟩
def oP:List Arg->List APat×List TV
 |[]=>([],[])
 |c::cs=>((argP c).1::(oP cs).1,(argP c).2++(oP cs).2)
def zK:List APat->List TV->List Arg
 |[],_=>[]
 |c::cs,xs=>argF c xs::zK cs (xs.drop c.n)
theorem I1:∀(cs:List Arg),zK (oP cs).1 (oP cs).2=cs
 |[]=>rfl
 |c::cs=>by
  simp only[oP,zK];have h1:=Ql c (oP cs).2;rw[h1.1,h1.2,qy,I1 cs]
def nA(ps:List APat)(ts:List Ty)(h:HL ts):List Arg:=zK ps (ofHL ts h)
def zL(ps:List APat)(ts:List Ty)(s:List Arg):Option (HL ts):=
 if (oP s).1=ps then toHL ts (oP s).2 else none
theorem Qm{ps:List APat}{ts:List Ty}{s:List Arg}{h:HL ts}(hs:zL ps ts s=some h):s=nA ps ts h:=by
 unfold zL at hs;split at hs
 .rename_i hp;have:=zI hs;rw[nA,<-this,<-hp,I1]
 .simp at hs
theorem I2{α β:Type}{f:α->Option (α ⊕ β)}:∀{n m:Nat}{s:α}{x y:β},loopN f n s=some x->loopN f m s=some y->x=y
 |0,_,_,_,_,h,_=>by simp[loopN]at h
 |_+1,0,_,_,_,_,h=>by simp[loopN]at h
 |n+1,m+1,s,x,y,h,h'=>by
  simp only[loopN]at h h';cases hf:f s with
  |none=>simp[hf]at h
  |some r=>
   cases r with
   |inl s'=>simp only[hf]at h h';exact I2 h h'
   |inr z=>simp only[hf,j3]at h h';rw[<-h,<-h']
open Classical in
def loopOpt{α β:Type}(f:α->Option (α ⊕ β))(s:α):Option β:=
 if h:∃x n,loopN f n s=some x then some h.choose else none
theorem xo{α β:Type}{f:α->Option (α ⊕ β)}{s:α}{n:Nat}{x:β}(h:loopN f n s=some x):loopOpt f s=some x:=by
 unfold loopOpt;have hx:∃x n,loopN f n s=some x:=⟨x,n,h⟩;rw[dif_pos hx];obtain⟨m,hm⟩:=hx.choose_spec;rw[I2 hm h]
theorem xp{α β:Type}{f:α->Option (α ⊕ β)}{s:α}{x:β}(h:loopOpt f s=some x):∃n,loopN f n s=some x:=by
 unfold loopOpt at h;split at h
 .rename_i hx;simp only[j3]at h;obtain⟨m,hm⟩:=hx.choose_spec;exact⟨m,by rw[<-h];exact hm⟩
 .simp at h
theorem Qn{α β:Type}{f:α->Option (α ⊕ β)}{s s':α}(h:f s=some (.inl s')):loopOpt f s=loopOpt f s':=by
 cases hq:loopOpt f s' with
 |some x=>obtain⟨n,hn⟩:=xp hq;exact xo (n:=n+1) (by simp only[loopN,h];exact hn)
 |none=>
  cases hp:loopOpt f s with
  |none=>rfl
  |some x=>
   obtain⟨n,hn⟩:=xp hp;cases n with
   |zero=>simp[loopN]at hn
   |succ n=>simp only[loopN,h]at hn;rw[xo hn]at hq;simp at hq
theorem Qo{α β:Type}{f:α->Option (α ⊕ β)}{s:α}{x:β}(h:f s=some (.inr x)):loopOpt f s=some x:=
 xo (n:=1) (by simp only[loopN,h])
theorem I3{α β A B:Type}{f:α->Option (α ⊕ β)}{g:A->Option (A ⊕ B)}{p:A->α}{q:B->β}
  (h:∀a r,g a=some r->f (p a)=some (match r with|.inl a'=> .inl (p a')|.inr b=> .inr (q b))):∀{n:Nat}{a:A}{x:B},loopN g n a=some x->loopN f n (p a)=some (q x)
 |0,_,_,hn=>by simp[loopN]at hn
 |n+1,a,x,hn=>by
  simp only[loopN]at hn;cases hg:g a with
  |none=>simp[hg]at hn
  |some r=>
   have:=h a r hg;cases r with
   |inl a'=>simp only[hg]at hn;simp only[loopN,this];exact I3 h hn
   |inr b=>simp only[hg,j3]at hn;subst hn;simp only[loopN,this]
def sumC{α β γ:Type}(x:α ⊕ β)(f:α->γ)(g:β->γ):γ:=match x with
 |.inl a=>f a
 |.inr b=>g b
structure XD where
 ex:Ex
 ps:List IPat
 ts:List Ty
@[reducible] def XT:List XD->Type
 |[]=>Empty
 |[x]=>HL x.ts
 |x::y::r=>HL x.ts ⊕ XT (y::r)
def mA:(l:List XD)->XT l->Ex×Snap
 |[],h=>nomatch h
 |[x],h=>(x.ex,pack x.ps x.ts h)
 |x::y::r,h=>match h with
  |.inl a=>(x.ex,pack x.ps x.ts a)
  |.inr b=>mA (y::r) b
def xq{R:Type}:(l:List XD)->XT l->(Ex->Snap->Option R)->Option R
 |[],_,_=>none
 |[x],h,k=>k x.ex (pack x.ps x.ts h)
 |x::y::r,h,k=>sumC h (λa=>k x.ex (pack x.ps x.ts a)) (λb=>xq (y::r) b k)
theorem D2{R:Type}:∀(l:List XD)(h:XT l)(k:Ex->Snap->Option R),xq l h k=k (mA l h).1 (mA l h).2
 |[],h,_=>nomatch h
 |[x],h,k=>rfl
 |x::y::r,h,k=>by
  cases h with
  |inl a=>rfl
  |inr b=>exact D2 (y::r) b k
def unX:(l:List XD)->Ex->Snap->Option (XT l)
 |[],_,_=>none
 |[x],e,s=>if e=x.ex then mz x.ps x.ts s else none
 |x::y::r,e,s=>if e=x.ex/\(hZ s).1=x.ps then match mz x.ps x.ts s with
   |some a=>some (.inl a)
   |none=>none
  else match unX (y::r) e s with
   |some b=>some (.inr b)
   |none=>none
theorem zM:∀(l:List XD)(e:Ex)(s:Snap)(x:XT l),unX l e s=some x->mA l x=(e,s)
 |[],_,_,_,h=>by simp[unX]at h
 |[x],e,s,h,he=>by
  simp only[unX]at he;split at he
  .rename_i h1;rw[mA,<-uz he,h1]
  .simp at he
 |x::y::r,e,s,h,he=>by
  simp only[unX]at he;split at he
  .rename_i h1;split at he
   .rename_i a ha;simp only[j3]at he;subst he;show (x.ex,pack x.ps x.ts a)=(e,s);rw[<-uz ha,h1.1]
   .simp at he
  .split at he
   .rename_i b hb;simp only[j3]at he;subst he;exact zM (y::r) e s b hb
   .simp at he
structure h9 where
 b:Nat
 ps:List IPat
 ts:List Ty
 exits:List XD
 step:HL ts->Option (HL ts ⊕ XT exits)
def qJ:List h9->Nat->Snap->(R:Type)->(Ex->Snap->Option R)->Option R
 |[],_,_,_,_=>none
 |d::ds,b,s,R,k=>if d.b=b then match mz d.ps d.ts s with
   |some h=>(loopOpt d.step h).bind λx=>xq d.exits x k
   |none=>none
  else qJ ds b s R k
theorem D3:∀ds:List h9,LFun (qJ ds)
 |[]=>λ_ _=>⟨none,λ_ _=>rfl⟩
 |d::ds=>λb s=>by
  simp only[qJ];split
  .split
   .rename_i h _;cases hq:loopOpt d.step h with
    |none=>exact⟨none,λ_ _=>rfl⟩
    |some x=>exact⟨some (mA d.exits x),λR k=>D2 d.exits x k⟩
   .exact⟨none,λ_ _=>rfl⟩
  .exact D3 ds b s
structure MrD where
 b:Nat
 m:Nat
 nm:Nat
 ps:List IPat
 ts:List Ty
 em:Nat
 v:Ty
 G:HL ts->Int->v.den->(R:Type)->(v.den->Option R)->Option R
def mrL:List MrD->Nat->Snap->(R:Type)->(Snap->Option R)->Option R
 |[],_,_,_,_=>none
 |d::ds,b,s,R,k=>if d.b=b then match mz d.ps d.ts s,po d.em d.v s with
   |some h,some xs=>(nN (λq z=>d.G h q z d.v.den some) xs).bind λys=>k (dW s d.em d.v ys)
   |_,_=>none
  else mrL ds b s R k
def mrF:List MrD->Nat->Option (Nat×Nat)
 |[],_=>none
 |d::ds,b=>if d.b=b then some (d.m,d.nm) else mrF ds b
theorem D4:∀ds:List MrD,MFun (mrL ds)
 |[]=>λ_ _=>⟨none,λ_ _=>rfl⟩
 |d::ds=>λb s=>by
  simp only[mrL];split
  .split
   .rename_i h xs _ _;cases nN (λq z=>d.G h q z d.v.den some) xs with
    |none=>exact⟨none,λ_ _=>rfl⟩
    |some ys=>exact⟨some (dW s d.em d.v ys),λ_ _=>rfl⟩
   .exact⟨none,λ_ _=>rfl⟩
  .exact D4 ds b s
theorem I4{b m nm:Nat}:∀{ds:List MrD},mrF ds b=some (m,nm)->∃d∈ds,d.b=b/\d.m=m/\d.nm=nm/\∀s R k,mrL ds b s R k=match mz d.ps d.ts s,po d.em d.v s with
   |some h,some xs=>(nN (λq z=>d.G h q z d.v.den some) xs).bind λys=>k (dW s d.em d.v ys)
   |_,_=>none
 |[],h=>by simp[mrF]at h
 |d::ds,h=>by
  simp only[mrF]at h;split at h
  .rename_i hb;simp only[j3,j7]at h;refine⟨d,by simp,hb,h.1,h.2,λs R k=>?_⟩;simp only[mrL,hb,if_true]
  .rename_i hb;obtain⟨d',hm,h1,h2,h3,h4⟩:=I4 h;refine⟨d',by simp[hm],h1,h2,h3,λs R k=>?_⟩;rw[<-h4];simp only[mrL,hb,qj]
def mrPd(b:Nat)(c:Code):MrP:=(mrP b c).getD ⟨0,0,0,0,0, #[],.skip⟩
structure D5(E:Env)(c:Code)(d:MrD):Prop where
 em:isM d.em=true
 bx:∀h zs,(br E.np (E.keep d.b) (dW (pack d.ps d.ts h) d.em d.v zs)).bx d.nm = .live (.lst d.em (.pair (.int .i64) d.v) zs false)
 sl:∀h zs,(br E.np (E.keep d.b) (dW (pack d.ps d.ts h) d.em d.v zs)).sl d.m = .one (.one (.ol d.nm))
 step:∀h zs q z (R:Type) (k:Snap->Option R),tE E d.b (mrPd d.b c) d.m (dW (pack d.ps d.ts h) d.em d.v zs) d.v q z k=
  d.G h q z R (λy=>k (dW (pack d.ps d.ts h) d.em d.v (@gx _ _ (Ty.int .i64).keq zs q y)))
theorem Qp(t:Ty)(v:t.den):(TV.mk t v).to t=some v:=by simp[TV.to]
theorem Qq(s:Snap)(em:Nat)(v:Ty)(zs:List (Int×v.den)):po em v (dW s em v zs)=some zs:=by
 unfold po dW;simp only[List.getLast?_append,List.getLast?_singleton,Option.some_or,if_true];exact Qp (.list (.pair (.int .i64) v)) zs
theorem Qr{em:Nat}{v:Ty}{s:Snap}{xs:List (Int×v.den)}(h:po em v s=some xs):s=dW s em v xs:=by
 unfold po at h;split at h
 .rename_i e a zs hl;split at h
  .rename_i he;subst he;have:=gN h;cases this;obtain⟨pre,rfl⟩:=List.getLast?_eq_some_iff.1 hl;unfold dW;rw[List.dropLast_concat]
  .simp at h
 .simp at h
theorem I5{α β:Type}{G:α->β->Option β}:∀{xs ys:List (α×β)},nN G xs=some ys->All2 (λx y=>y.1=x.1/\G x.1 x.2=some y.2) xs ys
 |[],ys,h=>by
  simp only[nN,j3]at h;subst h;trivial
 |x::r,ys,h=>by
  simp only[nN]at h;cases hg:G x.1 x.2 with
  |none=>rw[hg]at h;simp at h
  |some z=>
   rw[hg,j0]at h;cases hr:nN G r with
   |none=>rw[hr]at h;simp at h
   |some r'=>rw[hr,j0,j3]at h;subst h;exact⟨⟨rfl,hg⟩,I5 hr⟩
theorem Qs{E:Env}(hF:CFun E.C)(hz:E.nz=false)(hL:LFun E.L/\MFun E.M){c:Code}{ds:List MrD}{b:Nat}(hm:E.mr=mrF ds)(hM:E.M=mrL ds)(hs:∀d∈ds,d.b=b->D5 E c d):MrOK E b c:=by
 intro m nm p hb hp s R k r h;rw[hm]at hb;obtain⟨d,hd,rfl,rfl,rfl,he⟩:=I4 hb;have aM:=hs d hd rfl;rw[hM,he]at h;split at h
 case h_2=>simp at h
 rename_i hh xs hu hg;cases hq:nN (λq z=>d.G hh q z d.v.den some) xs with
 |none=>rw[hq]at h;simp at h
 |some ys=>
 rw[hq,j0]at h;obtain rfl:=uz hu;have Qt:mrPd d.b c=p:=by unfold mrPd;rw[hp];rfl
 refine⟨d.em,d.v,xs,ys,aM.em,Qr hg,λzs=>⟨aM.bx hh zs,aM.sl hh zs⟩,(I5 hq).mono λx y zv=>⟨zv.1,λzs=>?_⟩,h⟩;obtain⟨o,ho⟩:=Qg hF hz hL d.b p d.m (dW (pack d.ps d.ts hh) d.em d.v []) d.v x.1 x.2;have al:=λzs R k=>aM.step hh zs x.1 x.2 R k;rw[Qt]at al
 let inv:Snap->d.v.den:=λs=>match po d.em d.v s with
  |some ((_,y)::_)=>y
  |_=>d.v.dflt
 have hinv:∀y,inv (dW (pack d.ps d.ts hh) d.em d.v (@gx _ _ (Ty.int .i64).keq [] x.1 y))=y:=λy=>by
  show (match po d.em d.v _ with
   |some ((_,y)::_)=>y
   |_=>d.v.dflt)=y
  rw[Qq];rfl
 have hG:∀(R:Type)(κ:d.v.den->Option R),d.G hh x.1 x.2 R κ=o.bind λs=>κ (inv s):=λR κ=>by
  rw[<-ho];show _=tE E d.b p d.m (dW (pack d.ps d.ts hh) d.em d.v []) d.v x.1 x.2 λs=>κ (inv s);rw[al];congr 1;funext y;rw[hinv]
 rw[al,hG];have h2:=zv.2;rw[hG]at h2;cases o with
 |none=>simp at h2
 |some s0=>rw[j0,j3]at h2;rw[j0,h2]
def mrAt(c:Code)(b:Nat):Code:=(((dz 0 c).find? λx=>Nat.beq x.1 b).getD (0,.skip)).2
def sP(E:Env)(c:Code):List MrD->Prop
 |[]=>True
 |d::ds=>D5 E (mrAt c d.b) d/\sP E c ds
theorem sP.get{E:Env}{c:Code}:∀{ds:List MrD},sP E c ds->∀d∈ds,D5 E (mrAt c d.b) d
 |[],_,d,h=>by simp at h
 |x::r,hs,d,h=>by
  rcases jf.1 h with rfl|h
  .exact hs.1
  .exact sP.get hs.2 d h
theorem I6:∀{l:List (Nat×Code)}{x:Nat×Code},(l.map (·.1)).Nodup->x∈l->l.find? (λy=>Nat.beq y.1 x.1)=some x
 |[],x,_,h=>by simp at h
 |y::r,x,hn,h=>by
  have hc:=q7.1 (show (y.1::r.map (·.1)).Nodup from hn);rcases jf.1 h with rfl|h
  .rw[List.find?_cons,Nat.beq_refl]
  .have aG:y.1≠x.1:=λe=>hc.1 (e▸k9.2 ⟨x,h,rfl⟩);rw[List.find?_cons,beqF aG];exact I6 hc.2 h
def uk(E:Env)(d:h9)(e:Ex)(σ:St):Option (HL d.ts ⊕ XT d.exits):=
 match e with
 |.normal=>match eM E.np (E.keep d.b) σ with
  |some s=>match mz d.ps d.ts s with
   |some h=>some (.inl h)
   |none=>none
  |none=>none
 |e=>match eM E.np (E.keepX d.b e) σ with
  |some s=>match unX d.exits e s with
   |some x=>some (.inr x)
   |none=>none
  |none=>none
def ukR(E:Env)(d:h9)(ps:Array Nat)(x y:Code)(p:Option (List Item))(e:Ex)(σ:St):Option (HL d.ts ⊕ XT d.exits):=
 match p,e with
 |some q,.normal=>match eM E.np (E.keep d.b) σ with
  |some s=>match mz d.ps d.ts (q++s) with
   |some h=>some (.inl h)
   |none=>none
  |none=>none
 |_,e=>cond (pinK ps x y (E.keepX d.b e)) (match eM E.np (E.keepX d.b e) σ with
  |some s=>match unX d.exits e s with
   |some x=>some (.inr x)
   |none=>none
  |none=>none) none
def Qu(E:Env)(d:h9)(h:HL d.ts):Code->Option (HL d.ts ⊕ XT d.exits)
 |.rangeFunc g ps x y=>vg E d.b g ps x y (pack d.ps d.ts h) (ukR E d ps x y)
 |c=>dk E d.b c (br E.np (E.keep d.b) (pack d.ps d.ts h)) (uk E d)
def zN(E:Env)(c:Code)(d:h9):Prop:=∀h,Qu E d h c=d.step h
def outS(d:h9)(r:HL d.ts ⊕ XT d.exits):Snap ⊕ Ex×Snap:=match r with
 |.inl a=> .inl (pack d.ps d.ts a)
 |.inr x=> .inr (mA d.exits x)
theorem Qv{E:Env}(hF:CFun E.C)(hz:E.nz=false)(hL:LFun E.L/\MFun E.M){g:Operand}{ps:Array Nat}{x y:Code}{d:h9}(hs:zN E (.rangeFunc g ps x y) d)(h:HL d.ts)(r:HL d.ts ⊕ XT d.exits):d.step h=some r->
  tD E d.b g ps x y (pack d.ps d.ts h)=some (outS d r):=by
 intro hr;obtain⟨o,ho⟩:=Qf hF hz hL d.b g ps x y (pack d.ps d.ts h);rw[<-hs h]at hr;have h1:some r=_:=hr.symm.trans (ho _ (λz=>ukR E d ps x y z.1 z.2.1 z.2.2));cases o with
 |none=>simp at h1
 |some z=>
  obtain⟨p,e,σ⟩:=z;simp only[j0]at h1
  have h2:=ho _ (λz:Option (List Item)×Ex×St=>match z.1,z.2.1 with
   |some q,.normal=>match eM E.np (E.keep d.b) z.2.2 with
    |some s'=>some (Sum.inl (q++s'))
    |none=>none
   |_,e=>cond (pinK ps x y (E.keepX d.b e)) (match eM E.np (E.keepX d.b e) z.2.2 with
    |some s'=>some (Sum.inr (e,s'))
    |none=>none) none)
  have h3:tD E d.b g ps x y (pack d.ps d.ts h)=_:=h2;rw[h3,j0];clear h3 h2 hr ho;dsimp only;have h1:=h1.symm;unfold ukR at h1
  have hx:∀e,(cond (pinK ps x y (E.keepX d.b e)) (match eM E.np (E.keepX d.b e) σ with
    |some s=>match unX d.exits e s with
     |some x=>some (Sum.inr x)
     |none=>none
    |none=>none) none:Option (HL d.ts ⊕ XT d.exits))=some r->(cond (pinK ps x y (E.keepX d.b e)) (match eM E.np (E.keepX d.b e) σ with
    |some s'=>some (Sum.inr (e,s'))
    |none=>none) none:Option (Snap ⊕ Ex×Snap))=some (outS d r):=by
   intro e h1;cases hp:pinK ps x y (E.keepX d.b e) with
   |false=>rw[hp]at h1;simp at h1
   |true=>
    rw[hp,j4]at h1;rw[j4];split at h1
    .rename_i s dE;split at h1
     .rename_i hh hu;simp only[j3]at h1;subst h1;simp only[outS];rw[zM _ _ _ _ hu]
     .simp at h1
    .simp at h1
  cases p with
  |none=>exact hx e h1
  |some q=>
   cases e with
   |normal=>
    dsimp only at h1 ⊢
    split at h1
    .rename_i s dE;split at h1
     .rename_i hh hu;simp only[j3]at h1;subst h1;simp only[outS];rw[<-uz hu]
     .simp at h1
    .simp at h1
   |exit i=>exact hx _ h1
   |ret=>exact hx _ h1
theorem Qw{E:Env}(hF:CFun E.C)(hz:E.nz=false)(hL:LFun E.L/\MFun E.M){c:Code}{d:h9}(hs:∀h,dk E d.b c (br E.np (E.keep d.b) (pack d.ps d.ts h)) (uk E d)=d.step h)(h:HL d.ts)(r:HL d.ts ⊕ XT d.exits):d.step h=some r->
  rE E d.b c (pack d.ps d.ts h)=some (match r with|.inl a=> .inl (pack d.ps d.ts a)|.inr x=> .inr (mA d.exits x)):=by
 intro hr;obtain⟨o,ho⟩:=xj hF hz hL c d.b (br E.np (E.keep d.b) (pack d.ps d.ts h));rw[<-hs h]at hr;have h1:some r=_:=hr.symm.trans (ho _ (λz=>uk E d z.1 z.2));cases o with
 |none=>simp at h1
 |some z=>
  obtain⟨e,σ⟩:=z;simp only[j0]at h1
  have h2:=ho _ (λz:Ex×St=>match z.1 with
   |.normal=>match eM E.np (E.keep d.b) z.2 with
    |some s'=>some (Sum.inl s')
    |none=>none
   |e=>match eM E.np (E.keepX d.b e) z.2 with
    |some s'=>some (Sum.inr (e,s'))
    |none=>none)
  have h3:rE E d.b c (pack d.ps d.ts h)=_:=h2;rw[h3,j0];clear h3 h2 hr ho;dsimp only;have h1:=h1.symm;unfold uk at h1;cases e with
  |normal=>
   dsimp only at h1 ⊢
   split at h1
   .rename_i s dE;split at h1
    .rename_i hh hu;simp only[j3]at h1;subst h1;dsimp only;rw[<-uz hu]
    .simp at h1
   .simp at h1
  |exit i=>
   dsimp only at h1 ⊢
   split at h1
   .rename_i s dE;split at h1
    .rename_i hh hu;simp only[j3]at h1;subst h1;dsimp only;rw[zM _ _ _ _ hu]
    .simp at h1
   .simp at h1
  |ret=>
   dsimp only at h1 ⊢
   split at h1
   .rename_i s dE;split at h1
    .rename_i hh hu;simp only[j3]at h1;subst h1;dsimp only;rw[zM _ _ _ _ hu]
    .simp at h1
   .simp at h1
theorem Qx{E:Env}(hF:CFun E.C)(hz:E.nz=false)(hL:LFun E.L/\MFun E.M){c:Code}{d:h9}(hs:zN E c d)
  (he:∀s R k,E.L d.b s R k=match mz d.ps d.ts s with|some h=>(loopOpt d.step h).bind λx=>xq d.exits x k|none=>none):wK E d.b c:=by
 intro s R k r h;rw[he]at h;split at h
 .rename_i hl hu;cases hq:loopOpt d.step hl with
  |none=>simp[hq]at h
  |some x=>
   rw[hq,j0,D2]at h;obtain⟨n,hn⟩:=xp hq;refine⟨n,(mA d.exits x).1,(mA d.exits x).2,?_,h⟩;rw[uz hu]
   exact I3 (f:=Bm E d.b c) (p:=pack d.ps d.ts) (q:=mA d.exits) (λa r hr=>by
    cases c with
    |rangeFunc g ps x y=>have:=Qv hF hz hL hs a r hr;cases r<;>exact this
    |_=>have:=Qw hF hz hL hs a r hr;cases r<;>exact this) hn
 .simp at h
def lpAt(c:Code)(j:Nat):Code:=((dz 0 c).getD j (0,.skip)).2
def qK(E:Env)(c:Code):Nat->List h9->Prop
 |_,[]=>True
 |j,d::ds=>zN E (lpAt c j) d/\qK E c (j+1) ds
theorem qK.get{E:Env}{c:Code}:∀{ds:List h9}{i j:Nat}{d:h9},qK E c i ds->ds[j]? = some d->zN E (lpAt c (i+j)) d
 |[],_,_,_,_,h=>by simp at h
 |x::xs,i,0,d,hs,h=>by simp at h;subst h;exact hs.1
 |x::xs,i,j+1,d,hs,h=>by
  have:=qK.get (i:=i+1) (j:=j) hs.2 (by simpa using h);rwa[show i+(j+1)=i+1+j by omega]
theorem I7:∀{ds:List h9}{j:Nat}{d:h9},iS (ds.map (·.b))=true->ds[j]? = some d->∀s R k,qJ ds d.b s R k=match mz d.ps d.ts s with|some h=>(loopOpt d.step h).bind λx=>xq d.exits x k|none=>none
 |[],_,_,_,h=>by simp at h
 |x::xs,0,d,_,h=>by simp at h;subst h;intro s R k;simp only[qJ,if_true]
 |x::xs,j+1,d,hn,h=>by
  simp only[qi,iS,j9,ke,kg,kb]at hn;have hm:d∈xs:=jv (by simpa using h);have aG:x.b≠d.b:=λe=>hn.1 (e▸k9.2 ⟨d,hm,rfl⟩);intro s R k;simp only[qJ,aG,qj];exact I7 (j:=j) hn.2 (by simpa using h) s R k
theorem Qy{E:Env}(hF:CFun E.C)(hz:E.nz=false){c:Code}{ds:List h9}(hE:E.L=qJ ds)(hm:(dz 0 c).map (·.1)=ds.map (·.b))(hn:iS (ds.map (·.b))=true)(hs:qK E c 0 ds){ms:List MrD}(wW:E.mr=mrF ms)(hM:E.M=mrL ms)(qL:sP E c ms) :
  ∀x∈dz 0 c,wK E x.1 x.2/\MrOK E x.1 x.2:=by
 intro x hx;have I8:LFun E.L/\MFun E.M:=⟨hE▸D3 ds,hM▸D4 ms⟩;have ck:((dz 0 c).map (·.1)).Nodup:=hm▸rW hn;refine⟨?_,Qs hF hz I8 wW hM λd hd hb=>?_⟩
 rotate_left
 .have:=qL.get d hd;unfold mrAt at this;rw[hb,I6 ck hx]at this;exact this
 obtain⟨j,hj⟩:=qf.1 hx;have sy:(ds.map (·.b))[j]? = some x.1:=by rw[<-hm];simp[hj]
 rw[ko]at sy;cases hd:ds[j]? with
 |none=>simp[hd]at sy
 |some d=>
  simp only[hd,ki,j3]at sy;have h1:=qK.get hs hd;rw[ju]at h1;have h2:lpAt c j=x.2:=by simp[lpAt,List.getD,hj]
  rw[h2]at h1;have:=Qx (E:=E) hF hz I8 h1 (λs R k=>by rw[hE];exact I7 hn hd s R k);rwa[sy]at this
inductive VPat where
 |v (t:Ty)
 |own (e:Nat) (t:Ty)
 |box (ts:List Ty)
 |hd
 |vn (t:Ty) (ns:List Nat)
 |clo (f:Nat) (caps:List CPat)
 |so (ls:List (Option Nat×Ty))
 |raw (ns:List Nat) (ps:List IPat)
 deriving DecidableEq
inductive OPat where
 |ref (ts:List Ty)
 |rl (t:Ty)
 deriving DecidableEq
def rlP:RL->(Option Nat×Ty)×TV
 |.d x=>((none,x.t),x)
 |.own e x=>((some e,x.t),x)
def rlsF:List (Option Nat×Ty)->List TV->List RL
 |[],_=>[]
 |(none,_)::ps,xs=> .d (xs.headD tv0)::rlsF ps xs.tail
 |(some e,_)::ps,xs=> .own e (xs.headD tv0)::rlsF ps xs.tail
theorem D6:∀(ls:List RL)(r:List TV),rlsF (ls.map λl=>(rlP l).1) ((ls.map λl=>(rlP l).2)++r)=ls
 |[],r=>rfl
 |.d x::ls,r=>by
  have:=D6 ls r;show RL.d _::rlsF _ (_++r)=_;rw[this];rfl
 |.own e x::ls,r=>by
  have:=D6 ls r;show RL.own e _::rlsF _ (_++r)=_;rw[this];rfl
def zO:List IPat->Nat
 |[]=>0
 |c::cs=>c.n+zO cs
theorem D7:∀(cs:Snap)(r:List TV),sO (hZ cs).1 ((hZ cs).2++r)=cs/\zO (hZ cs).1=(hZ cs).2.length
 |[],r=>⟨rfl,rfl⟩
 |c::cs,r=>by
  simp only[hZ,sO,zO,jd,ja];have h1:=IZ c ((hZ cs).2++r);have h2:=D7 cs r;rw[h1.1,h1.2,qy,h2.1,h2.2];exact⟨rfl,rfl⟩
def rvP:RV->VPat×List TV
 |.v x=>(.v x.t,[x])
 |.own e x=>(.own e x.t,[x])
 |.box ls=>(.box (ls.map (·.t)),ls)
 |.hd n=>(.hd,[⟨.int .i64,(n:Int)⟩])
 |.vn x ns=>(.vn x.t ns,[x])
 |.clo f caps=>(.clo f (jJ caps).1,(jJ caps).2)
 |.so ls=>(.so (ls.map λl=>(rlP l).1),ls.map λl=>(rlP l).2)
 |.raw ns s=>(.raw ns (hZ s).1,(hZ s).2)
def VPat.n:VPat->Nat
 |.v _=>1
 |.own _ _=>1
 |.box ts=>ts.length
 |.hd=>1
 |.vn _ _=>1
 |.clo _ cs=>uy cs
 |.so ls=>ls.length
 |.raw _ ps=>zO ps
def rvF:VPat->List TV->RV
 |.v _,xs=> .v (xs.headD tv0)
 |.own e _,xs=> .own e (xs.headD tv0)
 |.box ts,xs=> .box (xs.take ts.length)
 |.hd,xs=> .hd (DZ (xs.headD tv0))
 |.vn _ ns,xs=> .vn (xs.headD tv0) ns
 |.clo f cs,xs=> .clo f (uw cs xs)
 |.so ls,xs=> .so (rlsF ls xs)
 |.raw ns ps,xs=> .raw ns (sO ps xs)
theorem Qz(c:RV)(r:List TV):rvF (rvP c).1 ((rvP c).2++r)=c/\(rvP c).1.n=(rvP c).2.length:=by
 cases c with
 |v x=>exact⟨rfl,rfl⟩
 |own e x=>exact⟨rfl,rfl⟩
 |hd n=>exact⟨rfl,rfl⟩
 |vn x ns=>exact⟨rfl,rfl⟩
 |box ls=>simp[rvP,rvF,VPat.n]
 |clo f cs=>have:=zJ cs r;simp only[rvP,rvF,VPat.n];exact⟨by rw[this.1],this.2⟩
 |so ls=>exact⟨by simp only[rvP,rvF];rw[D6],by simp[rvP,VPat.n]⟩
 |raw ns s=>exact⟨by simp only[rvP,rvF];rw[(D7 s r).1],(D7 s r).2⟩
def outP:Out->OPat×List TV
 |.ref ls=>(.ref (ls.map (·.t)),ls)
 |.rl x=>(.rl x.t,[x])
def OPat.n:OPat->Nat
 |.ref ts=>ts.length
 |.rl _=>1
def outF:OPat->List TV->Out
 |.ref ts,xs=> .ref (xs.take ts.length)
 |.rl _,xs=> .rl (xs.headD tv0)
theorem QA(c:Out)(r:List TV):outF (outP c).1 ((outP c).2++r)=c/\(outP c).1.n=(outP c).2.length:=by
 cases c with
 |rl x=>exact⟨rfl,rfl⟩
 |ref ls=>simp[outP,outF,OPat.n]
def rvsP:List RV->List VPat×List TV
 |[]=>([],[])
 |c::cs=>((rvP c).1::(rvsP cs).1,(rvP c).2++(rvsP cs).2)
def rvsF:List VPat->List TV->List RV
 |[],_=>[]
 |c::cs,xs=>rvF c xs::rvsF cs (xs.drop c.n)
def rvsN:List VPat->Nat
 |[]=>0
 |c::cs=>c.n+rvsN cs
theorem D8:∀(cs:List RV)(r:List TV),rvsF (rvsP cs).1 ((rvsP cs).2++r)=cs/\rvsN (rvsP cs).1=(rvsP cs).2.length
 |[],r=>⟨rfl,rfl⟩
 |c::cs,r=>by
  simp only[rvsP,rvsF,rvsN,jd,ja];have h1:=Qz c ((rvsP cs).2++r);have h2:=D8 cs r;rw[h1.1,h1.2,qy,h2.1,h2.2];exact⟨rfl,rfl⟩
def qM:List Out->List OPat×List TV
 |[]=>([],[])
 |c::cs=>((outP c).1::(qM cs).1,(outP c).2++(qM cs).2)
def zP:List OPat->List TV->List Out
 |[],_=>[]
 |c::cs,xs=>outF c xs::zP cs (xs.drop c.n)
theorem I9:∀(cs:List Out)(r:List TV),zP (qM cs).1 ((qM cs).2++r)=cs
 |[],r=>rfl
 |c::cs,r=>by
  simp only[qM,zP,jd];have h1:=QA c ((qM cs).2++r);rw[h1.1,h1.2,qy,I9 cs r]
structure RPat where
 vs:List VPat
 os:List OPat
 deriving DecidableEq
def xr(rp:RPat)(ts:List Ty)(h:HL ts):Ret:=⟨rvsF rp.vs (ofHL ts h),zP rp.os ((ofHL ts h).drop (rvsN rp.vs))⟩
def zQ(rp:RPat)(ts:List Ty)(r:Ret):Option (HL ts):=
 if (rvsP r.vals).1=rp.vs/\(qM r.outs).1=rp.os then toHL ts ((rvsP r.vals).2++(qM r.outs).2) else none
theorem QB{rp:RPat}{ts:List Ty}{r:Ret}{h:HL ts}(hs:zQ rp ts r=some h):r=xr rp ts h:=by
 unfold zQ at hs;split at hs
 .rename_i hp;have:=zI hs;unfold xr;rw[<-this,<-hp.1,<-hp.2,(D8 r.vals _).1,(D8 r.vals []).2,qy];have h2:=I9 r.outs [];rw[jw]at h2;rw[h2]
 .simp at hs
structure Con where
 f:Nat
 ps:List APat
 ts:List Ty
 rp:RPat
 rs:List Ty
 F:HL ts->Option (HL rs)
def Con.C(c:Con)(args:List Arg)(R:Type)(k:Ret->Option R):Option R:=
 match zL c.ps c.ts args with
 |some h=>(c.F h).bind λx=>k (xr c.rp c.rs x)
 |none=>none
def Con.OK(P:Program)(c:Con):Prop:=FnOK P c.f c.C
def conC:List Con->Nat->List Arg->(R:Type)->(Ret->Option R)->Option R
 |[],_,_,_,_=>none
 |c::cs,f,args,R,k=>if c.f=f then (if (oP args).1=c.ps then c.C args R k else conC cs f args R k) else conC cs f args R k
theorem QC{P:Program}{f:Nat}:FnOK P f (λ_ _ _=>none):=by
 intro args R k r h;simp at h
def zR(P:Program):List Con->Prop
 |[]=>True
 |c::cs=>c.OK P/\zR P cs
theorem Ja{P:Program}:∀cs:List Con,zR P cs->gn P (conC cs)
 |[],_,_=>QC
 |c::cs,h,f=>by
  have ih:=Ja cs h.2 f;intro args R k r hk;simp only[conC]at hk;split at hk
  .rename_i hf;subst hf;split at hk
   .exact h.1 args R k r hk
   .exact ih args R k r hk
  .exact ih args R k r hk
theorem Jb:∀cs:List Con,CFun (conC cs)
 |[]=>λ_ _=>⟨none,λ_ _=>rfl⟩
 |c::cs=>λf args=>by
  have ih:=Jb cs f args;simp only[conC];split
  .split
   .unfold Con.C;split
    .rename_i h _;cases hq:c.F h with
     |none=>exact⟨none,λ_ _=>rfl⟩
     |some x=>exact⟨some (xr c.rp c.rs x),λ_ _=>rfl⟩
    .exact⟨none,λ_ _=>rfl⟩
   .exact ih
  .exact ih
def Jc:List (Nat×Keep)->Nat->Keep
 |[],_=>⟨[],[],[],[]⟩
 |x::r,b=>if x.1=b then x.2 else Jc r b
def Jd:List (Nat×Ex×Keep)->Nat->Ex->Keep
 |[],_,_=>⟨[],[],[],[]⟩
 |x::r,b,e=>if x.1=b/\x.2.1=e then x.2.2 else Jd r b e
def Jf:List (Nat×List Bool)->Nat->List Bool
 |[],_=>[]
 |x::r,b=>if x.1=b then x.2 else Jf r b
def dwL:List (Nat×List (List Nat))->Nat->List (List Nat)
 |[],_=>[]
 |x::r,b=>if x.1=b then x.2 else dwL r b
def bwL:List (Nat×(Bool×Ty))->Nat->Option (Bool×Ty)
 |[],_=>none
 |x::r,f=>if x.1=f then some x.2 else bwL r f
def zS(P:Program):List (Nat×(Bool×Ty))->Prop
 |[]=>True
 |x::r=>BwK P x.1 x.2/\zS P r
theorem Jg{P:Program}:∀{l:List (Nat×(Bool×Ty))},zS P l->∀f t,bwL l f=some t->BwK P f t
 |[],_,f,t,h=>by simp[bwL]at h
 |x::r,hl,f,t,h=>by
  simp only[bwL]at h;split at h
  .rename_i e;simp only[j3]at h;rw[<-e,<-h];exact hl.1
  .exact Jg hl.2 f t h
structure FnD where
 N:Nat
 np:Nat
 cs:List Con
 ds:List h9
 modes:List (Nat×List Bool):=[]
 keep:List (Nat×Keep):=[]
 keepX:List (Nat×Ex×Keep):=[]
 ro:List Bool:=[]
 dw:List (Nat×List (List Nat)):=[]
 hd:Bool:=false
 ns:List Nat:=[]
 bw:List (Nat×(Bool×Ty)):=[]
 so:List SoK:=[]
 cr:List Nat:=[]
 un:List Nat:=[]
 pre:List (Nat×List Gh):=[]
 rw:Bool:=false
 rn:List Nat:=[]
 b1:List Nat:=[]
 ks:List Nat:=[]
 ms:List MrD:=[]
 mvf:List Nat:=[]
def preL:List (Nat×List Gh)->Nat->List Gh
 |[],_=>[]
 |x::r,i=>if x.1=i then x.2 else preL r i
def FnD.env(d:FnD)(T:List (Option TyI)):Env:=⟨⟨d.N,λ_=>false⟩,d.np,tab T,conC d.cs,Jf d.modes,qJ d.ds,Jc d.keep,Jd d.keepX,d.ro,dwL d.dw,false,d.hd,d.ns,bwL d.bw,d.so,d.cr,λb=>d.un.contains b,preL d.pre,d.rw,d.rn,d.b1,λi=>d.ks.contains i,λf=>d.mvf.contains f,mrF d.ms,mrL d.ms⟩
theorem QD{P:Program}{T:List (Option TyI)}(hT:bt P (tab T))(eG:P.follows .mixedOrders=true)(d:FnD)(fC:Con)(fn:Func)(c:Code)(hf:P.funcs[fC.f]? = some fn)(hb:fn.body=some c)
  (hN : fn.ntmps = d.N) (xh : d.np ≤ d.N) (bD : (fn.name == "runtime.NumGoroutine") = false) (cp : zR P d.cs) (hm : (dz 0 c).map (·.1) = d.ds.map (·.b)) (hn : iS (d.ds.map (·.b)) = true)
  (hs:qK (d.env T) c 0 d.ds)(hF:∀h,pq (d.env T) fn (nA fC.ps fC.ts h) (zQ fC.rp fC.rs)=fC.F h)(eF:zS P d.bw:=by trivial)(qL:sP (d.env T) c d.ms:=by trivial):fC.OK P:=by
 have hC:gn P (d.env T).C:=Ja d.cs cp;have sQ:CFun (d.env T).C:=Jb d.cs;have hL:LFun (d.env T).L/\MFun (d.env T).M:=⟨D3 d.ds,D4 d.ms⟩;have vX:=P4 (E:=d.env T) hT hC sQ eG hf hb hN rfl (Jg eF) xh bD (Qy sQ rfl rfl hm hn hs rfl rfl qL);intro args R k r hk;unfold Con.C at hk;split at hk
 .rename_i h hu;rw[Qm hu];cases hq:fC.F h with
  |none=>simp[hq]at hk
  |some x=>
   rw[hq,j0]at hk;refine vX _ R k r ?_;obtain⟨o,ho⟩:=Qh sQ rfl hL fn (nA fC.ps fC.ts h);have h1:some x=_:=((hF h).trans hq).symm.trans (ho _ _);cases o with
   |none=>simp at h1
   |some ret=>rw[j0]at h1;show pq (d.env T) fn (nA fC.ps fC.ts h) k=some r;refine(ho _ _).trans ?_;rw[j0,QB h1.symm];exact hk
 .simp at hk
theorem cOf{P:Program}{T:List (Option TyI)}(hT:bt P (tab T))(eG:P.follows .mixedOrders=true)(d:FnD)(fC:Con){fn:Func}(hf:P.funcs[fC.f]? = some fn)(cp:zR P d.cs)
  (hs:qK (d.env T) (fn.body.getD .skip) 0 d.ds)(eF:zS P d.bw:=by trivial)(hb:fn.body=some (fn.body.getD .skip):=by kernel_rfl)(hN:fn.ntmps=d.N:=by kernel_rfl)
  (xh : Nat.ble d.np d.N = true := by kernel_rfl) (bD : (fn.name == "runtime.NumGoroutine") = false := by kernel_rfl) (hm : (dz 0 (fn.body.getD .skip)).map (·.1) = d.ds.map (·.b) := by kernel_rfl)
  (hn:iS (d.ds.map (·.b))=true:=by kernel_rfl)(hF:∀h,pq (d.env T) fn (nA fC.ps fC.ts h) (zQ fC.rp fC.rs)=fC.F h:=by intro h;kernel_rfl)(qL:sP (d.env T) (fn.body.getD .skip) d.ms:=by trivial):fC.OK P:=
 QD hT eG d fC fn _ hf hb hN (qr xh) bD cp hm hn hs hF eF qL
def ia{α β:Type}(B:(α->Option β)->α->Option β):Nat->α->Option β
 |0,_=>none
 |n+1,a=>B (ia B n) a
open Classical in
def qN{α β:Type}(B:(α->Option β)->α->Option β)(a:α):Option β:=
 if h:∃x n,ia B n a=some x then some h.choose else none
theorem QE{α β:Type}{B:(α->Option β)->α->Option β}{a:α}{x:β}(h:qN B a=some x):∃n,ia B n a=some x:=by
 unfold qN at h;split at h
 .rename_i hx;simp only[j3]at h;obtain⟨m,hm⟩:=hx.choose_spec;exact⟨m,by rw[<-h];exact hm⟩
 .simp at h
theorem Jh{α β:Type}{B:(α->Option β)->α->Option β}{a:α}{x:β}(h1:∃n,ia B n a=some x)(h2:∀n y,ia B n a=some y->y=x):qN B a=some x:=by
 obtain⟨n,hn⟩:=h1;have hx:∃x n,ia B n a=some x:=⟨x,n,hn⟩;unfold qN;rw[dif_pos hx];obtain⟨m,hm⟩:=hx.choose_spec;rw[h2 m _ hm]
theorem QF{P:Program}{f:Nat}{ps:List APat}{ts:List Ty}{rp:RPat}{rs:List Ty}{B:(HL ts->Option (HL rs))->HL ts->Option (HL rs)}
  (dx:∀g,Con.OK P ⟨f,ps,ts,rp,rs,g⟩->Con.OK P ⟨f,ps,ts,rp,rs,B g⟩):Con.OK P ⟨f,ps,ts,rp,rs,qN B⟩:=by
 have all:∀n,Con.OK P ⟨f,ps,ts,rp,rs,ia B n⟩:=by
  intro n;induction n with
  |zero=>
   intro args R k r hk;unfold Con.C at hk;split at hk
   .simp[ia]at hk
   .simp at hk
  |succ n ih=>exact dx _ ih
 intro args R k r hk;unfold Con.C at hk;split at hk
 .rename_i h hu;cases hq:qN B h with
  |none=>simp[hq]at hk
  |some x=>obtain⟨n,hn⟩:=QE hq;refine all n args R k r ?_;unfold Con.C;rw[hu];dsimp only;rw[hn];dsimp only at hk;rw[hq]at hk;exact hk
 .simp at hk
def w64(x:Int):Int:=IntKind.wrap .i64 x
class LP where
 lp:{α β:Type}->(α->Option (α ⊕ β))->α->Option β
 rp:{α β:Type}->((α->Option β)->α->Option β)->α->Option β
noncomputable instance realLP:LP:=⟨loopOpt,qN⟩
abbrev bV(N:Nat):LP:=⟨λf a=>loopN f N a,λB a=>ia B N a⟩
theorem ak{x:Int}(h1 : -9223372036854775808<=x)(h2:x<=9223372036854775807):w64 x=x:=IntWalk.i64_in x ⟨h1,h2⟩
def lpK{α β:Type}(r:Option (α ⊕ β))(f:α->Option β):Option β:=match r with
 |none=>none
 |some (.inl s)=>f s
 |some (.inr x)=>some x
theorem bR{α β:Type}(s:α)(f:α->Option β):lpK (some (.inl s)) f=f s:=rfl
theorem bS{α β:Type}(x:β)(f:α->Option β):lpK (some (.inr x)) f=some x:=rfl
theorem ln{α β γ:Type}(x:β)(f:α->γ)(g:β->γ):sumC (.inr x) f g=g x:=rfl
theorem di{α β:Type}(f:α->Option (α ⊕ β))(s:α):loopOpt f s=lpK (f s) (loopOpt f):=by
 cases h:f s with
 |none=>
  cases hq:loopOpt f s with
  |none=>rfl
  |some x=>obtain⟨n,hn⟩:=xp hq;cases n<;>simp[loopN,h]at hn
 |some r=>
  cases r with
  |inl s'=>exact Qn h
  |inr x=>exact Qo h
section
variable{S0:an}{w0:World}{refs:Refs}
end
section
variable{S0:an}{w0:World}{refs:Refs}
def g3(σ:St):Option Int:=match σ.sl 3 with
 |.one (.one (.d (.int .i64) v))=>some v
 |_=>none
def g1(σ:St):Option (Bool×Int):=match σ.sl 8,σ.sl 3 with
 |.one (.one (.d .bool b)),.one (.one (.d (.int .i64) v))=>some (b,v)
 |_,_=>none
end
section
variable{P:Program}{E:Env}{ops pre:Array Oper}{cl:List Nat}{τ:Nat->St}{S0:an}{w0:World}{refs:Bool->Refs}
end
section
variable{S0:an}{w0:World}{refs:Refs}
def g7(σ:St):Option (Bool×Int):=match σ.sl 7,σ.sl 3 with
 |.one (.one (.d .bool b)),.one (.one (.d (.int .i64) v))=>some (b,v)
 |_,_=>none
theorem Grew.trans{w w' mV:World}(h:Grew w w')(h':Grew w' mV):Grew w mV:=
 ⟨λg hg=>(h'.old g (q9 hg h.size)).trans (h.old g hg),qg h.size h'.size,h'.os.trans h.os,h'.tape.trans h.tape,h'.output.trans h.output⟩
end
open Go.RowKit Go.WideShapes Go.ChangeShapes
theorem QG{P:Program}{f:Nat}{ps:List APat}{ts:List Ty}{F:HL ts->Option Bool}(aM:Con.OK P ⟨f,ps,ts,⟨[.v .bool],[]⟩,[.bool],F⟩)(h:HL ts)(hF:F h=some true)
  (w:World)(S:an)(vals:List Value)(ha:All2 (kC S w) (nA ps ts h) vals)(hr:cH (nA ps ts h) vals=[])(hS:∀g o,S g o->g<w.heap.size)(hu:zL ps ts (nA ps ts h)=some h) :
  Calls P f vals.toArray w λe w'=>e = .returned (.bool true)/\Below w.heap.size w w':=by
 have:=(aM (nA ps ts h) Ret some (xr ⟨[.v .bool],[]⟩ [.bool] true) (by
  unfold Con.C;rw[hu];show (F h).bind _=_;rw[hF];rfl)).2
 refine(this w S vals ha (by rw[hr];exact List.nodup_nil) hS).mono ?_
 rintro e w' ⟨ret,aW,v,S',vs,rfl,aM⟩
 simp only[j3]at aW;subst aW;have aH:All2 (lb S' w') [.v ⟨.bool,true⟩] vs:=aM.rep;refine⟨?_,aM.os,aM.tape,aM.output,aM.grow,λk hk=>aM.below k hk (by rw[hr];simp)⟩;rw[aM.val];match vs,aH with
 |[u],aH=>have h1:=aH.1;have h2:u.cells.toList=[.bool true]/\(ff Ty.bool=true->∃cs,u=Value.agg cs)/\(ff Ty.bool=false->One u):=h1;have h3:=tL (h2.2.2 rfl);rw[h2.1]at h3;simp only[List.cons.injEq,and_true]at h3;rw[<-h3];rfl
 |[],aH=>exact absurd aH (by simp[All2])
 |_::_::_,aH=>exact absurd aH (by simp[All2])
theorem jdW{H:Type}{enc:TypeId×Value->H}{P:Program}{f:Func}{s:ChangeSpec}{apart fresh handsOn again:Bool}{W W':World}{args:Array Value}{v:Value}{ds gs:List (DataW H)}{before pa pv:List MemPlace}
  (hW:DataW.Whole enc P f.params.toList s.vars apart W args.toList ds gs before)
  (oM:∀(b:Nat)(sp:Nat->Bool)(hd:Bool),DataW.TrodAll enc P W' b sp hd f.resultTypes.toList (v.resultList f.resultTypes.size) (s.fn H (ds++gs)).results [])
  (bB:∀sp:Nat->Bool,(∀p∈before,sp p.block=true)->DataW.TrodAll enc P W' 0 sp true f.params.toList args.toList (s.fn H (ds++gs)).args pa)
  (qO:∀sp:Nat->Bool,(∀p∈before,sp p.block=true)->DataW.TrodVars enc P W' sp s.vars (s.fn H (ds++gs)).vars pv)
  (fk:before=pa++pv)(hb:Below W.heap.size W W')
  (aM:∀(j:Nat)(t:TypeId)(r:Value),f.resultTypes[j]? = some t->(v.resultList f.resultTypes.size)[j]? = some r->Value.okWide P W' .any 0 t r) :
  s.post enc P f apart fresh handsOn again W args v W':=by
 have ax:∀p∈before,p.block<W.heap.size:=λp hp=>hW.lt p hp;have hold:∀p∈before,(λb=>decide (b<W.heap.size)) p.block=true:=λp hp=>by simpa using ax p hp
 refine⟨ds,gs,before,[],pa,pv,hW,oM _ _ _,bB _ hold,qO _ hold,World.keptBut_mono (λp hp=>⟨hp,?_⟩) (hb.frame (· ∈ before)),λ_=>?_⟩
 .rw[fk,jq]at hp;exact Or.inr hp
 .obtain⟨_,_,_,_,_,hz,hn⟩:=hW;refine⟨aM,_,_,([]++pa)++pv,⟨[]++pa,pv,trodAll_append (bB _ (λ_ _=>rfl)) (oM _ _ _),qO _ (λ_ _=>rfl),rfl,?_,?_⟩,?_⟩
  .intro b off hp;have kA:MemPlace.cell b off∈before:=by rw[fk];simpa using hp
   rw[hb.frozen (ax _ kA)];exact hz b off kA
  .intro ha;have:=hn ha;rw[fk]at this;simpa using this
  .intro p hp _;rw[fk];simpa using hp
open Go.RowKit Go.WideShapes Go.ChangeShapes
def qP(P:Program)(f:TypeId->Ty->Bool):List Field->Nat->Ty->Bool
 |[],_,_=>false
 |[x],off,b=>decide (x.offset=off)&&decide (P.cellsOf x.type=b.size)&&f x.type b
 |x::y::r,off,.pair a b=>decide (x.offset=off)&&decide (P.cellsOf x.type=a.size)&&f x.type a&&qP P f (y::r) (off+a.size) b
 |_,_,_=>false
def kO(P:Program):Nat->TypeId->Ty->Bool
 |0,_,_=>false
 |n+1,t,ty=>match P.underlying t with
  |some (.int k)=>decide (ty = .int k)
  |some .bool=>decide (ty = .bool)
  |some .string=>decide (ty = .str)
  |some (.slice e)=>match ty with
   |.list a=>kO P n e a&&decide (P.cellsOf e=a.size)&&decide (0<a.size)
   |_=>false
  |some (.struct fs)=>decide (P.cellsOf t=ty.size)&&match fs.toList,ty with
   |[x],.wrap a=>qP P (kO P n) [x] 0 a
   |x::y::r,.pair a b=>qP P (kO P n) (x::y::r) 0 (.pair a b)
   |_,_=>false
  |_=>false
def Wf:(t:Ty)->t.den->Prop
 |.int k,n=>(Lit.int k n).wf=true
 |.bool,_=>True
 |.str,s=>s.size<=maxLen
 |.unit,_=>True
 |.wrap a,v=>Wf a v
 |.pair a b,v=>Wf a v.1/\Wf b v.2
 |.list a,xs=>List.length xs<=maxLen/\∀x∈(show List a.den from xs),Wf a x
 |.arr _ _,_=>True
theorem zT{α β:Type}{f:α->Option β}:∀{l:List α}{ys:List β},l.mapM f=some ys->ys.length=l.length/\∀(i:Nat)(x:α),l[i]? = some x->∃y,ys[i]? = some y/\f x=some y
 |[],ys,h=>by
  simp at h;subst h;exact⟨rfl,λi x hx=>by simp at hx⟩
 |a::l,ys,h=>by
  rw[qq]at h;cases ha:f a with
  |none=>simp[ha]at h
  |some y=>
   cases hl:l.mapM f with
   |none=>simp[ha,hl]at h
   |some zs=>
    simp[ha,hl]at h;subst h;obtain⟨h1,h2⟩:=zT hl;refine⟨by simp[h1],λi x hx=>?_⟩;cases i with
    |zero=>simp at hx;subst hx;exact⟨y,rfl,ha⟩
    |succ i=>simp at hx;obtain⟨z,hz,hf⟩:=h2 i x hx;exact⟨z,by simpa using hz,hf⟩
theorem Ji{α β:Type}{f:α->Option β}:∀{l:List α}{ys:List β},ys.length=l.length->(∀(i:Nat)(x:α),l[i]? = some x->f x=ys[i]?)->l.mapM f=some ys
 |[],ys,h,_=>by
  have:ys=[]:=jp (by simpa using h);subst this;rfl
 |a::l,[],h,_=>by simp at h
 |a::l,y::ys,h,hg=>by
  have h0:f a=some y:=by simpa using hg 0 a rfl
  rw[qq,h0,Ji (ys:=ys) (by simpa using h) (λi x hx=>by simpa using hg (i+1) x (by simpa using hx))];rfl
theorem zU{α β:Type}{f g:α->Option β}:∀{l:List α}{ys:List β},l.mapM f=some ys->(∀x∈l,∀y,y∈ys->f x=some y->g x=some y)->l.mapM g=some ys
 |[],ys,h,_=>by simpa using h
 |a::l,ys,h,hk=>by
  rw[qq]at h ⊢;cases ha:f a with
  |none=>simp[ha]at h
  |some y=>
   cases hl:l.mapM f with
   |none=>simp[ha,hl]at h
   |some zs=>simp[ha,hl]at h;subst h;rw[hk a (by simp) y (by simp) ha,zU hl (λx hx z hz hf=>hk x (by simp[hx]) z (by simp[hz]) hf)];rfl
theorem Jj{α:Type}{Q:Nat->α->Prop}:∀n,(∀i,i<n->∃x,Q i x)->∃xs:List α,xs.length=n/\∀i x,xs[i]? = some x->Q i x
 |0,_=>⟨[],rfl,λi x h=>by simp at h⟩
 |n+1,h=>by
  obtain⟨xs,hl,hx⟩:=Jj n (λi hi=>h i (by omega));obtain⟨x,hq⟩:=h n (by omega);refine⟨xs++[x],by simp[hl],λi y hy=>?_⟩;rcases qc i n with hi|hi
  .rw[List.getElem?_append_left (by omega)]at hy;exact hx i y hy
  .have:i=n:=by have:=(jk.1 hy).1;simp[hl]at this;omega
   subst this;rw[jx (by omega),hl,Nat.sub_self]at hy;simp at hy;subst hy;exact hq
theorem Jk{α β:Type}{R:α->β->Prop}:∀{as:List α}{bs:List β},as.length=bs.length->(∀(i:Nat)(a:α)(b:β),as[i]? = some a->bs[i]? = some b->R a b)->All2 R as bs
 |[],[],_,_=>trivial
 |a::as,b::bs,hl,h=>⟨h 0 a b rfl rfl,Jk (by simpa using hl) λi x y hx hy=>h (i+1) x y (by simpa using hx) (by simpa using hy)⟩
 |[],_::_,hl,_=>by simp at hl
 |_::_,[],hl,_=>by simp at hl
theorem Jl{m:Nat}:∀{css:List (List Value)},(∀c∈css,c.length=m)->∀{j:Nat}{v:Value},css.flatten[j]? = some v->∃i r c,j=i*m+r/\r<m/\css[i]? = some c/\c[r]? = some v
 |[],_,j,v,h=>by simp at h
 |c::css,hl,j,v,h=>by
  simp only[km]at h;have hc:=hl c (by simp);rcases qc j c.length with hj|hj
  .rw[List.getElem?_append_left hj]at h;exact⟨0,j,c,by omega,by omega,rfl,h⟩
  .rw[jx hj]at h;obtain⟨i,r,c',e,hr,hi,hv⟩:=Jl (λx hx=>hl x (by simp[hx])) h;exact⟨i+1,r,c',by rw[Nat.add_mul];omega,hr,by simpa using hi,hv⟩
def Ext(W W':World):Prop:=∀(k:Nat) x,W.heap[k]? = some x->W'.heap[k]? = some x
theorem Ext.cell{W W':World}(h:Ext W W'){a:Addr}{v:Value}(hc:W.cell? a=some v):W'.cell? a=some v:=by
 unfold World.cell? at hc ⊢;split at hc
 .rename_i c _ _ hb;rw[h _ _ hb];exact hc
 .simp at hc
theorem Ext.cells{W W':World}(h:Ext W W'){a:Addr}{n:Nat}{cs:List Value}(hc:W.cells? 0 a n=some cs):W'.cells? 0 a n=some cs:=by
 unfold World.cells? at hc ⊢;simp only[kf,if_true]at hc ⊢;exact zU hc λi _ y _ hf=>h.cell hf
theorem D9{W:World}{a:Addr}{n:Nat}{cs:List Value}(hc:W.cells? 0 a n=some cs):cs.length=n/\∀i v,cs[i]? = some v->W.cell? (a.add i)=some v:=by
 unfold World.cells? at hc;simp only[kf,if_true]at hc;obtain⟨h1,h2⟩:=zT hc;simp only[List.length_range]at h1;refine⟨h1,λi v hv=>?_⟩;have hi:i<n:=by rw[<-h1];exact(jk.1 hv).1
 obtain⟨y,hy,hf⟩:=h2 i i (by simp[hi]);rw[hv]at hy;simp at hy;subst hy;exact hf
theorem Jm{W:World}{a:Addr}{v:Value}(h:W.cell? a=some v):a.block<W.heap.size/\a.spot=none:=by
 unfold World.cell? at h;split at h
 .rename_i c _ _ hb;refine⟨(jb.1 hb).1,?_⟩;split at h
  .simp at h
  .rename_i hs;simpa using hs
 .simp at h
def oldS(W:World):an:=λg _=>g<W.heap.size
def xt{H:Type}(enc:TypeId×Value->H)(P:Program)(W:World)(held:Bool)(fuel:Nat)(t:TypeId)(ty:Ty)(cs:List Value)(d:DataW H)(ps:List MemPlace):Prop:=
 cs.length=ty.size/\(∃v:ty.den,Rep (oldS W) W ty v cs/\Wf ty v)/\
  ∀W' sp,Ext W W'->(∀q∈ps,sp q.block=true)->DataW.trod enc P W' 0 sp held fuel t cs=some (d,ps)
section
variable{H:Type}{enc:TypeId×Value->H}{P:Program}{W:World}{held:Bool}
theorem QH{a:Addr}{n:Nat}(hn:0<n):∃q∈MemPlace.row a n,q.block=a.block:=
 ⟨.cell a.block (a.off+0),k9.2 ⟨0,by simp[hn],rfl⟩,rfl⟩
theorem QI{n:Nat}{t e:TypeId}{el:Ty}(hu:P.underlying t=some (.slice e))(bb:P.cellsOf e=el.size)(bZ:0<el.size){fuel:Nat}{cs:List Value}{d:DataW H}{ps:List MemPlace}
  (ih:∀(m:Nat)(cs:List Value)(d:DataW H)(ps:List MemPlace),DataW.trod enc P W 0 (λ_=>true) held m e cs=some (d,ps)->xt enc P W held m e el cs d ps)
  (h:DataW.trod enc P W 0 (λ_=>true) held fuel t cs=some (d,ps)):xt enc P W held fuel t (.list el) cs d ps:=by
 cases fuel with
 |zero=>simp[DataW.trod]at h
 |succ m=>
  have h':=h;unfold DataW.trod at h;rw[hu]at h;split at h;all_goals (try (rename_i heq _;simp at heq;done))
  all_goals (try (rename_i heq;simp at heq;done))
  .rename_i heq;refine⟨rfl,⟨[],⟨none,0,rfl,jm _,kf _,λ_=>rfl,λb hb=>by simp at hb⟩,⟨kf _,by simp⟩⟩,λW' sp _ _=>?_⟩;unfold DataW.trod;rw[hu];exact h
  .rename_i e' a len cap heq;simp only[j3,TypeDesc.slice.injEq]at heq;subst heq;simp only[kf,kx,if_true]at h;split at h
   .rename_i hc;cases jW:(List.range len).mapM (λi=>(W.cells? 0 (a.add (i*P.cellsOf e)) (P.cellsOf e)).bind (DataW.trod enc P W 0 (λ_=>true) held m e)) with
    |none=>rw[jW]at h;simp at h
    |some elems=>
     rw[jW]at h;simp only[j0]at h;cases zV:(List.range (cap-len)).mapM (λj=>(W.cells? 0 (a.add ((len+j)*P.cellsOf e)) (P.cellsOf e)).bind (DataW.trod enc P W 0 (λ_=>true) held m e)) with
     |none=>rw[zV]at h;simp at h
     |some rest=>
      rw[zV]at h;simp only[ki,j3,j7]at h;obtain⟨rfl,rfl⟩:=h;obtain⟨l1,g1⟩:=zT jW;obtain⟨l2,g2⟩:=zT zV;simp only[List.length_range]at l1 l2
      have one:∀i y,(W.cells? 0 (a.add (i*P.cellsOf e)) (P.cellsOf e)).bind (DataW.trod enc P W 0 (λ_=>true) held m e)=some y->∃c,W.cells? 0 (a.add (i*P.cellsOf e)) (P.cellsOf e)=some c/\xt enc P W held m e el c y.1 y.2:=by
       intro i y hy;cases hc:W.cells? 0 (a.add (i*P.cellsOf e)) (P.cellsOf e) with
       |none=>rw[hc]at hy;simp at hy
       |some c=>rw[hc]at hy;exact⟨c,rfl,ih m c y.1 y.2 hy⟩
      refine⟨rfl,?_,?_⟩
      .have each:∀i,i<len->∃x:el.den×List Value,W.cells? 0 (a.add (i*P.cellsOf e)) (P.cellsOf e)=some x.2/\Rep (oldS W) W el x.1 x.2/\Wf el x.1:=by intro i hi;obtain⟨y,hy,hf⟩:=g1 i i (by simp[hi]);obtain⟨c,dP,_,⟨v,hv,hw⟩,_⟩:=one i y hf;exact⟨(v,c),dP,hv,hw⟩
       obtain⟨xs,kB,dQ⟩:=Jj len each;have xu:∀c∈xs.map (·.2),c.length=P.cellsOf e:=by intro c hc;obtain⟨x,hx,rfl⟩:=k9.1 hc;obtain⟨i,hi⟩:=qf.1 hx;exact(D9 (dQ i x hi).1).1
       refine⟨xs.map (·.1),?_,?_⟩
       .refine⟨some a,cap,by simp[kB],by simp[kB,hc.1],hc.2,by simp,λb hb=>?_⟩;simp only[j3]at hb;subst hb;have qQ:len≠0->a.spot=none:=by intro hl;obtain⟨x,hx⟩:∃x,xs[0]? = some x:=⟨xs[0],jt (by omega)⟩;obtain⟨k1,k2⟩:=D9 (dQ 0 x hx).1;obtain⟨v,hv⟩:∃v,x.2[0]? = some v:=⟨x.2[0],jt (by omega)⟩;have:=(Jm (k2 0 v hv)).2;simpa[Addr.add]using this
        refine⟨λaG=>qQ (λh0=>aG (by rw[List.map_eq_nil_iff];exact jp (by omega))),xs.map (·.2),Jk (by simp) (λi x c hx hc=>?_),λj v hv=>?_⟩
        .simp only[ko,Option.map_eq_some_iff]at hx hc;obtain⟨y,hy,rfl⟩:=hx;obtain⟨z,hz,rfl⟩:=hc;rw[hy]at hz;simp at hz;subst hz;exact(dQ i y hy).2.1
        .obtain⟨i,r,c,hj,hr,iw,lV⟩:=Jl xu hv;simp only[ko,Option.map_eq_some_iff]at iw;obtain⟨x,hx,rfl⟩:=iw;have cj:=(D9 (dQ i x hx).1).2 r v lV;have pA:i<len:=by rw[<-kB];exact(jk.1 hx).1
         have hs:=qQ (by omega);have rR:(a.add (i*P.cellsOf e)).add r=⟨a.block,a.off+j,none⟩:=by obtain⟨g,o,s⟩:=a;simp only at hs;subst hs;simp only[Addr.add];split<;>split<;>simp<;>omega
         rw[rR]at cj;exact⟨(Jm cj).1,cj⟩
       .refine⟨by simp only[qs,kB];omega,λx hx=>?_⟩;obtain⟨y,hy,rfl⟩:=k9.1 hx;obtain⟨i,hi⟩:=qf.1 hy;exact(dQ i y hi).2.2
      .intro W' sp hE bW
       have keep:∀i y,y∈elems++rest->(W.cells? 0 (a.add (i*P.cellsOf e)) (P.cellsOf e)).bind (DataW.trod enc P W 0 (λ_=>true) held m e)=some y->
         (W'.cells? 0 (a.add (i*P.cellsOf e)) (P.cellsOf e)).bind (DataW.trod enc P W' 0 sp held m e)=some y:=by
        intro i y hy hf;obtain⟨c,dP,_,_,hk⟩:=one i y hf;rw[hE.cells dP];exact hk W' sp hE (λq hq=>bW q (jz _ (List.mem_flatMap.2 ⟨y,hy,hq⟩)))
       unfold DataW.trod;rw[hu];simp only[kf,kx];rw[if_pos hc,zU jW (λi _ y hy hf=>keep i y (k7 _ hy) hf)];simp only[j0]
       have bK:(if sp a.block=true then (List.range (cap-len)).mapM (λj=>(W'.cells? 0 (a.add ((len+j)*P.cellsOf e)) (P.cellsOf e)).bind (DataW.trod enc P W' 0 sp held m e)) else some [])=some rest:=by
        split
        .exact zU zV (λj _ y hy hf=>keep (len+j) y (jz _ hy) hf)
        .rename_i QJ;rcases Nat.eq_zero_or_pos ((elems.length+rest.length)*P.cellsOf e) with h0|h0
         .have:rest=[]:=by
           rcases Nat.mul_eq_zero.1 h0 with h|h
           .exact jp (by omega)
           .omega
          rw[this]
         .obtain⟨q,hq,hb⟩:=QH (a:=a) h0;have:=bW q (k7 _ hq);rw[hb]at this;exact absurd this QJ
       rw[bK];rfl
   .simp at h
  .simp at h
theorem xv{n m:Nat}(ih:∀(t:TypeId)(ty:Ty),kO P n t ty=true->∀(cs:List Value)(d:DataW H)(ps:List MemPlace),DataW.trod enc P W 0 (λ_=>true) held m t cs=some (d,ps)->xt enc P W held m t ty cs d ps)(cs:List Value) :
  ∀(fs:List Field)(off:Nat)(ty:Ty)(xs:List (DataW H×List MemPlace)),qP P (kO P n) fs off ty=true->cs.length=off+ty.size->
   fs.mapM (λf=>DataW.trod enc P W 0 (λ_=>true) held m f.type ((cs.drop f.offset).take (P.cellsOf f.type)))=some xs->
   (∃v:ty.den,Rep (oldS W) W ty v (cs.drop off)/\Wf ty v)/\
    ∀W' sp,Ext W W'->(∀q∈xs.flatMap (·.2),sp q.block=true)->fs.mapM (λf=>DataW.trod enc P W' 0 sp held m f.type ((cs.drop f.offset).take (P.cellsOf f.type)))=some xs
 |[],_,_,_,hc,_,_=>by simp[qP]at hc
 |[f],off,ty,xs,hc,hl,hm=>by
  simp only[qP,j9,jg]at hc;obtain⟨⟨ho,hz⟩,hc⟩:=hc;rw[qq]at hm;cases hf:DataW.trod enc P W 0 (λ_=>true) held m f.type ((cs.drop f.offset).take (P.cellsOf f.type)) with
  |none=>simp[hf]at hm
  |some y=>simp[hf]at hm;subst hm;obtain⟨_,hv,hk⟩:=ih f.type ty hc _ y.1 y.2 hf;rw[ho,hz,List.take_of_length_le (by simp;omega)]at hv;refine⟨hv,λW' sp hE bW=>?_⟩;rw[qq,hk W' sp hE (λq hq=>bW q (by simpa using hq))];rfl
 |f::g::r,off,ty,xs,hc,hl,hm=>by
  cases ty with
  |pair a b=>
   simp only[qP,j9,jg]at hc;obtain⟨⟨⟨ho,hz⟩,hc⟩,hr⟩:=hc;rw[qq]at hm;cases hf:DataW.trod enc P W 0 (λ_=>true) held m f.type ((cs.drop f.offset).take (P.cellsOf f.type)) with
   |none=>simp[hf]at hm
   |some y=>
    cases bK:(g::r).mapM (λf=>DataW.trod enc P W 0 (λ_=>true) held m f.type ((cs.drop f.offset).take (P.cellsOf f.type))) with
    |none=>rw[hf,bK]at hm;simp at hm
    |some ys=>
     rw[hf,bK]at hm;simp at hm;subst hm;have iH:cs.length=off+(a.size+b.size):=hl;obtain⟨BX,⟨v,hv,hw⟩,hk⟩:=ih f.type a hc _ y.1 y.2 hf;obtain⟨⟨v2,Dk,qH⟩,et⟩:=xv ih cs (g::r) (off+a.size) b ys hr (by omega) bK;rw[ho,hz]at hv;refine⟨⟨(v,v2),⟨(cs.drop off).take a.size,cs.drop (off+a.size),?_,hv,Dk⟩,hw,qH⟩,λW' sp hE bW=>?_⟩
     .rw[<-zb,jy]
     .rw[qq,hk W' sp hE (λq hq=>bW q (by simp[hq])),et W' sp hE (λq hq=>bW q (by simp at hq ⊢;exact .inr hq))];rfl
  |_=>simp[qP]at hc
theorem Jn:∀(n:Nat)(t:TypeId)(ty:Ty),kO P n t ty=true->∀(fuel:Nat)(cs:List Value)(d:DataW H)(ps:List MemPlace),DataW.trod enc P W 0 (λ_=>true) held fuel t cs=some (d,ps)->
  xt enc P W held fuel t ty cs d ps
 |0,_,_,hc,_,_,_,_,_=>by simp[kO]at hc
 |n+1,t,ty,hc,fuel,cs,d,ps,h=>by
  have ih:=Jn n;cases fuel with
  |zero=>simp[DataW.trod]at h
  |succ m=>
  have rN:=hc;unfold kO at hc;split at hc
  .rename_i k hu;have:=qd hc;subst this;obtain⟨z,rfl,hx,hw⟩:=DataW.trod_int hu h;refine⟨rfl,⟨z,rfl,hw⟩,λW' sp _ _=>?_⟩;simp only[j7]at hx;rw[hx.1,hx.2];exact trod_int_mk m hu hw
  .rename_i hu;have:=qd hc;subst this;obtain⟨z,rfl,hx⟩:=DataW.trod_bool hu h;refine⟨rfl,⟨z,rfl,trivial⟩,λW' sp _ _=>?_⟩;unfold DataW.trod at h ⊢;rw[hu]at h ⊢;exact h
  .rename_i hu;have:=qd hc;subst this;obtain⟨z,rfl,hx,hw⟩:=DataW.trod_string hu h;refine⟨rfl,⟨z,rfl,hw⟩,λW' sp _ _=>?_⟩;unfold DataW.trod at h ⊢;rw[hu]at h ⊢;exact h
  .rename_i e hu;split at hc
   .rename_i a;simp only[j9,jg]at hc;exact QI (n:=n) hu hc.1.2 hc.2 (λm cs d ps h=>ih e a hc.1.1 m cs d ps h) h
   .simp at hc
  .rename_i fs hu;simp only[j9,jg]at hc;obtain⟨bb,hc⟩:=hc
   have Ea:cs.length=P.cellsOf t/\∃xs,fs.toList.mapM (λf=>DataW.trod enc P W 0 (λ_=>true) held m f.type ((cs.drop f.offset).take (P.cellsOf f.type)))=some xs/\d = .agg (xs.map (·.1))/\ps=xs.flatMap (·.2):=by
    obtain⟨xs,m',e1,e2,e3,e4,e5⟩:=DataW.trod_struct hu h;have:m'=m:=by omega
    subst this;simp only[j7]at e2;exact⟨e3,xs,Ji (by simpa using e4) (λi x hx=>e5 i x (by simpa using hx)),e2.1,e2.2⟩
   obtain⟨hl,xs,hm,rfl,rfl⟩:=Ea
   have mk:∀W' sp,fs.toList.mapM (λf=>DataW.trod enc P W' 0 sp held m f.type ((cs.drop f.offset).take (P.cellsOf f.type)))=some xs->
     DataW.trod enc P W' 0 sp held (m+1) t cs=some (.agg (xs.map (·.1)),xs.flatMap (·.2)):=by
    intro W' sp fo
    exact trod_struct_mk hu hl (by
     first
     |exact fo
     |(intros;exact fo))
   refine⟨by omega,?_,λW' sp hE bW=>?_⟩;all_goals split at hc
   .rename_i x a oQ;rw[oQ]at hm;obtain⟨⟨v,hv,hw⟩,_⟩:=xv (λt ty hc cs d ps h=>ih t ty hc m cs d ps h) cs [x] 0 a xs hc (by rw[hl,bb];simp[Ty.size]) hm;exact⟨v,by simpa[Rep]using hv,hw⟩
   .rename_i x y r a b oQ;rw[oQ]at hm;obtain⟨⟨v,hv,hw⟩,_⟩:=xv (λt ty hc cs d ps h=>ih t ty hc m cs d ps h) cs (x::y::r) 0 (.pair a b) xs hc (by omega) hm;exact⟨v,by simpa using hv,hw⟩
   .simp at hc
   .rename_i x a oQ;rw[oQ]at hm;obtain⟨_,hk⟩:=xv (λt ty hc cs d ps h=>ih t ty hc m cs d ps h) cs [x] 0 a xs hc (by rw[hl,bb];simp[Ty.size]) hm;exact mk W' sp (by rw[oQ];exact hk W' sp hE bW)
   .rename_i x y r a b oQ;rw[oQ]at hm;obtain⟨_,hk⟩:=xv (λt ty hc cs d ps h=>ih t ty hc m cs d ps h) cs (x::y::r) 0 (.pair a b) xs hc (by omega) hm;exact mk W' sp (by rw[oQ];exact hk W' sp hE bW)
   .simp at hc
  .simp at hc
end
theorem zW{P:Program}{W:World}{r:Reach}{base:Nat}{t:TypeId}{v:Value}{d:TypeDesc}(hu:P.underlying t=some d)(hd:(∃k,d = .int k)\/d = .bool\/d = .string\/∃e,d = .slice e)(h:Value.okWide P W r base t v):One v:=by
 have hc:Cell.ok P W r base t v:=by unfold Value.okWide at h;rw[hu]at h;rcases hd with⟨k,rfl⟩|rfl|rfl|⟨e,rfl⟩<;>(dsimp only at h;unfold Cell.okWide at h;rw[hu]at h;exact h)
 unfold Cell.ok at hc;rw[hu]at hc;rcases hd with⟨k,rfl⟩|rfl|rfl|⟨e,rfl⟩<;>cases v<;>first|rfl|(exact absurd hc (by simp))
theorem xw{H:Type}{enc:TypeId×Value->H}{P:Program}{W:World}{n:Nat}{t:TypeId}{ty:Ty}(dI:kO P n t ty=true){r:Reach}{base:Nat}{v:Value}(aM:Value.okWide P W r base t v){d:DataW H}{p:List MemPlace}
  (h:DataW.Trod enc P W 0 (λ_=>true) true t v d p) :
  ∃x:ty.den,kC (oldS W) W (.v ⟨ty,x⟩) v/\Wf ty x/\∀W' sp,Below W.heap.size W W'->(∀q∈p,sp q.block=true)->DataW.Trod enc P W' 0 sp true t v d p:=by
 obtain⟨fuel,h⟩:=h;obtain⟨_,⟨x,hx,hw⟩,hk⟩:=Jn n t ty dI fuel _ d p h;refine⟨x,⟨hx,λhm=>?_,λhm=>?_⟩,hw,λW' sp hb bW=>⟨fuel,hk W' sp (λk y hy=>by rw[hb.block k (jb.1 hy).1];exact hy) bW⟩⟩
 .cases n with
  |zero=>simp[kO]at dI
  |succ n=>
   unfold kO at dI;split at dI
   .have:=qd dI;subst this;simp[ff,Ty.agg]at hm
   .have:=qd dI;subst this;simp[ff,Ty.agg]at hm
   .have:=qd dI;subst this;simp[ff,Ty.agg]at hm
   .split at dI
    .simp[ff,Ty.agg]at hm
    .simp at dI
   .rename_i hu;unfold Value.okWide at aM;rw[hu]at aM;obtain⟨cs,cp,_⟩:=aM;exact⟨cs,cp⟩
   .simp at dI
 .cases n with
  |zero=>simp[kO]at dI
  |succ n=>
   unfold kO at dI;split at dI
   .rename_i k hu;exact zW hu (.inl ⟨k,rfl⟩) aM
   .rename_i hu;exact zW hu (.inr (.inl rfl)) aM
   .rename_i hu;exact zW hu (.inr (.inr (.inl rfl))) aM
   .rename_i e hu;exact zW hu (.inr (.inr (.inr ⟨e,rfl⟩))) aM
   .rename_i hu;simp only[j9]at dI;have h2:=dI.2;split at h2
    .simp[ff,Ty.agg]at hm
    .simp[ff,Ty.agg]at hm
    .simp at h2
   .simp at dI
def OLe{α:Type}(a b:Option α):Prop:=∀r,a=some r->b=some r
theorem OLe.refl{α:Type}(a:Option α):OLe a a:=λ_ h=>h
theorem OLe.none{α:Type}(a:Option α):OLe none a:=λ_ h=>by simp at h
theorem OLe.bind{α β:Type}{a b:Option α}{f g:α->Option β}(h:OLe a b)(h':∀x,OLe (f x) (g x)):OLe (a.bind f) (b.bind g):=by
 intro r hr;cases a with
 |none=>simp at hr
 |some x=>rw[h x rfl];exact h' x r hr
theorem OLe.cond{α:Type}{c:Bool}{a b a' b':Option α}(h:OLe a a')(h':OLe b b'):OLe (cond c a b) (cond c a' b'):=by
 cases c with
 |true=>exact h
 |false=>exact h'
theorem OLe.sumC{α β γ:Type}{x:α ⊕ β}{f f':α->Option γ}{g g':β->Option γ}(h:∀x,OLe (f x) (f' x))(h':∀x,OLe (g x) (g' x)):OLe (sumC x f g) (Lft.sumC x f' g'):=by
 cases x with
 |inl a=>exact h a
 |inr b=>exact h' b
theorem OLe.loopN{α β:Type}{f g:α->Option (α ⊕ β)}(h:∀s,OLe (f s) (g s)):∀(n:Nat)(s:α),OLe (Lft.loopN f n s) (Lft.loopN g n s)
 |0,_=> .none _
 |n+1,s=>by
  intro r hr;simp only[Lft.loopN]at hr ⊢;cases hf:f s with
  |none=>simp[hf]at hr
  |some x=>
   rw[h s x hf];cases x with
   |inl a=>simp only[hf]at hr;exact OLe.loopN h n a r hr
   |inr b=>simpa[hf]using hr
theorem OLe.loop{α β:Type}{f g:α->Option (α ⊕ β)}(n:Nat)(s:α)(h:∀s,OLe (f s) (g s)):OLe (Lft.loopN f n s) (loopOpt g s):=
 λr hr=>xo (OLe.loopN h n s r hr)
theorem OLe.loopOpt{α β:Type}{f g:α->Option (α ⊕ β)}(s:α)(h:∀s,OLe (f s) (g s)):OLe (Lft.loopOpt f s) (Lft.loopOpt g s):=by
 intro r hr;obtain⟨n,hn⟩:=xp hr;exact xo (OLe.loopN h n s r hn)
theorem Jo{α β:Type}{B B':(α->Option β)->α->Option β}(h:∀g g',(∀a,OLe (g a) (g' a))->∀a,OLe (B g a) (B' g' a)):∀n a,OLe (ia B n a) (ia B' n a)
 |0,_=> .none _
 |n+1,a=>h _ _ (Jo h n) a
theorem Eb{α β:Type}{B:(α->Option β)->α->Option β}(h:∀g g',(∀a,OLe (g a) (g' a))->∀a,OLe (B g a) (B g' a)):∀(k n:Nat)(a:α),OLe (ia B n a) (ia B (n+k) a)
 |k,0,a=> .none _
 |k,n+1,a=>by
  rw[show n+1+k=(n+k)+1 by omega];exact h _ _ (Eb h k n) a
theorem OLe.rec{α β:Type}{B B':(α->Option β)->α->Option β}(n:Nat)(a:α)(h:∀g g',(∀a,OLe (g a) (g' a))->∀a,OLe (B g a) (B' g' a))(h':∀g g',(∀a,OLe (g a) (g' a))->∀a,OLe (B' g a) (B' g' a)) :
  OLe (ia B n a) (qN B' a):=by
 intro r hr;have h1:=Jo h n a r hr;refine Jh ⟨n,h1⟩ λm y hy=>?_;have e1:=Eb h' m n a r h1;have e2:=Eb h' n m a y hy;rw[Nat.add_comm m n]at e2;rw[e1]at e2;simpa using e2.symm
theorem oR{α:Type}(a:Option α):OLe a a:=OLe.refl a
theorem oN{α:Type}(a:Option α):OLe none a:=OLe.none a
theorem oB{α β:Type}{a b:Option α}{f g:α->Option β}(h:OLe a b)(h':∀x,OLe (f x) (g x)):OLe (a.bind f) (b.bind g):=OLe.bind h h'
theorem oC{α:Type}{c:Bool}{a b a' b':Option α}(h:OLe a a')(h':OLe b b'):OLe (cond c a b) (cond c a' b'):=OLe.cond h h'
theorem oS{α β γ:Type}{x:α ⊕ β}{f f':α->Option γ}{g g':β->Option γ}(h:∀x,OLe (f x) (f' x))(h':∀x,OLe (g x) (g' x)):OLe (sumC x f g) (Lft.sumC x f' g'):=OLe.sumC h h'
end Go.Lft
