/- I3 of arguments and yj: what is known of them but the data. QX. -/
import Derived.Test.YtpbnnhakjhalaaaGreatLWLC
import Derived.KernelRfl
import Derived.IntWalk
import Derived.Below
import Derived.ChangeSame
noncomputable section
set_option linter.unusedVariables false
namespace Go.Lft
inductive CPat where
 |v (t:Ty)
 |p (ts:List Ty)
 deriving DecidableEq
inductive LPat where
 |dead|nil
 |d (t:Ty)
 |ol (k:Nat)
 |bp (k c:Nat)
 |ep (k i c:Nat)
 |tl (k:Nat)
 |hd (k:Nat)
 |s1 (k:Nat)
 |ip (ts:List Ty)
 |clo (f:Nat) (caps:List CPat)
 |clr (f:Nat) (ks:List Nat)
 deriving DecidableEq
inductive KPat where
 |one (l:LPat)
 |st (ls:List LPat)
 |av (n:Nat) (a:Ty)
 deriving DecidableEq
inductive BPat where
 |free|gone
 |cell (ls:List LPat) (frz:Bool)
 |lst (e:Nat) (a:Ty) (frz:Bool)
 |arr (n:Nat) (a:Ty)
 deriving DecidableEq
inductive IPat where
 |s (c:KPat)
 |b (x:BPat)
 deriving DecidableEq
abbrev iT:Ty:= .int .i64
abbrev sI:IPat:= .s (.one (.d iT))
inductive APat where
 |v (t:Ty)
 |ref (ts:List Ty)
 |rl (e:Nat) (t:Ty)
 |ip (ts:List Ty)
 |clo (f:Nat) (caps:List CPat)
 deriving DecidableEq
@[reducible] def HL:List Ty->Type
 |[]=>Unit
 |[t]=>t.den
 |t::t'::ts=>t.den×HL (t'::ts)
def ofHL:(ts:List Ty)->HL ts->List TV
 |[],_=>[]
 |[t],h=>[⟨t,h⟩]
 |t::t'::ts,h=>⟨t,h.1⟩::ofHL (t'::ts) h.2
def toHL:(ts:List Ty)->List TV->Option (HL ts)
 |[],[]=>some ()
 |[t],[x]=>x.to t
 |t::t'::ts,x::xs=>match x.to t with
  |some v=>match toHL (t'::ts) xs with
   |some r=>some (v,r)
   |none=>none
  |none=>none
 |_,_=>none
theorem Ey:∀{ts:List Ty}{xs:List TV}{h:HL ts},toHL ts xs=some h->xs=ofHL ts h
 |[],[],_,_=>rfl
 |[],_::_,_,h=>by simp[toHL]at h
 |[_],[],_,h=>by simp[toHL]at h
 |[t],[x],hl,h=>by
  simp only[toHL]at h;rw[lK h];rfl
 |[t],x::y::xs,hl,h=>by simp[toHL]at h
 |_::_::_,[],_,h=>by simp[toHL]at h
 |t::t'::ts,x::xs,hl,h=>by
  simp only[toHL]at h;split at h
  .rename_i v hv;split at h
   .rename_i r hr;simp only[j4]at h;subst h;rw[lK hv,Ey hr];rfl
   .simp at h
  .simp at h
def capP:Cap->CPat×List TV
 |.v x=>(.v x.t,[x])
 |.p ls=>(.p (ls.map (·.t)),ls)
def nd:List Cap->List CPat×List TV
 |[]=>([],[])
 |c::cs=>((capP c).1::(nd cs).1,(capP c).2++(nd cs).2)
def tv0:TV:=⟨.unit,()⟩
def capF:CPat->List TV->Cap
 |.v _,xs=> .v (xs.headD tv0)
 |.p ts,xs=> .p (xs.take ts.length)
def CPat.n:CPat->Nat
 |.v _=>1
 |.p ts=>ts.length
def yk:List CPat->List TV->List Cap
 |[],_=>[]
 |c::cs,xs=>capF c xs::yk cs (xs.drop c.n)
def yl:List CPat->Nat
 |[]=>0
 |c::cs=>c.n+yl cs
theorem Z8(c:Cap)(r:List TV):capF (capP c).1 ((capP c).2++r)=c/\(capP c).1.n=(capP c).2.length:=by
 cases c with
 |v x=>exact⟨rfl,rfl⟩
 |p ls=>simp[capP,capF,CPat.n]
theorem Ez:∀(cs:List Cap)(r:List TV),yk (nd cs).1 ((nd cs).2++r)=cs/\yl (nd cs).1=(nd cs).2.length
 |[],r=>⟨rfl,rfl⟩
 |c::cs,r=>by
  simp only[nd,yk,yl,jg,je];have h1:=Z8 c ((nd cs).2++r);have h2:=Ez cs r;rw[h1.1,h1.2,zk,h2.1,h2.2];exact⟨rfl,rfl⟩
def rj:Leaf->LPat×List TV
 |.dead=>(.dead,[])
 |.nil=>(.nil,[])
 |.d t v=>(.d t,[⟨t,v⟩])
 |.ol k=>(.ol k,[])
 |.bp k c=>(.bp k c,[])
 |.ep k i c=>(.ep k i c,[])
 |.tl k i=>(.tl k,[⟨.int .i64,(i:Int)⟩])
 |.hd k i=>(.hd k,[⟨.int .i64,(i:Int)⟩])
 |.s1 k=>(.s1 k,[])
 |.ip ls=>(.ip (ls.map (·.t)),ls)
 |.clo f caps=>(.clo f (nd caps).1,(nd caps).2)
 |.clr f ks=>(.clr f ks,[])
def I4:TV->Nat
 |⟨.int _,v⟩=>Int.toNat v
 |_=>0
def LPat.n:LPat->Nat
 |.d _=>1
 |.tl _=>1
 |.hd _=>1
 |.ip ts=>ts.length
 |.clo _ cs=>yl cs
 |_=>0
def Bl:LPat->List TV->Leaf
 |.dead,_=> .dead
 |.nil,_=> .nil
 |.d _,xs=> .d (xs.headD tv0).t (xs.headD tv0).v
 |.ol k,_=> .ol k
 |.bp k c,_=> .bp k c
 |.ep k i c,_=> .ep k i c
 |.tl k,xs=> .tl k (I4 (xs.headD tv0))
 |.hd k,xs=> .hd k (I4 (xs.headD tv0))
 |.s1 k,_=> .s1 k
 |.ip ts,xs=> .ip (xs.take ts.length)
 |.clo f cs,xs=> .clo f (yk cs xs)
 |.clr f ks,_=> .clr f ks
theorem QY(l:Leaf)(r:List TV):Bl (rj l).1 ((rj l).2++r)=l/\(rj l).1.n=(rj l).2.length:=by
 cases l with
 |ip ls=>simp[rj,Bl,LPat.n]
 |clo f cs=>have:=Ez cs r;simp only[rj,Bl,LPat.n];exact⟨by rw[this.1],this.2⟩
 |_=>exact⟨rfl,rfl⟩
def oE:List Leaf->List LPat×List TV
 |[]=>([],[])
 |c::cs=>((rj c).1::(oE cs).1,(rj c).2++(oE cs).2)
def Bm:List LPat->List TV->List Leaf
 |[],_=>[]
 |c::cs,xs=>Bl c xs::Bm cs (xs.drop c.n)
def Bn:List LPat->Nat
 |[]=>0
 |c::cs=>c.n+Bn cs
theorem I5:∀(cs:List Leaf)(r:List TV),Bm (oE cs).1 ((oE cs).2++r)=cs/\Bn (oE cs).1=(oE cs).2.length
 |[],r=>⟨rfl,rfl⟩
 |c::cs,r=>by
  simp only[oE,Bm,Bn,jg,je];have h1:=QY c ((oE cs).2++r);have h2:=I5 cs r;rw[h1.1,h1.2,zk,h2.1,h2.2];exact⟨rfl,rfl⟩
def celP:Cel->KPat×List TV
 |.one l=>(.one (rj l).1,(rj l).2)
 |.st ls=>(.st (oE ls).1,(oE ls).2)
 |.av n a xs=>(.av n a,[⟨.list a,xs⟩])
def Bo(a:Ty)(xs:List TV):List a.den:=((xs.headD tv0).to (.list a)).getD []
theorem I6(a:Ty)(xs:List a.den)(r:List TV):Bo a (⟨.list a,xs⟩::r)=xs:=by
 simp[Bo,TV.to]
def KPat.n:KPat->Nat
 |.one l=>l.n
 |.st ls=>Bn ls
 |.av _ _=>1
def celF:KPat->List TV->Cel
 |.one l,xs=> .one (Bl l xs)
 |.st ls,xs=> .st (Bm ls xs)
 |.av n a,xs=> .av n a (Bo a xs)
theorem Z9(c:Cel)(r:List TV):celF (celP c).1 ((celP c).2++r)=c/\(celP c).1.n=(celP c).2.length:=by
 cases c with
 |one l=>have:=QY l r;exact⟨by simp only[celP,celF];rw[this.1],this.2⟩
 |st ls=>have:=I5 ls r;exact⟨by simp only[celP,celF];rw[this.1],this.2⟩
 |av n a xs=>exact⟨by simp only[celP,celF,vc,jt];rw[I6],rfl⟩
def bsP:BS->BPat×List TV
 |.free=>(.free,[])
 |.gone=>(.gone,[])
 |.live (.cell ls f)=>(.cell (oE ls).1 f,(oE ls).2)
 |.live (.lst e a xs f)=>(.lst e a f,[⟨.list a,xs⟩])
 |.live (.arr n a xs)=>(.arr n a,[⟨.list a,xs⟩])
def BPat.n:BPat->Nat
 |.free|.gone=>0
 |.cell ls _=>Bn ls
 |.lst _ _ _=>1
 |.arr _ _=>1
def bsF:BPat->List TV->BS
 |.free,_=> .free
 |.gone,_=> .gone
 |.cell ls f,xs=> .live (.cell (Bm ls xs) f)
 |.lst e a f,xs=> .live (.lst e a (Bo a xs) f)
 |.arr n a,xs=> .live (.arr n a (Bo a xs))
theorem jzs(c:BS)(r:List TV):bsF (bsP c).1 ((bsP c).2++r)=c/\(bsP c).1.n=(bsP c).2.length:=by
 cases c with
 |free=>exact⟨rfl,rfl⟩
 |gone=>exact⟨rfl,rfl⟩
 |live b=>
  cases b with
  |cell ls f=>have:=I5 ls r;exact⟨by simp only[bsP,bsF];rw[this.1],this.2⟩
  |lst e a xs f=>exact⟨by simp only[bsP,bsF,vc,jt];rw[I6],rfl⟩
  |arr n a xs=>exact⟨by simp only[bsP,bsF,vc,jt];rw[I6],rfl⟩
def itP:Item->IPat×List TV
 |.s c=>(.s (celP c).1,(celP c).2)
 |.b x=>(.b (bsP x).1,(bsP x).2)
def IPat.n:IPat->Nat
 |.s c=>c.n
 |.b x=>x.n
def itF:IPat->List TV->Item
 |.s c,xs=> .s (celF c xs)
 |.b x,xs=> .b (bsF x xs)
theorem QZ(c:Item)(r:List TV):itF (itP c).1 ((itP c).2++r)=c/\(itP c).1.n=(itP c).2.length:=by
 cases c with
 |s c=>have:=Z9 c r;exact⟨by simp only[itP,itF];rw[this.1],this.2⟩
 |b x=>have:=jzs x r;exact⟨by simp only[itP,itF];rw[this.1],this.2⟩
def lb:Snap->List IPat×List TV
 |[]=>([],[])
 |c::cs=>((itP c).1::(lb cs).1,(itP c).2++(lb cs).2)
def wH:List IPat->List TV->Snap
 |[],_=>[]
 |c::cs,xs=>itF c xs::wH cs (xs.drop c.n)
theorem Q0:∀(cs:Snap),wH (lb cs).1 (lb cs).2=cs
 |[]=>rfl
 |c::cs=>by
  simp only[lb,wH];have h1:=QZ c (lb cs).2;rw[h1.1,h1.2,zk,Q0 cs]
def pack(ps:List IPat)(ts:List Ty)(h:HL ts):Snap:=wH ps (ofHL ts h)
def sv(ps:List IPat)(ts:List Ty)(s:Snap):Option (HL ts):=
 if (lb s).1=ps then toHL ts (lb s).2 else none
theorem Bp{ps:List IPat}{ts:List Ty}{s:Snap}{h:HL ts}(hs:sv ps ts s=some h):s=pack ps ts h:=by
 unfold sv at hs;split at hs
 .rename_i hp;have:=Ey hs;rw[pack,<-this,<-hp,Q0]
 .simp at hs
def argP:Arg->APat×List TV
 |.v x=>(.v x.t,[x])
 |.ref ls=>(.ref (ls.map (·.t)),ls)
 |.rl e x=>(.rl e x.t,[x])
 |.ip ls=>(.ip (ls.map (·.t)),ls)
 |.clo f cs=>(.clo f (nd cs).1,(nd cs).2)
def APat.n:APat->Nat
 |.v _=>1
 |.ref ts=>ts.length
 |.rl _ _=>1
 |.ip ts=>ts.length
 |.clo _ cs=>yl cs
def argF:APat->List TV->Arg
 |.v _,xs=> .v (xs.headD tv0)
 |.ref ts,xs=> .ref (xs.take ts.length)
 |.rl e _,xs=> .rl e (xs.headD tv0)
 |.ip ts,xs=> .ip (xs.take ts.length)
 |.clo f cs,xs=> .clo f (yk cs xs)
theorem jye(c:Arg)(r:List TV):argF (argP c).1 ((argP c).2++r)=c/\(argP c).1.n=(argP c).2.length:=by
 cases c with
 |v x=>exact⟨rfl,rfl⟩
 |rl e x=>exact⟨rfl,rfl⟩
 |ref ls=>simp[argP,argF,APat.n]
 |ip ls=>simp[argP,argF,APat.n]
 |clo f cs=>have:=Ez cs r;exact⟨by simp only[argP,argF];rw[this.1],this.2⟩
def sw:List Arg->List APat×List TV
 |[]=>([],[])
 |c::cs=>((argP c).1::(sw cs).1,(argP c).2++(sw cs).2)
def ym:List APat->List TV->List Arg
 |[],_=>[]
 |c::cs,xs=>argF c xs::ym cs (xs.drop c.n)
theorem Q1:∀(cs:List Arg),ym (sw cs).1 (sw cs).2=cs
 |[]=>rfl
 |c::cs=>by
  simp only[sw,ym];have h1:=jye c (sw cs).2;rw[h1.1,h1.2,zk,Q1 cs]
def oF(ps:List APat)(ts:List Ty)(h:HL ts):List Arg:=ym ps (ofHL ts h)
def EA(ps:List APat)(ts:List Ty)(s:List Arg):Option (HL ts):=
 if (sw s).1=ps then toHL ts (sw s).2 else none
theorem EB{ps:List APat}{ts:List Ty}{s:List Arg}{h:HL ts}(hs:EA ps ts s=some h):s=oF ps ts h:=by
 unfold EA at hs;split at hs
 .rename_i hp;have:=Ey hs;rw[oF,<-this,<-hp,Q1]
 .simp at hs
theorem Q2{α β:Type}{f:α->Option (α ⊕ β)}:∀{n m:Nat}{s:α}{x y:β},loopN f n s=some x->loopN f m s=some y->x=y
 |0,_,_,_,_,h,_=>by simp[loopN]at h
 |_+1,0,_,_,_,_,h=>by simp[loopN]at h
 |n+1,m+1,s,x,y,h,h'=>by
  simp only[loopN]at h h';cases hf:f s with
  |none=>simp[hf]at h
  |some r=>
   cases r with
   |inl s'=>simp only[hf]at h h';exact Q2 h h'
   |inr z=>simp only[hf,j4]at h h';rw[<-h,<-h']
open Classical in
def loopOpt{α β:Type}(f:α->Option (α ⊕ β))(s:α):Option β:=
 if h:∃x n,loopN f n s=some x then some h.choose else none
theorem Bq{α β:Type}{f:α->Option (α ⊕ β)}{s:α}{n:Nat}{x:β}(h:loopN f n s=some x):loopOpt f s=some x:=by
 unfold loopOpt;have hx:∃x n,loopN f n s=some x:=⟨x,n,h⟩;rw[dif_pos hx];obtain⟨m,hm⟩:=hx.choose_spec;rw[Q2 hm h]
theorem Br{α β:Type}{f:α->Option (α ⊕ β)}{s:α}{x:β}(h:loopOpt f s=some x):∃n,loopN f n s=some x:=by
 unfold loopOpt at h;split at h
 .rename_i hx;simp only[j4]at h;obtain⟨m,hm⟩:=hx.choose_spec;exact⟨m,by rw[<-h];exact hm⟩
 .simp at h
theorem jnU{α β:Type}{f:α->Option (α ⊕ β)}{s s':α}(h:f s=some (.inl s')):loopOpt f s=loopOpt f s':=by
 cases hq:loopOpt f s' with
 |some x=>obtain⟨n,hn⟩:=Br hq;exact Bq (n:=n+1) (by simp only[loopN,h];exact hn)
 |none=>
  cases hp:loopOpt f s with
  |none=>rfl
  |some x=>
   obtain⟨n,hn⟩:=Br hp;cases n with
   |zero=>simp[loopN]at hn
   |succ n=>simp only[loopN,h]at hn;rw[Bq hn]at hq;simp at hq
theorem jpu{α β:Type}{f:α->Option (α ⊕ β)}{s:α}{x:β}(h:f s=some (.inr x)):loopOpt f s=some x:=
 Bq (n:=1) (by simp only[loopN,h])
theorem Q3{α β A B:Type}{f:α->Option (α ⊕ β)}{g:A->Option (A ⊕ B)}{p:A->α}{q:B->β}
  (h:∀a r,g a=some r->f (p a)=some (match r with|.inl a'=> .inl (p a')|.inr b=> .inr (q b))):∀{n:Nat}{a:A}{x:B},loopN g n a=some x->loopN f n (p a)=some (q x)
 |0,_,_,hn=>by simp[loopN]at hn
 |n+1,a,x,hn=>by
  simp only[loopN]at hn;cases hg:g a with
  |none=>simp[hg]at hn
  |some r=>
   have:=h a r hg;cases r with
   |inl a'=>simp only[hg]at hn;simp only[loopN,this];exact Q3 h hn
   |inr b=>simp only[hg,j4]at hn;subst hn;simp only[loopN,this]
def sumC{α β γ:Type}(x:α ⊕ β)(f:α->γ)(g:β->γ):γ:=match x with
 |.inl a=>f a
 |.inr b=>g b
structure XD where
 ex:Ex
 ps:List IPat
 ts:List Ty
@[reducible] def XT:List XD->Type
 |[]=>Empty
 |[x]=>HL x.ts
 |x::y::r=>HL x.ts ⊕ XT (y::r)
def pR:(l:List XD)->XT l->Ex×Snap
 |[],h=>nomatch h
 |[x],h=>(x.ex,pack x.ps x.ts h)
 |x::y::r,h=>match h with
  |.inl a=>(x.ex,pack x.ps x.ts a)
  |.inr b=>pR (y::r) b
def Bs{R:Type}:(l:List XD)->XT l->(Ex->Snap->Option R)->Option R
 |[],_,_=>none
 |[x],h,k=>k x.ex (pack x.ps x.ts h)
 |x::y::r,h,k=>sumC h (λa=>k x.ex (pack x.ps x.ts a)) (λb=>Bs (y::r) b k)
theorem I7{R:Type}:∀(l:List XD)(h:XT l)(k:Ex->Snap->Option R),Bs l h k=k (pR l h).1 (pR l h).2
 |[],h,_=>nomatch h
 |[x],h,k=>rfl
 |x::y::r,h,k=>by
  cases h with
  |inl a=>rfl
  |inr b=>exact I7 (y::r) b k
def unX:(l:List XD)->Ex->Snap->Option (XT l)
 |[],_,_=>none
 |[x],e,s=>if e=x.ex then sv x.ps x.ts s else none
 |x::y::r,e,s=>if e=x.ex/\(lb s).1=x.ps then match sv x.ps x.ts s with
   |some a=>some (.inl a)
   |none=>none
  else match unX (y::r) e s with
   |some b=>some (.inr b)
   |none=>none
theorem EC:∀(l:List XD)(e:Ex)(s:Snap)(x:XT l),unX l e s=some x->pR l x=(e,s)
 |[],_,_,_,h=>by simp[unX]at h
 |[x],e,s,h,he=>by
  simp only[unX]at he;split at he
  .rename_i h1;rw[pR,<-Bp he,h1]
  .simp at he
 |x::y::r,e,s,h,he=>by
  simp only[unX]at he;split at he
  .rename_i h1;split at he
   .rename_i a ha;simp only[j4]at he;subst he;show (x.ex,pack x.ps x.ts a)=(e,s);rw[<-Bp ha,h1.1]
   .simp at he
  .split at he
   .rename_i b hb;simp only[j4]at he;subst he;exact EC (y::r) e s b hb
   .simp at he
structure lg where
 b:Nat
 ps:List IPat
 ts:List Ty
 exits:List XD
 step:HL ts->Option (HL ts ⊕ XT exits)
def sx:List lg->Nat->Snap->(R:Type)->(Ex->Snap->Option R)->Option R
 |[],_,_,_,_=>none
 |d::ds,b,s,R,k=>if d.b=b then match sv d.ps d.ts s with
   |some h=>(loopOpt d.step h).bind λx=>Bs d.exits x k
   |none=>none
  else sx ds b s R k
theorem I8:∀ds:List lg,LFun (sx ds)
 |[]=>λ_ _=>⟨none,λ_ _=>rfl⟩
 |d::ds=>λb s=>by
  simp only[sx];split
  .split
   .rename_i h _;cases hq:loopOpt d.step h with
    |none=>exact⟨none,λ_ _=>rfl⟩
    |some x=>exact⟨some (pR d.exits x),λR k=>I7 d.exits x k⟩
   .exact⟨none,λ_ _=>rfl⟩
  .exact I8 ds b s
def uk(E:Env)(d:lg)(e:Ex)(σ:St):Option (HL d.ts ⊕ XT d.exits):=
 match e with
 |.normal=>match jC E.np (E.keep d.b) σ with
  |some s=>match sv d.ps d.ts s with
   |some h=>some (.inl h)
   |none=>none
  |none=>none
 |e=>match jC E.np (E.keepX d.b e) σ with
  |some s=>match unX d.exits e s with
   |some x=>some (.inr x)
   |none=>none
  |none=>none
def ukR(E:Env)(d:lg)(ps:Array Nat)(x y:Code)(p:Option (List Item))(e:Ex)(σ:St):Option (HL d.ts ⊕ XT d.exits):=
 match p,e with
 |some q,.normal=>match jC E.np (E.keep d.b) σ with
  |some s=>match sv d.ps d.ts (q++s) with
   |some h=>some (.inl h)
   |none=>none
  |none=>none
 |_,e=>cond (pinK ps x y (E.keepX d.b e)) (match jC E.np (E.keepX d.b e) σ with
  |some s=>match unX d.exits e s with
   |some x=>some (.inr x)
   |none=>none
  |none=>none) none
def jvn(E:Env)(d:lg)(h:HL d.ts):Code->Option (HL d.ts ⊕ XT d.exits)
 |.rangeFunc g ps x y=>zC E d.b g ps x y (pack d.ps d.ts h) (ukR E d ps x y)
 |c=>eL E d.b c (dm E.np (E.keep d.b) (pack d.ps d.ts h)) (uk E d)
def ED(E:Env)(c:Code)(d:lg):Prop:=∀h,jvn E d h c=d.step h
def outS(d:lg)(r:HL d.ts ⊕ XT d.exits):Snap ⊕ Ex×Snap:=match r with
 |.inl a=> .inl (pack d.ps d.ts a)
 |.inr x=> .inr (pR d.exits x)
theorem jyf{E:Env}(hF:CFun E.C)(hz:E.nz=false)(hL:LFun E.L){g:Operand}{ps:Array Nat}{x y:Code}{d:lg}(hs:ED E (.rangeFunc g ps x y) d)(h:HL d.ts)(r:HL d.ts ⊕ XT d.exits):d.step h=some r->
  xD E d.b g ps x y (pack d.ps d.ts h)=some (outS d r):=by
 intro hr;obtain⟨o,ho⟩:=jps hF hz hL d.b g ps x y (pack d.ps d.ts h);rw[<-hs h]at hr;have h1:some r=_:=hr.symm.trans (ho _ (λz=>ukR E d ps x y z.1 z.2.1 z.2.2));cases o with
 |none=>simp at h1
 |some z=>
  obtain⟨p,e,σ⟩:=z;simp only[j3]at h1
  have h2:=ho _ (λz:Option (List Item)×Ex×St=>match z.1,z.2.1 with
   |some q,.normal=>match jC E.np (E.keep d.b) z.2.2 with
    |some s'=>some (Sum.inl (q++s'))
    |none=>none
   |_,e=>cond (pinK ps x y (E.keepX d.b e)) (match jC E.np (E.keepX d.b e) z.2.2 with
    |some s'=>some (Sum.inr (e,s'))
    |none=>none) none)
  have h3:xD E d.b g ps x y (pack d.ps d.ts h)=_:=h2;rw[h3,j3];clear h3 h2 hr ho;dsimp only;have h1:=h1.symm;unfold ukR at h1
  have hx:∀e,(cond (pinK ps x y (E.keepX d.b e)) (match jC E.np (E.keepX d.b e) σ with
    |some s=>match unX d.exits e s with
     |some x=>some (Sum.inr x)
     |none=>none
    |none=>none) none:Option (HL d.ts ⊕ XT d.exits))=some r->(cond (pinK ps x y (E.keepX d.b e)) (match jC E.np (E.keepX d.b e) σ with
    |some s'=>some (Sum.inr (e,s'))
    |none=>none) none:Option (Snap ⊕ Ex×Snap))=some (outS d r):=by
   intro e h1;cases hp:pinK ps x y (E.keepX d.b e) with
   |false=>rw[hp]at h1;simp at h1
   |true=>
    rw[hp,j5]at h1;rw[j5];split at h1
    .rename_i s dI;split at h1
     .rename_i hh hu;simp only[j4]at h1;subst h1;simp only[outS];rw[EC _ _ _ _ hu]
     .simp at h1
    .simp at h1
  cases p with
  |none=>exact hx e h1
  |some q=>
   cases e with
   |normal=>
    dsimp only at h1 ⊢
    split at h1
    .rename_i s dI;split at h1
     .rename_i hh hu;simp only[j4]at h1;subst h1;simp only[outS];rw[<-Bp hu]
     .simp at h1
    .simp at h1
   |exit i=>exact hx _ h1
   |ret=>exact hx _ h1
theorem jvo{E:Env}(hF:CFun E.C)(hz:E.nz=false)(hL:LFun E.L){c:Code}{d:lg}(hs:∀h,eL E d.b c (dm E.np (E.keep d.b) (pack d.ps d.ts h)) (uk E d)=d.step h)(h:HL d.ts)(r:HL d.ts ⊕ XT d.exits):d.step h=some r->
  uV E d.b c (pack d.ps d.ts h)=some (match r with|.inl a=> .inl (pack d.ps d.ts a)|.inr x=> .inr (pR d.exits x)):=by
 intro hr;obtain⟨o,ho⟩:=Ew hF hz hL c d.b (dm E.np (E.keep d.b) (pack d.ps d.ts h));rw[<-hs h]at hr;have h1:some r=_:=hr.symm.trans (ho _ (λz=>uk E d z.1 z.2));cases o with
 |none=>simp at h1
 |some z=>
  obtain⟨e,σ⟩:=z;simp only[j3]at h1
  have h2:=ho _ (λz:Ex×St=>match z.1 with
   |.normal=>match jC E.np (E.keep d.b) z.2 with
    |some s'=>some (Sum.inl s')
    |none=>none
   |e=>match jC E.np (E.keepX d.b e) z.2 with
    |some s'=>some (Sum.inr (e,s'))
    |none=>none)
  have h3:uV E d.b c (pack d.ps d.ts h)=_:=h2;rw[h3,j3];clear h3 h2 hr ho;dsimp only;have h1:=h1.symm;unfold uk at h1;cases e with
  |normal=>
   dsimp only at h1 ⊢
   split at h1
   .rename_i s dI;split at h1
    .rename_i hh hu;simp only[j4]at h1;subst h1;dsimp only;rw[<-Bp hu]
    .simp at h1
   .simp at h1
  |exit i=>
   dsimp only at h1 ⊢
   split at h1
   .rename_i s dI;split at h1
    .rename_i hh hu;simp only[j4]at h1;subst h1;dsimp only;rw[EC _ _ _ _ hu]
    .simp at h1
   .simp at h1
  |ret=>
   dsimp only at h1 ⊢
   split at h1
   .rename_i s dI;split at h1
    .rename_i hh hu;simp only[j4]at h1;subst h1;dsimp only;rw[EC _ _ _ _ hu]
    .simp at h1
   .simp at h1
theorem jtn{E:Env}(hF:CFun E.C)(hz:E.nz=false)(hL:LFun E.L){c:Code}{d:lg}(hs:ED E c d)
  (he:∀s R k,E.L d.b s R k=match sv d.ps d.ts s with|some h=>(loopOpt d.step h).bind λx=>Bs d.exits x k|none=>none):AW E d.b c:=by
 intro s R k r h;rw[he]at h;split at h
 .rename_i hl hu;cases hq:loopOpt d.step hl with
  |none=>simp[hq]at h
  |some x=>
   rw[hq,j3,I7]at h;obtain⟨n,hn⟩:=Br hq;refine⟨n,(pR d.exits x).1,(pR d.exits x).2,?_,h⟩;rw[Bp hu]
   exact Q3 (f:=GI E d.b c) (p:=pack d.ps d.ts) (q:=pR d.exits) (λa r hr=>by
    cases c with
    |rangeFunc g ps x y=>have:=jyf hF hz hL hs a r hr;cases r<;>exact this
    |_=>have:=jvo hF hz hL hs a r hr;cases r<;>exact this) hn
 .simp at h
def lpAt(c:Code)(j:Nat):Code:=((fN 0 c).getD j (0,.skip)).2
def ue(E:Env)(c:Code):Nat->List lg->Prop
 |_,[]=>True
 |j,d::ds=>ED E (lpAt c j) d/\ue E c (j+1) ds
theorem ue.get{E:Env}{c:Code}:∀{ds:List lg}{i j:Nat}{d:lg},ue E c i ds->ds[j]? = some d->ED E (lpAt c (i+j)) d
 |[],_,_,_,_,h=>by simp at h
 |x::xs,i,0,d,hs,h=>by simp at h;subst h;exact hs.1
 |x::xs,i,j+1,d,hs,h=>by
  have:=ue.get (i:=i+1) (j:=j) hs.2 (by simpa using h);rwa[show i+(j+1)=i+1+j by omega]
theorem Q4:∀{ds:List lg}{j:Nat}{d:lg},mP (ds.map (·.b))=true->ds[j]? = some d->∀s R k,sx ds d.b s R k=match sv d.ps d.ts s with|some h=>(loopOpt d.step h).bind λx=>Bs d.exits x k|none=>none
 |[],_,_,_,h=>by simp at h
 |x::xs,0,d,_,h=>by simp at h;subst h;intro s R k;simp only[sx,if_true]
 |x::xs,j+1,d,hn,h=>by
  simp only[ka,mP,ja,kv,kz,ko]at hn;have hm:d∈xs:=jy (by simpa using h);have aT:x.b≠d.b:=λe=>hn.1 (e▸jx.2 ⟨d,hm,rfl⟩);intro s R k;simp only[sx,aT,qs];exact Q4 (j:=j) hn.2 (by simpa using h) s R k
theorem jvp{E:Env}(hF:CFun E.C)(hz:E.nz=false){c:Code}{ds:List lg}(hE:E.L=sx ds)(hm:(fN 0 c).map (·.1)=ds.map (·.b))(hn:mP (ds.map (·.b))=true)(hs:ue E c 0 ds) :
  ∀x∈fN 0 c,AW E x.1 x.2:=by
 intro x hx;obtain⟨j,hj⟩:=qy.1 hx;have tS:(ds.map (·.b))[j]? = some x.1:=by rw[<-hm];simp[hj]
 rw[qi]at tS;cases hd:ds[j]? with
 |none=>simp[hd]at tS
 |some d=>
  simp only[hd,ki,j4]at tS;have h1:=ue.get hs hd;rw[jz]at h1;have h2:lpAt c j=x.2:=by simp[lpAt,List.getD,hj]
  rw[h2]at h1;have:=jtn (E:=E) hF hz (hE▸I8 ds) h1 (λs R k=>by rw[hE];exact Q4 hn hd s R k);rwa[tS]at this
inductive VPat where
 |v (t:Ty)
 |own (e:Nat) (t:Ty)
 |box (ts:List Ty)
 |hd
 |vn (t:Ty) (ns:List Nat)
 |clo (f:Nat) (caps:List CPat)
 |so (ls:List (Option Nat×Ty))
 |raw (ns:List Nat) (ps:List IPat)
 deriving DecidableEq
inductive OPat where
 |ref (ts:List Ty)
 |rl (t:Ty)
 deriving DecidableEq
def rlP:RL->(Option Nat×Ty)×TV
 |.d x=>((none,x.t),x)
 |.own e x=>((some e,x.t),x)
def rlsF:List (Option Nat×Ty)->List TV->List RL
 |[],_=>[]
 |(none,_)::ps,xs=> .d (xs.headD tv0)::rlsF ps xs.tail
 |(some e,_)::ps,xs=> .own e (xs.headD tv0)::rlsF ps xs.tail
theorem I9:∀(ls:List RL)(r:List TV),rlsF (ls.map λl=>(rlP l).1) ((ls.map λl=>(rlP l).2)++r)=ls
 |[],r=>rfl
 |.d x::ls,r=>by
  have:=I9 ls r;show RL.d _::rlsF _ (_++r)=_;rw[this];rfl
 |.own e x::ls,r=>by
  have:=I9 ls r;show RL.own e _::rlsF _ (_++r)=_;rw[this];rfl
def EE:List IPat->Nat
 |[]=>0
 |c::cs=>c.n+EE cs
theorem Ja:∀(cs:Snap)(r:List TV),wH (lb cs).1 ((lb cs).2++r)=cs/\EE (lb cs).1=(lb cs).2.length
 |[],r=>⟨rfl,rfl⟩
 |c::cs,r=>by
  simp only[lb,wH,EE,jg,je];have h1:=QZ c ((lb cs).2++r);have h2:=Ja cs r;rw[h1.1,h1.2,zk,h2.1,h2.2];exact⟨rfl,rfl⟩
def rvP:RV->VPat×List TV
 |.v x=>(.v x.t,[x])
 |.own e x=>(.own e x.t,[x])
 |.box ls=>(.box (ls.map (·.t)),ls)
 |.hd n=>(.hd,[⟨.int .i64,(n:Int)⟩])
 |.vn x ns=>(.vn x.t ns,[x])
 |.clo f caps=>(.clo f (nd caps).1,(nd caps).2)
 |.so ls=>(.so (ls.map λl=>(rlP l).1),ls.map λl=>(rlP l).2)
 |.raw ns s=>(.raw ns (lb s).1,(lb s).2)
def VPat.n:VPat->Nat
 |.v _=>1
 |.own _ _=>1
 |.box ts=>ts.length
 |.hd=>1
 |.vn _ _=>1
 |.clo _ cs=>yl cs
 |.so ls=>ls.length
 |.raw _ ps=>EE ps
def rvF:VPat->List TV->RV
 |.v _,xs=> .v (xs.headD tv0)
 |.own e _,xs=> .own e (xs.headD tv0)
 |.box ts,xs=> .box (xs.take ts.length)
 |.hd,xs=> .hd (I4 (xs.headD tv0))
 |.vn _ ns,xs=> .vn (xs.headD tv0) ns
 |.clo f cs,xs=> .clo f (yk cs xs)
 |.so ls,xs=> .so (rlsF ls xs)
 |.raw ns ps,xs=> .raw ns (wH ps xs)
theorem jzt(c:RV)(r:List TV):rvF (rvP c).1 ((rvP c).2++r)=c/\(rvP c).1.n=(rvP c).2.length:=by
 cases c with
 |v x=>exact⟨rfl,rfl⟩
 |own e x=>exact⟨rfl,rfl⟩
 |hd n=>exact⟨rfl,rfl⟩
 |vn x ns=>exact⟨rfl,rfl⟩
 |box ls=>simp[rvP,rvF,VPat.n]
 |clo f cs=>have:=Ez cs r;simp only[rvP,rvF,VPat.n];exact⟨by rw[this.1],this.2⟩
 |so ls=>exact⟨by simp only[rvP,rvF];rw[I9],by simp[rvP,VPat.n]⟩
 |raw ns s=>exact⟨by simp only[rvP,rvF];rw[(Ja s r).1],(Ja s r).2⟩
def outP:Out->OPat×List TV
 |.ref ls=>(.ref (ls.map (·.t)),ls)
 |.rl x=>(.rl x.t,[x])
def OPat.n:OPat->Nat
 |.ref ts=>ts.length
 |.rl _=>1
def outF:OPat->List TV->Out
 |.ref ts,xs=> .ref (xs.take ts.length)
 |.rl _,xs=> .rl (xs.headD tv0)
theorem jyg(c:Out)(r:List TV):outF (outP c).1 ((outP c).2++r)=c/\(outP c).1.n=(outP c).2.length:=by
 cases c with
 |rl x=>exact⟨rfl,rfl⟩
 |ref ls=>simp[outP,outF,OPat.n]
def rvsP:List RV->List VPat×List TV
 |[]=>([],[])
 |c::cs=>((rvP c).1::(rvsP cs).1,(rvP c).2++(rvsP cs).2)
def rvsF:List VPat->List TV->List RV
 |[],_=>[]
 |c::cs,xs=>rvF c xs::rvsF cs (xs.drop c.n)
def rvsN:List VPat->Nat
 |[]=>0
 |c::cs=>c.n+rvsN cs
theorem Jb:∀(cs:List RV)(r:List TV),rvsF (rvsP cs).1 ((rvsP cs).2++r)=cs/\rvsN (rvsP cs).1=(rvsP cs).2.length
 |[],r=>⟨rfl,rfl⟩
 |c::cs,r=>by
  simp only[rvsP,rvsF,rvsN,jg,je];have h1:=jzt c ((rvsP cs).2++r);have h2:=Jb cs r;rw[h1.1,h1.2,zk,h2.1,h2.2];exact⟨rfl,rfl⟩
def uf:List Out->List OPat×List TV
 |[]=>([],[])
 |c::cs=>((outP c).1::(uf cs).1,(outP c).2++(uf cs).2)
def EF:List OPat->List TV->List Out
 |[],_=>[]
 |c::cs,xs=>outF c xs::EF cs (xs.drop c.n)
theorem Q5:∀(cs:List Out)(r:List TV),EF (uf cs).1 ((uf cs).2++r)=cs
 |[],r=>rfl
 |c::cs,r=>by
  simp only[uf,EF,jg];have h1:=jyg c ((uf cs).2++r);rw[h1.1,h1.2,zk,Q5 cs r]
structure RPat where
 vs:List VPat
 os:List OPat
 deriving DecidableEq
def mE(rp:RPat)(ts:List Ty)(h:HL ts):Ret:=⟨rvsF rp.vs (ofHL ts h),EF rp.os ((ofHL ts h).drop (rvsN rp.vs))⟩
def EG(rp:RPat)(ts:List Ty)(r:Ret):Option (HL ts):=
 if (rvsP r.vals).1=rp.vs/\(uf r.outs).1=rp.os then toHL ts ((rvsP r.vals).2++(uf r.outs).2) else none
theorem jrN{rp:RPat}{ts:List Ty}{r:Ret}{h:HL ts}(hs:EG rp ts r=some h):r=mE rp ts h:=by
 unfold EG at hs;split at hs
 .rename_i hp;have:=Ey hs;unfold mE;rw[<-this,<-hp.1,<-hp.2,(Jb r.vals _).1,(Jb r.vals []).2,zk];have h2:=Q5 r.outs [];rw[qe]at h2;rw[h2]
 .simp at hs
structure Con where
 f:Nat
 ps:List APat
 ts:List Ty
 rp:RPat
 rs:List Ty
 F:HL ts->Option (HL rs)
def Con.C(c:Con)(args:List Arg)(R:Type)(k:Ret->Option R):Option R:=
 match EA c.ps c.ts args with
 |some h=>(c.F h).bind λx=>k (mE c.rp c.rs x)
 |none=>none
def Con.OK(P:Program)(c:Con):Prop:=FnOK P c.f c.C
def conC:List Con->Nat->List Arg->(R:Type)->(Ret->Option R)->Option R
 |[],_,_,_,_=>none
 |c::cs,f,args,R,k=>if c.f=f then (if (sw args).1=c.ps then c.C args R k else conC cs f args R k) else conC cs f args R k
theorem Jc{P:Program}{f:Nat}:FnOK P f (λ_ _ _=>none):=by
 intro args R k r h;simp at h
def Bt(P:Program):List Con->Prop
 |[]=>True
 |c::cs=>c.OK P/\Bt P cs
theorem Jd{P:Program}:∀cs:List Con,Bt P cs->kA P (conC cs)
 |[],_,_=>Jc
 |c::cs,h,f=>by
  have ih:=Jd cs h.2 f;intro args R k r hk;simp only[conC]at hk;split at hk
  .rename_i hf;subst hf;split at hk
   .exact h.1 args R k r hk
   .exact ih args R k r hk
  .exact ih args R k r hk
theorem Jf:∀cs:List Con,CFun (conC cs)
 |[]=>λ_ _=>⟨none,λ_ _=>rfl⟩
 |c::cs=>λf args=>by
  have ih:=Jf cs f args;simp only[conC];split
  .split
   .unfold Con.C;split
    .rename_i h _;cases hq:c.F h with
     |none=>exact⟨none,λ_ _=>rfl⟩
     |some x=>exact⟨some (mE c.rp c.rs x),λ_ _=>rfl⟩
    .exact⟨none,λ_ _=>rfl⟩
   .exact ih
  .exact ih
def Jg:List (Nat×Keep)->Nat->Keep
 |[],_=>⟨[],[],[],[]⟩
 |x::r,b=>if x.1=b then x.2 else Jg r b
def Jh:List (Nat×Ex×Keep)->Nat->Ex->Keep
 |[],_,_=>⟨[],[],[],[]⟩
 |x::r,b,e=>if x.1=b/\x.2.1=e then x.2.2 else Jh r b e
def Ji:List (Nat×List Bool)->Nat->List Bool
 |[],_=>[]
 |x::r,b=>if x.1=b then x.2 else Ji r b
def dwL:List (Nat×List (List Nat))->Nat->List (List Nat)
 |[],_=>[]
 |x::r,b=>if x.1=b then x.2 else dwL r b
def bwL:List (Nat×(Bool×Ty))->Nat->Option (Bool×Ty)
 |[],_=>none
 |x::r,f=>if x.1=f then some x.2 else bwL r f
def EH(P:Program):List (Nat×(Bool×Ty))->Prop
 |[]=>True
 |x::r=>BwK P x.1 x.2/\EH P r
theorem Q6{P:Program}:∀{l:List (Nat×(Bool×Ty))},EH P l->∀f t,bwL l f=some t->BwK P f t
 |[],_,f,t,h=>by simp[bwL]at h
 |x::r,hl,f,t,h=>by
  simp only[bwL]at h;split at h
  .rename_i e;simp only[j4]at h;rw[<-e,<-h];exact hl.1
  .exact Q6 hl.2 f t h
structure FnD where
 N:Nat
 np:Nat
 cs:List Con
 ds:List lg
 modes:List (Nat×List Bool):=[]
 keep:List (Nat×Keep):=[]
 keepX:List (Nat×Ex×Keep):=[]
 ro:List Bool:=[]
 dw:List (Nat×List (List Nat)):=[]
 hd:Bool:=false
 ns:List Nat:=[]
 bw:List (Nat×(Bool×Ty)):=[]
 so:List SoK:=[]
 cr:List Nat:=[]
 un:List Nat:=[]
 pre:List (Nat×List Gh):=[]
 rw:Bool:=false
 rn:List Nat:=[]
 b1:List Nat:=[]
 ks:List Nat:=[]
def preL:List (Nat×List Gh)->Nat->List Gh
 |[],_=>[]
 |x::r,i=>if x.1=i then x.2 else preL r i
def FnD.env(d:FnD)(T:List (Option TyI)):Env:=⟨⟨d.N,λ_=>false⟩,d.np,tab T,conC d.cs,Ji d.modes,sx d.ds,Jg d.keep,Jh d.keepX,d.ro,dwL d.dw,false,d.hd,d.ns,bwL d.bw,d.so,d.cr,λb=>d.un.contains b,preL d.pre,d.rw,d.rn,d.b1,λi=>d.ks.contains i⟩
theorem jyh{P:Program}{T:List (Option TyI)}(hT:cd P (tab T))(jQ:P.follows .mixedOrders=true)(d:FnD)(iF:Con)(fn:Func)(c:Code)(hf:P.funcs[iF.f]? = some fn)(hb:fn.body=some c)
  (hN : fn.ntmps = d.N) (ud : d.np ≤ d.N) (bT : (fn.name == "runtime.NumGoroutine") = false) (dr : Bt P d.cs) (hm : (fN 0 c).map (·.1) = d.ds.map (·.b)) (hn : mP (d.ds.map (·.b)) = true)
  (hs:ue (d.env T) c 0 d.ds)(hF:∀h,rJ (d.env T) fn (oF iF.ps iF.ts h) (EG iF.rp iF.rs)=iF.F h)(jP:EH P d.bw:=by trivial):iF.OK P:=by
 have hC:kA P (d.env T).C:=Jd d.cs dr;have pS:CFun (d.env T).C:=Jf d.cs;have hL:LFun (d.env T).L:=I8 d.ds;have mn:=QR (E:=d.env T) hT hC pS jQ hf hb hN rfl (Q6 jP) ud bT (jvp pS rfl rfl hm hn hs);intro args R k r hk;unfold Con.C at hk;split at hk
 .rename_i h hu;rw[EB hu];cases hq:iF.F h with
  |none=>simp[hq]at hk
  |some x=>
   rw[hq,j3]at hk;refine mn _ R k r ?_;obtain⟨o,ho⟩:=Z7 pS rfl hL fn (oF iF.ps iF.ts h);have h1:some x=_:=((hF h).trans hq).symm.trans (ho _ _);cases o with
   |none=>simp at h1
   |some ret=>rw[j3]at h1;show rJ (d.env T) fn (oF iF.ps iF.ts h) k=some r;refine(ho _ _).trans ?_;rw[j3,jrN h1.symm];exact hk
 .simp at hk
theorem cOf{P:Program}{T:List (Option TyI)}(hT:cd P (tab T))(jQ:P.follows .mixedOrders=true)(d:FnD)(iF:Con){fn:Func}(hf:P.funcs[iF.f]? = some fn)(dr:Bt P d.cs)
  (hs:ue (d.env T) (fn.body.getD .skip) 0 d.ds)(jP:EH P d.bw:=by trivial)(hb:fn.body=some (fn.body.getD .skip):=by kernel_rfl)(hN:fn.ntmps=d.N:=by kernel_rfl)
  (ud : Nat.ble d.np d.N = true := by kernel_rfl) (bT : (fn.name == "runtime.NumGoroutine") = false := by kernel_rfl) (hm : (fN 0 (fn.body.getD .skip)).map (·.1) = d.ds.map (·.b) := by kernel_rfl)
  (hn:mP (d.ds.map (·.b))=true:=by kernel_rfl)(hF:∀h,rJ (d.env T) fn (oF iF.ps iF.ts h) (EG iF.rp iF.rs)=iF.F h:=by intro h;kernel_rfl):iF.OK P:=
 jyh hT jQ d iF fn _ hf hb hN (zu ud) bT dr hm hn hs hF jP
def pT{α β:Type}(B:(α->Option β)->α->Option β):Nat->α->Option β
 |0,_=>none
 |n+1,a=>B (pT B n) a
open Classical in
def EI{α β:Type}(B:(α->Option β)->α->Option β)(a:α):Option β:=
 if h:∃x n,pT B n a=some x then some h.choose else none
theorem jtu{α β:Type}{B:(α->Option β)->α->Option β}{a:α}{x:β}(h1:∃n,pT B n a=some x)(h2:∀n y,pT B n a=some y->y=x):EI B a=some x:=by
 obtain⟨n,hn⟩:=h1;have hx:∃x n,pT B n a=some x:=⟨x,n,hn⟩;unfold EI;rw[dif_pos hx];obtain⟨m,hm⟩:=hx.choose_spec;rw[h2 m _ hm]
def FnD.envN(d:FnD)(T:List (Option TyI)):Env:=⟨⟨d.N,λ_=>false⟩,d.np,tab T,conC d.cs,Ji d.modes,sx d.ds,Jg d.keep,Jh d.keepX,d.ro,dwL d.dw,true,d.hd,d.ns,λ_=>none,d.so,d.cr,λ_=>false,λ_=>[],false,[],[],λ_=>false⟩
theorem jtv{α R:Type}(xs:List α)(K:List α->Option R){r:R}(h:(cond (decide (([]:List α).length+xs.length<=aP)) (some (([]:List α)++xs)) none).bind K=some r) :
  uQ (List.isEmpty xs) (K []) (cond (decide (([]:List α).length+xs.length<=aP)) (K (([]:List α)++xs)) none)=some r:=by
 cases hd:decide (([]:List α).length+xs.length<=aP) with
 |false=>rw[hd]at h;simp at h
 |true=>
  rw[hd]at h;simp only[j5,j3]at h ⊢;cases xs with
  |nil=>simp only[qe]at h ⊢;rw[Wo];exact h
  |cons x r=>exact h
theorem Q7{P:Program}{T:List (Option TyI)}(hT:cd P (tab T))(jQ:P.follows .mixedOrders=true)(d:FnD)(f:Nat)(a:Ty)(e:Nat)(fn:Func)(c:Code)(hf:P.funcs[f]? = some fn)(hb:fn.body=some c)
  (hN : fn.ntmps = d.N) (ud : d.np ≤ d.N) (bT : (fn.name == "runtime.NumGoroutine") = false) (dr : Bt P d.cs) (hl : fN 0 c = [])
  (hF:∀(h:List a.den)(R:Type)(k:Ret->Option R),rJ (d.envN T) fn [.v ⟨.list a,h⟩] k=uQ (List.isEmpty h) (k ⟨[.own e ⟨.list a,([]:List a.den)⟩],[]⟩)
   (cond (decide (([]:List a.den).length+List.length h<=aP)) (k ⟨[.own e ⟨.list a,([]:List a.den)++h⟩],[]⟩) none)) :
  Con.OK P ⟨f,[.v (.list a)],[.list a],⟨[.own e (.list a)],[]⟩,[.list a],λh=>cond (decide (([]:List a.den).length+List.length h<=aP)) (some (([]:List a.den)++h)) none⟩:=by
 have hC:kA P (d.envN T).C:=Jd d.cs dr;have pS:CFun (d.envN T).C:=Jf d.cs;have mn:=QR (E:=d.envN T) hT hC pS jQ hf hb hN rfl (λf t h=>by simp[FnD.envN]at h) ud bT (by rw[hl];simp);intro args R k r hk;unfold Con.C at hk;split at hk
 .rename_i h hu;rw[EB hu];refine mn _ R k r ?_;refine(hF h R k).trans ?_;exact jtv (α:=a.den) h (λx=>k ⟨[.own e ⟨.list a,x⟩],[]⟩) hk
 .simp at hk
def w64(x:Int):Int:=IntKind.wrap .i64 x
class LP where
 lp:{α β:Type}->(α->Option (α ⊕ β))->α->Option β
 rp:{α β:Type}->((α->Option β)->α->Option β)->α->Option β
noncomputable instance realLP:LP:=⟨loopOpt,EI⟩
abbrev gn(N:Nat):LP:=⟨λf a=>loopN f N a,λB a=>pT B N a⟩
theorem ah{x:Int}(h1 : -9223372036854775808<=x)(h2:x<=9223372036854775807):w64 x=x:=IntWalk.i64_in x ⟨h1,h2⟩
def lpK{α β:Type}(r:Option (α ⊕ β))(f:α->Option β):Option β:=match r with
 |none=>none
 |some (.inl s)=>f s
 |some (.inr x)=>some x
theorem aQ{α β:Type}(s:α)(f:α->Option β):lpK (some (.inl s)) f=f s:=rfl
theorem aY{α β:Type}(x:β)(f:α->Option β):lpK (some (.inr x)) f=some x:=rfl
theorem Jj{α β γ:Type}(x:α)(f:α->γ)(g:β->γ):sumC (.inl x) f g=f x:=rfl
theorem lT{α β γ:Type}(x:β)(f:α->γ)(g:β->γ):sumC (.inr x) f g=g x:=rfl
theorem bt{α β:Type}(f:α->Option (α ⊕ β))(s:α):loopOpt f s=lpK (f s) (loopOpt f):=by
 cases h:f s with
 |none=>
  cases hq:loopOpt f s with
  |none=>rfl
  |some x=>obtain⟨n,hn⟩:=Br hq;cases n<;>simp[loopN,h]at hn
 |some r=>
  cases r with
  |inl s'=>exact jnU h
  |inr x=>exact jpu h
section
variable{S0:aH}{w0:World}{refs:Refs}
theorem Jk{P:Program}{E:Env}(hT:cd P E.T)(hC:kA P E.C){ops:Array Oper}{R:Type}{k:St->Option R}{r:R}{Q:Exit->Go.Act->World->Prop}{n:Nat}{rest:List Nat}
  (hn:∀σ' a' w' S' γ',Rel E.N E.np S0 w0 refs σ' a' w' S' γ'->dg σ'->k σ'=some r->wpOpsIn (FR none) n P ops Q rest a' w') :
  ∀(l:List Oper)(i:Nat){σ:St}{a:Go.Act}{w:World}{S:aH}{γ:Nat->Value},(∀j o,l[j]? = some o->ops[i+j]? = some o/\o.guard=none)->Rel E.N E.np S0 w0 refs σ a w S γ->dg σ->oa E l σ k=some r->
   wpOpsIn (FR none) n P ops Q (List.range' i l.length++rest) a w
 |[],i,σ,a,w,S,γ,hl,hR,hc,h=>hn _ _ _ _ _ hR hc h
 |o::l,i,σ,a,w,S,γ,hl,hR,hc,h=>by
  simp only[oa]at h;split at h
  .rename_i hd;obtain⟨ho,hg⟩:=hl 0 o rfl;have hw:Region.wanted o (yielded ops a.tmps)=true:=by simp[Region.wanted,hg]
   simp only[jo,vb,vc,wpOpsIn,show ops[i]? = some o from ho,hw,if_true];refine Ek (.inl rfl) (λ_ _ h=>h) (x8 hT hC hR (act:=[]) (λg hg=>by simp at hg) (p:=false) (λ_=>hc) hd h (λσ' a' w' S' γ' cE dp hk=>?_));exact Jk hT hC hn l (i+1) (λj o' hj=>by rw[show i+1+j=i+(j+1) by omega];exact hl (j+1) o' (by simpa using hj)) cE (dp rfl) hk
  .simp at h
theorem Bu{N:NT}{np:Nat}{fx:Nat->Option Value}{σ:St}{a:Go.Act}{W:World}{S:aH}(bF:a.tmps.size=N.n)(hd:a.defers=[])(aR:∀k,σ.bx k = .free)(hS:∀g o,S g o->g<W.heap.size)
  (pG:∀i,gI S W (λ_=>undef) σ.bx (tm a) (σ.sl i) (tm a i))(Jl:∀i v,fx i=some v->N.pin i=true/\tm a i=v):Rel N np S W { blks:=[],val:=λ_=>none,fix:=fx } σ a W S (λ_=>undef):=
 ⟨bF,hd,pG,λk b h=>by rw[aR]at h;simp at h,λk b g h=>by rw[aR]at h;simp at h,λk k' b b' g _ h=>by rw[aR]at h;simp at h,λ_ _ h=>h,λ_ _ h=> .inl h,hS,λ_ _ _=>rfl,jq _,rfl,rfl,rfl,
  λk v h=>by simp at h,λg o h=>by simp at h,Jl⟩
theorem ug{N:NT}{np:Nat}{fx:Nat->Option Value}{σ:St}{a:Go.Act}{w:World}{S:aH}{γ:Nat->Value}(hR:Rel N np S0 w0 { blks:=[],val:=λ_=>none,fix:=fx } σ a w S γ):Grew w0 w:=
 ⟨λg hg=>hR.below g hg (λh=>by have h:g∈([]:List Nat):=h;simp at h),hR.grow,hR.os,hR.tape,hR.output⟩
theorem jnY{P:Program}{a:Go.Act}{w:World}{o:Oper}{cl:Call}(ho:o.op = .call cl){x:Operand}(hc:cl.callee = .value x){l:Nat}(hx:a.eval x = .func (.yield l) #[] #[]){nx:Next}{w':World}
  (hy:(Instr.yield l (cl.args.map a.eval)).run P w = .ok nx w'):(execOp a.eval o).run P w = .ok nx w':=by
 simp[execOp,ho,resolve,hc,Deferred.ofValue,hx,invoke,hy]
end
section
variable{S0:aH}{w0:World}{refs:Refs}
def bwE(T:Nat->Option TyI):Env:=
 { N:=⟨19,λi=>i==0||(i==1||i==11)⟩,np:=0,T:=T,C:=λ_ _ _ _=>none,modes:=λ_=>[],L:=λ_ _ _ _=>none,keep:=λ_=>⟨[],[],[],[]⟩,keepX:=λ_ _=>⟨[],[],[],[]⟩,ro:=[] }
def slF(l:List (Nat×Cel)):St:={ sl:=λj=>match l.find? (λx=>x.1==j) with|some x=> .one x.2|none=> .one (.one .dead),bx:=λ_=> .free }
def g3(σ:St):Option Int:=match σ.sl 3 with
 |.one (.one (.d (.int .i64) v))=>some v
 |_=>none
def g1(σ:St):Option (Bool×Int):=match σ.sl 8,σ.sl 3 with
 |.one (.one (.d .bool b)),.one (.one (.d (.int .i64) v))=>some (b,v)
 |_,_=>none
def g18(σ:St):Option (Bool×Int):=match σ.sl 18,σ.sl 3 with
 |.one (.one (.d .bool b)),.one (.one (.d (.int .i64) v))=>some (b,v)
 |_,_=>none
def g16(t:Ty)(σ:St):Option (Int×t.den×Int):=match σ.sl 12,σ.sl 16,σ.sl 3 with
 |.one (.one (.d (.int .i64) u)),.one c,.one (.one (.d (.int .i64) v))=>match nY (λ_=> .gone) t c with
  |some (x,[])=>some (u,x,v)
  |_=>none
 |_,_,_=>none
def lstP(t:Ty)(xs:List t.den):Cel:= .one (.ip [⟨.list t,xs⟩])
def intP(i:Int):Cel:= .one (.d (.int .i64) i)
theorem Bv(l:List (Nat×Cel)):dg (slF l):=λi=>by
 simp only[slF];split<;>rfl
theorem jvt{np:Nat}{σ:St}:RdF np σ (λ_=> .gone):=⟨λ_=> .inr rfl,λk e a xs f h=>by simp at h⟩
theorem Bw{S:aH}{W:World}{γ:Nat->Value}{l:List (Nat×Cel)}{Jm:Nat->Value}(h:∀x∈l,bz S W γ (λ_=> .free) x.2 (Jm x.1))(i:Nat):gI S W γ (λ_=> .free) Jm ((slF l).sl i) (Jm i):=by
 simp only[slF];split
 .rename_i x hx;have:=h x (List.mem_of_find?_eq_some hx);have e:=List.find?_some hx;simp only[qv]at e;rw[<-e];exact this
 .exact⟨trivial,λh=>absurd rfl h⟩
theorem Jn{P:Program}{T:Nat->Option TyI}(hT:cd P T){IB n:Nat}{A:Array Oper}{σ:St}{fx:Nat->Option Value}{a:Go.Act}{w:World}{S:aH}{γ:Nat->Value}{R:Type}{k:St->Option R}{r:R}
  (hR:Rel (bwE T).N (bwE T).np S0 w0 { blks:=[],val:=λ_=>none,fix:=fx } σ a w S γ)(hc:dg σ)(h:ob (bwE T) A σ k=some r) :
  (Code.region IB A false).wpIn (FR none) n P (λe a' w'=>e = .normal/\∃σ' S' γ',Rel (bwE T).N (bwE T).np S0 w0 { blks:=[],val:=λ_=>none,fix:=fx } σ' a' w' S' γ'/\k σ'=some r) a w:=
 wpIn_region (ya (.inl rfl) (by rintro⟨a,w,h,_⟩;cases h) _ _ _ (PR hT (λf=>Jc) hR hc (λσ' a' w' S' γ' cE _ hk=>⟨rfl,σ',S',γ',cE,hk⟩) h))
theorem Q8{σ:St}{v:Int}(h:g3 σ=some v):σ.sl 3 = .one (.one (.d (.int .i64) v)):=by
 unfold g3 at h;split at h
 .rename_i u hu;simp only[j4]at h;subst h;exact hu
 .simp at h
theorem jzu{σ:St}{b:Bool}{v:Int}(h:g1 σ=some (b,v)):σ.sl 8 = .one (.one (.d .bool b))/\σ.sl 3 = .one (.one (.d (.int .i64) v)):=by
 unfold g1 at h;split at h
 .rename_i hb hu;simp only[j4,j8]at h;obtain⟨rfl,rfl⟩:=h;exact⟨hb,hu⟩
 .simp at h
theorem jyj{σ:St}{b:Bool}{v:Int}(h:g18 σ=some (b,v)):σ.sl 18 = .one (.one (.d .bool b))/\σ.sl 3 = .one (.one (.d (.int .i64) v)):=by
 unfold g18 at h;split at h
 .rename_i hb hu;simp only[j4,j8]at h;obtain⟨rfl,rfl⟩:=h;exact⟨hb,hu⟩
 .simp at h
theorem jyk{t:Ty}{σ:St}{i:Int}{x:t.den}{v:Int}(h:g16 t σ=some (i,x,v)):σ.sl 12 = .one (.one (.d (.int .i64) i))/\σ.sl 3 = .one (.one (.d (.int .i64) v))/\∃c,σ.sl 16 = .one c/\nY (λ_=> .gone) t c=some (x,[]):=by
 unfold g16 at h;split at h
 .rename_i c _ vO Jo h3;split at h
  .rename_i hx;simp only[j4,j8]at h;obtain⟨rfl,rfl,rfl⟩:=h;exact⟨vO,h3,c,Jo,hx⟩
  .simp at h
 .simp at h
theorem yn{N:NT}{np:Nat}{σ:St}{a:Go.Act}{w:World}{S:aH}{γ:Nat->Value}(hR:Rel N np S0 w0 refs σ a w S γ){s:Nat}{v:Int}(h:σ.sl s = .one (.one (.d (.int .i64) v))):tm a s = .int .i64 v:=by
 have:=hR.slot s;rw[h]at this;have h1:[a.tmps.getD s undef]=[Value.int .i64 v]:=this.1;simpa[tm]using h1
theorem Q9{N:NT}{np:Nat}{σ:St}{a:Go.Act}{w:World}{S:aH}{γ:Nat->Value}(hR:Rel N np S0 w0 refs σ a w S γ){s:Nat}{v:Bool}(h:σ.sl s = .one (.one (.d .bool v))):tm a s = .bool v:=by
 have:=hR.slot s;rw[h]at this;have h1:[a.tmps.getD s undef]=[Value.bool v]:=this.1;simpa[tm]using h1
theorem jzv{P:Program}{T:Nat->Option TyI}(hT:cd P T){f:Nat}{t:Ty}{fn:Func}(hf:P.funcs[f]? = some fn){r0 b0 r1 b1 r3 r2:Nat}{A0 A1 A2:Array Oper}{o0 o6 o7:Oper}{l3:List Oper}{cl:Call}
  (hb:fn.body=some ((Code.region r0 A0 false).seq (Code.block b0 ((((Code.region r1 A1 false).seq (Code.cond (.tmp 8) .skip (.exit b0))).seq ((Code.block b1 ((Code.region r3 (o0::(l3++[o6,o7])).toArray false).seq (Code.cond (.tmp 18) .ret .skip))).seq (Code.region r2 A2 false))).loop))))
  (Jp : fn.ntmps = 19) (la : fn.results = #[]) (bT : (fn.name == "runtime.NumGoroutine") = false) (yo : l3.length = 5) (cQ : (o0 :: (l3 ++ [o6, o7])).all (fun o => o.guard.isNone) = true)
  (wI:o0.op = .move (.tmp 0))(Jq:o0.dst=some 11)(wJ:o6.op = .call cl)(Jr:cl.callee = .value (.tmp 11))(EJ:cl.args = #[.tmp 12,.tmp 16])(h6d:o6.dst=some 17)
  (e0:∀xs:List t.den,ob (bwE T) A0 (slF [(1,lstP t xs)]) g3=some (w64 (Int.ofNat (List.length xs)-1)))
  (e1:∀i:Int,ob (bwE T) A1 (slF [(3,intP i)]) g1=some (decide (i>=0),i))
  (e2:∀i:Int,ob (bwE T) A2 (slF [(3,intP i)]) g3=some (w64 (i-1)))
  (e3:∀(xs:List t.den)(i:Int),oa (bwE T) l3 (slF [(1,lstP t xs),(3,intP i)]) (g16 t)=cond (inR i (List.length xs)) (some (i,List.getD xs (Int.toNat i) t.dflt,i)) none)
  (e7:∀(b:Bool)(i:Int),oa (bwE T) [o7] (slF [(17,.one (.d .bool b)),(3,intP i)]) g18=some (!b,i)):BwOK P f t:=by
 refine⟨⟨fn,hf,by rw[hb];rfl,bT⟩,?_⟩;intro cv m l J Jx W S aA vX eP hY mF ye;have hC:kA P (bwE T).C:=λf=>Jc;obtain⟨S0,fX,hm,hS0,nf⟩:=mF
 obtain⟨z0,mj⟩:∃z0,cv = #[z0]:=by
  have:=nf.length;obtain⟨cl⟩:=cv;match cl,this with
  |[z],_=>exact⟨z,rfl⟩
 subst mj;refine callsIn_of_wp hf hb trivial ?_;rw[Jp];obtain⟨yv,IF⟩:∃yv,yv=Value.func (.yield l) #[] #[]:=⟨_,rfl⟩;obtain⟨R,hR⟩:∃R:Ending->World->Prop,R=λe W'=>(∃v,e = .returned v)/\((∃S',J m S' W')\/Jx W'):=⟨_,rfl⟩;rw[<-IF,<-hR];let fx:Nat->Option Value:=λi=>if i=0 then some yv else if i=1 then some z0 else none
 let Fr:Go.Act->Prop:=λa=>a.tmps.size=19/\a.defers=[]/\tm a 0=yv/\tm a 1=z0
 let Inv:Go.Act->World->Prop:=λa W=>Fr a/\∃j S,j<=m/\J j S W/\tm a 3 = .int .i64 ((m:Int)-1-j)
 let μ:Go.Act->World->Nat:=λa W=>match tm a 3 with
  |.int _ v=>(v+1).toNat
  |_=>0
 have dF:∀{a:Go.Act}{W':World},a.defers=[]->((∃S',J m S' W')\/Jx W')->a.defers=[]/\∃v,(results fn a.tmps).run P W' = .ok v W'/\R (.returned v) W':=by intro a W' hd h;exact⟨hd,_,results_none la _ _ _,by rw[hR];exact⟨⟨_,rfl⟩,h⟩⟩
 have gC:∀{σ:St}{a:Go.Act}{w w0:World}{S S0:aH}{γ:Nat->Value},Rel (bwE T).N (bwE T).np S0 w0 { blks:=[],val:=λ_=>none,fix:=fx } σ a w S γ->Fr a:=λhR=>
  ⟨hR.size,hR.defers,(hR.fix 0 yv rfl).2,(hR.fix 1 z0 rfl).2⟩
 have lh:∀{a:Go.Act},Fr a->∀i v,fx i=some v->(bwE T).N.pin i=true/\tm a i=v:=by
  intro a ha i v hv;simp only[fx]at hv;split at hv
  .rename_i e;subst e;simp only[j4]at hv;subst hv;exact⟨rfl,ha.2.2.1⟩
  .split at hv
   .rename_i _ e;subst e;simp only[j4]at hv;subst hv;exact⟨rfl,ha.2.2.2⟩
   .simp at hv
 have same:∀{j:Nat}{S:aH}{W W':World},J j S W->Grew W W'->yb S W S W':=λhJ hg=>⟨λ_ _ h=>h,λ_ _ h=> .inl h,λg o h=>kr (eP _ _ _ hJ g o h) hg.size⟩
 have hmlt:m<=9223372036854775807:=by
  obtain⟨g,o,cs,_,al,_⟩:=nf.1;match cs,al with
  |[z],al=>obtain⟨ad,cap,_,h1,h2,_⟩:=al.1;simp only[maxLen]at h2;have h1:List.length fX<=cap:=h1;omega
 obtain⟨a0,yi⟩:∃a0:Go.Act,a0={ tmps:=#[yv] ++ #[z0]++Array.replicate (19-(#[yv] ++ #[z0]).size) undef,defers:=[] }:=⟨_,rfl⟩;rw[<-yi]
 have sy:Fr a0:=by
  subst yi;refine⟨?_,rfl,?_,?_⟩
  .simp
  .simp[tm]
  .simp[tm]
 have mF:Rel (bwE T).N (bwE T).np S0 W { blks:=[],val:=λ_=>none,fix:=fx } (slF [(1,lstP t fX)]) a0 W S0 (λ_=>undef):=
  Bu sy.1 sy.2.1 (λ_=>rfl) hS0 (Bw (λx hx=>by
   simp only[kf]at hx;subst hx;rw[sy.2.2.2];exact⟨nf.1,λ_=>by obtain⟨g,o,cs,hu,_⟩:=nf.1;rw[hu];rfl⟩)) (lh sy)
 refine wpIn_seq (wpIn_mono (Jn hT mF (Bv _) (e0 fX)) ?_)
 rintro e a W1 ⟨rfl,σ1,S1,γ1,bj,dD⟩
 show (Code.block b0 _).wpIn _ _ _ _ _ _;have h3:=yn bj (Q8 dD);refine wpIn_block (wpIn_loop Inv μ ⟨gC bj,0,S,k7 _,aA _ _ _ _ _ (ug bj) (same ye (ug bj)) ye,?_⟩ ?_)
 .rw[h3,hm,ah (by simp;omega) (by simp;omega)];simp
 .rintro a W ⟨Js,j,S,tS,hJ,h3⟩
  have hint:∀{a:Go.Act}{W:World}{S:aH}{v:Int},tm a 3 = .int .i64 v->bz S W (λ_=>undef) (λ_=> .free) (intP v) (tm a 3):=λh=>by rw[h];exact⟨rfl,λ_=>rfl⟩
  have hRs:Rel (bwE T).N (bwE T).np S W { blks:=[],val:=λ_=>none,fix:=fx } (slF [(3,intP ((m:Int)-1-j))]) a W S (λ_=>undef):=
   Bu Js.1 Js.2.1 (λ_=>rfl) (eP _ _ _ hJ) (Bw (λx hx=>by
    simp only[kf]at hx;subst hx;exact hint h3)) (lh Js)
  refine wpIn_seq (wpIn_seq (wpIn_mono (Jn hT hRs (Bv _) (e1 _)) ?_))
  rintro e a1 W1 ⟨rfl,σ1,S1,γ1,bj,dD⟩
  obtain⟨h8,Jt⟩:=jzu dD;have Jt:=yn bj Jt;have h8:a1.eval (.tmp 8) = .bool (decide ((m:Int)-1-j>=0)):=Q9 bj h8;have Ju:=aA _ _ _ _ _ (ug bj) (same hJ (ug bj)) hJ;have mG:=gC bj;show (Code.cond _ _ _).wpIn _ _ _ _ _ _;by_cases bG:(m:Int)-1-j>=0
  case neg=>
   rw[decide_eq_false bG]at h8;refine wpIn_cond_false h8 (wpIn_exit ?_);show Exit.inBlock b0 (bodyPost P fn R) (.exit b0) a1 W1;simp only[Exit.inBlock,if_true];have hj:j=m:=by omega
   subst hj;exact dF mG.2.1 (.inl ⟨S,Ju⟩)
  case pos=>
  rw[vw bG]at h8;refine wpIn_cond_true h8 (wpIn_skip ?_);show (Code.seq _ _).wpIn _ _ _ _ _ _;have Jv:j<m:=by omega
  obtain⟨xs,cJ,hlen,lN⟩:=hY j S W1 Jv Ju;refine wpIn_seq (wpIn_block (wpIn_seq (wpIn_region ?_)));obtain⟨ops,wK⟩:∃ops,ops=(o0::(l3++[o6,o7])).toArray:=⟨_,rfl⟩;rw[<-wK];have nG:∀k,ops[k]? = (o0::(l3++[o6,o7]))[k]? := λk=>by rw[wK];exact List.getElem?_toArray
  have bh:∀o∈o0::(l3++[o6,o7]),o.guard=none:=λo ho=>by have:=jp.1 cQ o ho;simpa using this
  have bF:ops.size=8:=by rw[wK];simp[yo]
  have hw:∀(o:Oper)(a:Go.Act),o∈o0::(l3++[o6,o7])->Region.wanted o (yielded ops a.tmps)=true:=λo a ho=>by simp[Region.wanted,bh o ho]
  rw[bF,show List.range 8=0::(List.range' 1 l3.length++[6,7]) by rw[yo];rfl];have Jw:ops[0]? = some o0:=by rw[nG];rfl
  simp only[wpOpsIn,Jw,hw o0 _ (qx ..),if_true];refine Ek (.inl rfl) (λ_ _ h=>h) ?_;unfold Oper.wp;rw[show (execOp a1.eval o0).run P W1 = .ok (.value (a1.eval (.tmp 0))) W1 by simp[execOp,wI,go_sem],Oper.upon_value,Jq];have uh:a1.eval (.tmp 0)=yv:=mG.2.2.1;rw[uh];have Bz:11<a1.tmps.size:=by rw[mG.1];omega
  obtain⟨a2,qQ⟩:∃a2,a2=a1.put (some 11) yv:=⟨_,rfl⟩;rw[<-qQ];have sA:∀i,tm a2 i=if i=11 then yv else tm a1 i:=λi=>by rw[qQ];exact xY Bz yv i
  have sB:Fr a2:=⟨by rw[qQ,HN];exact mG.1,by rw[qQ,HO];exact mG.2.1,by rw[sA];exact mG.2.2.1,by rw[sA];exact mG.2.2.2⟩;let Ra:Nat->Option Value:=λi=>if i=11 then some yv else fx i
  have bY:Rel (bwE T).N (bwE T).np S W1 { blks:=[],val:=λ_=>none,fix:=Ra } (slF [(1,lstP t xs),(3,intP ((m:Int)-1-j))]) a2 W1 S (λ_=>undef):=
   Bu sB.1 sB.2.1 (λ_=>rfl) (eP _ _ _ Ju) (Bw (λx hx=>by
    simp only[jd,vd,or_false]at hx;rcases hx with rfl|rfl
    .rw[sB.2.2.2];exact⟨cJ.1,λ_=>by obtain⟨g,o,cs,hu,_⟩:=cJ.1;rw[hu];rfl⟩
    .exact hint (by rw[sA];exact Jt))) (λi v hv=>by
     simp only[Ra]at hv;split at hv
     .rename_i e;subst e;simp only[j4]at hv;subst hv;exact⟨rfl,by rw[sA,if_pos rfl]⟩
     .exact lh sB i v hv)
  have hx:∃x,xs[m-1-j]? = some x/\List.getD xs (Int.toNat ((m:Int)-1-j)) t.dflt=x:=by refine⟨xs[m-1-j]'hlen,jj hlen,?_⟩;rw[show Int.toNat ((m:Int)-1-j)=m-1-j by omega];simp[List.getD,hlen]
  obtain⟨x,hx,hxd⟩:=hx;have Rb:=e3 xs ((m:Int)-1-j)
  rw[hxd,show inR ((m:Int)-1-j) (List.length xs)=true by
   unfold inR;rw[vw (show (0:Int)<=(m:Int)-1-j by omega),vw (show (m:Int)-1-j<(List.length xs:Int) by omega)];rfl,j5]at Rb
  refine Jk hT hC ?_ l3 1 (λk o hk=>⟨?_,?_⟩) bY (Bv _) Rb
  rotate_left
  .rw[nG,Nat.add_comm,vi,List.getElem?_append_left (ju.1 hk).1];exact hk
  .exact bh o (v6 _ (kj _ (jy hk)))
  intro σ3 a3 W3 S3 γ3 fi _ iE;obtain⟨vO,Jy,c,Jo,Jz⟩:=jyk iE;have vO:=yn fi vO;have Jy:=yn fi Jy;have JA:VRep S3 W3 ⟨t,x⟩ (tm a3 16):=by have:=fi.slot 16;rw[Jo]at this;exact(zP (np:=(bwE T).np) jvt fi.box Jz this).2.1 S3 W3 (.refl _ _) (λy hy=>by simp at hy)
  have Hl:=ug fi;have h11:tm a3 11=yv:=(fi.fix 11 yv rfl).2;have pU:Fr a3:=⟨fi.size,fi.defers,(fi.fix 0 yv rfl).2,(fi.fix 1 z0 rfl).2⟩;obtain⟨fn6,BA,as6,bo6,hy6,pV⟩:=lN S3 W3 x _ Hl ⟨fi.ext,fi.new,fi.here⟩ hx JA;have JB:ops[6]? = some o6:=by rw[nG,vi,k9 (by omega),yo];rfl
  have JC:ops[7]? = some o7:=by rw[nG,vi,k9 (by omega),yo];rfl
  simp only[wpOpsIn,JB,hw o6 _ (by simp),if_true];refine⟨λ_ _=>trivial,?_⟩
  have az:(execOp a3.eval o6).run P W3 = .ok (.round l fn6 BA as6 bo6) W3:=by
   refine jnY wJ Jr (l:=l) (by rw[<-IF];exact h11) ?_;rw[EJ];have JD:a3.eval (.tmp 12) = .int .i64 ((m-1-j:Nat):Int):=by rw[show ((m-1-j:Nat):Int)=(m:Int)-1-j by omega];exact vO
   have e16:a3.eval (.tmp 16)=tm a3 16:=rfl;simp only[List.map_toArray,ka,List.map_nil,JD,e16];exact hy6
  rw[show o6.semAt (FR none).round a3.eval=execOp a3.eval o6 from rfl,az,Oper.uponIn_round];refine⟨λhd=>by simp[FR,Fence.wide]at hd,?_⟩;refine RoundIn.mono ⟨pV.1,λc cs _=>pV.2 c cs (Qm _ _)⟩ ?_;have BB:17<a3.tmps.size:=by rw[pU.1];omega
  have rest:∀(bb:Bool)(W4:World)(S4:aH),(∀g o,S4 g o->g<W4.heap.size)->
    (∀a5 W5,Fr a5->Grew W4 W5->tm a5 18 = .bool (!bb)->tm a5 3 = .int .i64 ((m:Int)-1-j)->(Exit.then ((Code.cond (.tmp 18) .ret .skip).wpIn (FR none) 0 P (Exit.inBlock b1 (Exit.then ((Code.region r2 A2 false).wpIn (FR none) 0 P (Exit.then (λa' W'=>Inv a' W'/\μ a' W'<μ a W) (Exit.inBlock b0 (bodyPost P fn R))))
     (Exit.then (λa' W'=>Inv a' W'/\μ a' W'<μ a W) (Exit.inBlock b0 (bodyPost P fn R)))))) (Exit.inBlock b1 (Exit.then ((Code.region r2 A2 false).wpIn (FR none) 0 P (Exit.then (λa' W'=>Inv a' W'/\μ a' W'<μ a W) (Exit.inBlock b0 (bodyPost P fn R))))
     (Exit.then (λa' W'=>Inv a' W'/\μ a' W'<μ a W) (Exit.inBlock b0 (bodyPost P fn R)))))) .normal a5 W5)->
    wpOpsIn (FR none) 0 P ops (Exit.then ((Code.cond (.tmp 18) .ret .skip).wpIn (FR none) 0 P (Exit.inBlock b1 (Exit.then ((Code.region r2 A2 false).wpIn (FR none) 0 P (Exit.then (λa' W'=>Inv a' W'/\μ a' W'<μ a W) (Exit.inBlock b0 (bodyPost P fn R))))
     (Exit.then (λa' W'=>Inv a' W'/\μ a' W'<μ a W) (Exit.inBlock b0 (bodyPost P fn R)))))) (Exit.inBlock b1 (Exit.then ((Code.region r2 A2 false).wpIn (FR none) 0 P (Exit.then (λa' W'=>Inv a' W'/\μ a' W'<μ a W) (Exit.inBlock b0 (bodyPost P fn R))))
     (Exit.then (λa' W'=>Inv a' W'/\μ a' W'<μ a W) (Exit.inBlock b0 (bodyPost P fn R)))))) [7] (a3.put o6.dst (.bool bb)) W4:=by
   intro bb W4 S4 hS4 fT;rw[h6d];obtain⟨a4,EK⟩:∃a4,a4=a3.put (some 17) (.bool bb):=⟨_,rfl⟩;rw[<-EK];have sC:∀i,tm a4 i=if i=17 then .bool bb else tm a3 i:=λi=>by rw[EK];exact xY BB _ i
   have wL:Fr a4:=⟨by rw[EK,HN];exact pU.1,by rw[EK,HO];exact pU.2.1,by rw[sC];exact pU.2.2.1,by rw[sC];exact pU.2.2.2⟩
   have oA:Rel (bwE T).N (bwE T).np S4 W4 { blks:=[],val:=λ_=>none,fix:=fx } (slF [(17,.one (.d .bool bb)),(3,intP ((m:Int)-1-j))]) a4 W4 S4 (λ_=>undef):=
    Bu wL.1 wL.2.1 (λ_=>rfl) hS4 (Bw (λx hx=>by
     simp only[jd,vd,or_false]at hx;rcases hx with rfl|rfl
     .rw[sC,if_pos rfl];exact⟨rfl,λ_=>rfl⟩
     .exact hint (by rw[sC];exact Jy))) (lh wL)
   refine Jk (rest:=[]) hT hC (λσ5 a5 W5 S5 γ5 na _ pO=>?_) [o7] 7 (λk o hk=>?_) oA (Bv _) (e7 bb _)
   .obtain⟨q1,q2⟩:=jyj pO;exact fT a5 W5 (gC na) (ug na) (Q9 na q1) (yn na q2)
   .cases k with
    |zero=>simp at hk;subst hk;exact⟨JC,bh _ (by simp)⟩
    |succ k=>simp at hk
  rintro e W4 (⟨rfl,S4,JE⟩|⟨rfl,hx4⟩)
  .refine rest true W4 S4 (eP _ _ _ JE) (λa5 W5 pW EL JF Rc=>?_);refine wpIn_cond_false (c:= .tmp 18) JF (wpIn_skip ?_);show (Code.region r2 A2 false).wpIn _ _ _ _ _ _;have JG:=aA _ _ _ _ _ EL (same JE EL) JE
   have na:Rel (bwE T).N (bwE T).np S4 W5 { blks:=[],val:=λ_=>none,fix:=fx } (slF [(3,intP ((m:Int)-1-j))]) a5 W5 S4 (λ_=>undef):=
    Bu pW.1 pW.2.1 (λ_=>rfl) (eP _ _ _ JG) (Bw (λx hx=>by
     simp only[kf]at hx;subst hx;exact hint Rc)) (lh pW)
   refine wpIn_mono (Jn hT na (Bv _) (e2 _)) ?_
   rintro e a6 W6 ⟨rfl,σ6,S6,γ6,uc,hk6⟩
   have ui:=yn uc (Q8 hk6);rw[ah (by omega) (by omega)]at ui;refine⟨⟨gC uc,j+1,S4,by omega,aA _ _ _ _ _ (ug uc) (same JG (ug uc)) JG,?_⟩,?_⟩
   .rw[ui];congr 1;push_cast;omega
   .simp only[μ,ui,h3];omega
  .refine rest false W4 (λ_ _=>False) (λ_ _ h=>h.elim) (λa5 W5 pW EL JF Rc=>?_);refine wpIn_cond_true (c:= .tmp 18) JF (wpIn_ret ?_);exact dF pW.2.1 (.inr (vX _ _ EL hx4))
end
def wM:Code->List (Nat×Array Oper)
 |.seq x y=>wM x++wM y
 |.cond _ x y=>wM x++wM y
 |.block _ c=>wM c
 |.loop c=>wM c
 |.region id ops _=>[(id,ops)]
 |_=>[]
def bwA(fn:Func)(i:Nat):Array Oper:=(((wM (fn.body.getD .skip)).find? λx=>x.1==i).getD (0, #[])).2
def opAt(A:Array Oper)(i:Nat):Oper:=(A[i]?).getD default
def JH(o:Oper):Call:=match o.op with
 |.call c=>c
 |_=>default
theorem jyl{P:Program}{T:Nat->Option TyI}(hT:cd P T){f:Nat}{t:Ty}{fn:Func}(hf:P.funcs[f]? = some fn){A0 A1 A2 A3:Array Oper}
  (hb:fn.body=some ((Code.region 0 A0 false).seq (Code.block 0 ((((Code.region 1 A1 false).seq (Code.cond (.tmp 8) .skip (.exit 0))).seq ((Code.block 1 ((Code.region 3 A3 false).seq (Code.cond (.tmp 18) .ret .skip))).seq (Code.region 2 A2 false))).loop))))
  (hA:A3=(opAt A3 0::((A3.toList.drop 1).take 5++[opAt A3 6,opAt A3 7])).toArray)
  (Jp : fn.ntmps = 19) (la : fn.results = #[]) (bT : (fn.name == "runtime.NumGoroutine") = false) (yo : ((A3.toList.drop 1).take 5).length = 5) (cQ : (opAt A3 0 :: ((A3.toList.drop 1).take 5 ++ [opAt A3 6, opAt A3 7])).all (fun o => o.guard.isNone) = true)
  (wI:(opAt A3 0).op = .move (.tmp 0))(Jq:(opAt A3 0).dst=some 11)(wJ:(opAt A3 6).op = .call (JH (opAt A3 6)))(Jr:(JH (opAt A3 6)).callee = .value (.tmp 11))(EJ:(JH (opAt A3 6)).args = #[.tmp 12,.tmp 16]/\(opAt A3 6).dst=some 17)
  (e0:∀xs:List t.den,ob (bwE T) A0 (slF [(1,lstP t xs)]) g3=some (w64 (Int.ofNat (List.length xs)-1)))
  (e1:∀i:Int,ob (bwE T) A1 (slF [(3,intP i)]) g1=some (decide (i>=0),i))
  (e2:∀i:Int,ob (bwE T) A2 (slF [(3,intP i)]) g3=some (w64 (i-1)))
  (e3:∀(xs:List t.den)(i:Int),oa (bwE T) ((A3.toList.drop 1).take 5) (slF [(1,lstP t xs),(3,intP i)]) (g16 t)=cond (inR i (List.length xs)) (some (i,List.getD xs (Int.toNat i) t.dflt,i)) none)
  (e7:∀(b:Bool)(i:Int),oa (bwE T) [opAt A3 7] (slF [(17,.one (.d .bool b)),(3,intP i)]) g18=some (!b,i)):BwOK P f t:=by
 rw[hA]at hb;exact jzv hT hf hb Jp la bT yo cQ wI Jq wJ Jr EJ.1 EJ.2 e0 e1 e2 e3 e7
section
variable{P:Program}{E:Env}{ops pre:Array Oper}{cl:List Nat}{τ:Nat->St}{S0:aH}{w0:World}{refs:Bool->Refs}
end
section
variable{S0:aH}{w0:World}{refs:Refs}
def g7(σ:St):Option (Bool×Int):=match σ.sl 7,σ.sl 3 with
 |.one (.one (.d .bool b)),.one (.one (.d (.int .i64) v))=>some (b,v)
 |_,_=>none
theorem Grew.trans{w w' uX:World}(h:Grew w w')(h':Grew w' uX):Grew w uX:=
 ⟨λg hg=>(h'.old g (kr hg h.size)).trans (h.old g hg),kx h.size h'.size,h'.os.trans h.os,h'.tape.trans h.tape,h'.output.trans h.output⟩
end
open Go.RowKit Go.WideShapes Go.ChangeShapes
theorem jty{P:Program}{f:Nat}{ps:List APat}{ts:List Ty}{F:HL ts->Option Bool}(br:Con.OK P ⟨f,ps,ts,⟨[.v .bool],[]⟩,[.bool],F⟩)(h:HL ts)(hF:F h=some true)
  (w:World)(S:aH)(vals:List Value)(ha:All2 (mm S w) (oF ps ts h) vals)(hr:dZ (oF ps ts h) vals=[])(hS:∀g o,S g o->g<w.heap.size)(hu:EA ps ts (oF ps ts h)=some h) :
  Calls P f vals.toArray w λe w'=>e = .returned (.bool true)/\Below w.heap.size w w':=by
 have:=(br (oF ps ts h) Ret some (mE ⟨[.v .bool],[]⟩ [.bool] true) (by
  unfold Con.C;rw[hu];show (F h).bind _=_;rw[hF];rfl)).2
 refine(this w S vals ha (by rw[hr];exact zh) hS).mono ?_
 rintro e w' ⟨ret,bH,v,S',vs,rfl,br⟩
 simp only[j4]at bH;subst bH;have bk:All2 (ot S' w') [.v ⟨.bool,true⟩] vs:=br.rep;refine⟨?_,br.os,br.tape,br.output,br.grow,λk hk=>br.below k hk (by rw[hr];simp)⟩;rw[br.val];match vs,bk with
 |[u],bk=>have h1:=bk.1;have h2:u.cells.toList=[.bool true]/\(gQ Ty.bool=true->∃cs,u=Value.agg cs)/\(gQ Ty.bool=false->One u):=h1;have h3:=xJ (h2.2.2 rfl);rw[h2.1]at h3;simp only[zt,and_true]at h3;rw[<-h3];rfl
 |[],bk=>exact absurd bk (by simp[All2])
 |_::_::_,bk=>exact absurd bk (by simp[All2])
theorem jmd{H:Type}{enc:TypeId×Value->H}{P:Program}{f:Func}{s:ChangeSpec}{apart fresh handsOn again:Bool}{W W':World}{args:Array Value}{v:Value}{ds gs:List (DataW H)}{before pa pv:List MemPlace}
  (hW:DataW.Whole enc P f.params.toList s.vars apart W args.toList ds gs before)
  (la:∀(b:Nat)(sp:Nat->Bool)(hd:Bool),DataW.TrodAll enc P W' b sp hd f.resultTypes.toList (v.resultList f.resultTypes.size) (s.fn H (ds++gs)).results [])
  (cm:∀sp:Nat->Bool,(∀p∈before,sp p.block=true)->DataW.TrodAll enc P W' 0 sp true f.params.toList args.toList (s.fn H (ds++gs)).args pa)
  (uj:∀sp:Nat->Bool,(∀p∈before,sp p.block=true)->DataW.TrodVars enc P W' sp s.vars (s.fn H (ds++gs)).vars pv)
  (fM:before=pa++pv)(hb:Below W.heap.size W W')
  (br:∀(j:Nat)(t:TypeId)(r:Value),f.resultTypes[j]? = some t->(v.resultList f.resultTypes.size)[j]? = some r->Value.okWide P W' .any 0 t r) :
  s.post enc P f apart fresh handsOn again W args v W':=by
 have au:∀p∈before,p.block<W.heap.size:=λp hp=>hW.lt p hp;have hold:∀p∈before,(λb=>decide (b<W.heap.size)) p.block=true:=λp hp=>by simpa using au p hp
 refine⟨ds,gs,before,[],pa,pv,hW,la _ _ _,cm _ hold,uj _ hold,World.keptBut_mono (λp hp=>⟨hp,?_⟩) (hb.frame (· ∈ before)),λ_=>?_⟩
 .rw[fM,js]at hp;exact Or.inr hp
 .obtain⟨_,_,_,_,_,hz,hn⟩:=hW;refine⟨br,_,_,([]++pa)++pv,⟨[]++pa,pv,trodAll_append (cm _ (λ_ _=>rfl)) (la _ _ _),uj _ (λ_ _=>rfl),rfl,?_,?_⟩,?_⟩
  .intro b off hp;have gr:MemPlace.cell b off∈before:=by rw[fM];simpa using hp
   rw[hb.frozen (au _ gr)];exact hz b off gr
  .intro ha;have:=hn ha;rw[fM]at this;simpa using this
  .intro p hp _;rw[fM];simpa using hp
open Go.RowKit Go.WideShapes Go.ChangeShapes
def um(P:Program)(f:TypeId->Ty->Bool):List Field->Nat->Ty->Bool
 |[],_,_=>false
 |[x],off,b=>decide (x.offset=off)&&decide (P.cellsOf x.type=b.size)&&f x.type b
 |x::y::r,off,.pair a b=>decide (x.offset=off)&&decide (P.cellsOf x.type=a.size)&&f x.type a&&um P f (y::r) (off+a.size) b
 |_,_,_=>false
def nN(P:Program):Nat->TypeId->Ty->Bool
 |0,_,_=>false
 |n+1,t,ty=>match P.underlying t with
  |some (.int k)=>decide (ty = .int k)
  |some .bool=>decide (ty = .bool)
  |some .string=>decide (ty = .str)
  |some (.slice e)=>match ty with
   |.list a=>nN P n e a&&decide (P.cellsOf e=a.size)&&decide (0<a.size)
   |_=>false
  |some (.struct fs)=>decide (P.cellsOf t=ty.size)&&match fs.toList,ty with
   |[x],.wrap a=>um P (nN P n) [x] 0 a
   |x::y::r,.pair a b=>um P (nN P n) (x::y::r) 0 (.pair a b)
   |_,_=>false
  |_=>false
def Wf:(t:Ty)->t.den->Prop
 |.int k,n=>(Lit.int k n).wf=true
 |.bool,_=>True
 |.str,s=>s.size<=maxLen
 |.unit,_=>True
 |.wrap a,v=>Wf a v
 |.pair a b,v=>Wf a v.1/\Wf b v.2
 |.list a,xs=>List.length xs<=maxLen/\∀x∈(show List a.den from xs),Wf a x
 |.arr _ _,_=>True
theorem EM{α β:Type}{f:α->Option β}:∀{l:List α}{ys:List β},l.mapM f=some ys->ys.length=l.length/\∀(i:Nat)(x:α),l[i]? = some x->∃y,ys[i]? = some y/\f x=some y
 |[],ys,h=>by
  simp at h;subst h;exact⟨rfl,λi x hx=>by simp at hx⟩
 |a::l,ys,h=>by
  rw[qw]at h;cases ha:f a with
  |none=>simp[ha]at h
  |some y=>
   cases hl:l.mapM f with
   |none=>simp[ha,hl]at h
   |some zs=>
    simp[ha,hl]at h;subst h;obtain⟨h1,h2⟩:=EM hl;refine⟨by simp[h1],λi x hx=>?_⟩;cases i with
    |zero=>simp at hx;subst hx;exact⟨y,rfl,ha⟩
    |succ i=>simp at hx;obtain⟨z,hz,hf⟩:=h2 i x hx;exact⟨z,by simpa using hz,hf⟩
theorem Re{α β:Type}{f:α->Option β}:∀{l:List α}{ys:List β},ys.length=l.length->(∀(i:Nat)(x:α),l[i]? = some x->f x=ys[i]?)->l.mapM f=some ys
 |[],ys,h,_=>by
  have:ys=[]:=jw (by simpa using h);subst this;rfl
 |a::l,[],h,_=>by simp at h
 |a::l,y::ys,h,hg=>by
  have h0:f a=some y:=by simpa using hg 0 a rfl
  rw[qw,h0,Re (ys:=ys) (by simpa using h) (λi x hx=>by simpa using hg (i+1) x (by simpa using hx))];rfl
theorem EN{α β:Type}{f g:α->Option β}:∀{l:List α}{ys:List β},l.mapM f=some ys->(∀x∈l,∀y,y∈ys->f x=some y->g x=some y)->l.mapM g=some ys
 |[],ys,h,_=>by simpa using h
 |a::l,ys,h,hk=>by
  rw[qw]at h ⊢;cases ha:f a with
  |none=>simp[ha]at h
  |some y=>
   cases hl:l.mapM f with
   |none=>simp[ha,hl]at h
   |some zs=>simp[ha,hl]at h;subst h;rw[hk a (by simp) y (by simp) ha,EN hl (λx hx z hz hf=>hk x (by simp[hx]) z (by simp[hz]) hf)];rfl
theorem Rf{α:Type}{Q:Nat->α->Prop}:∀n,(∀i,i<n->∃x,Q i x)->∃xs:List α,xs.length=n/\∀i x,xs[i]? = some x->Q i x
 |0,_=>⟨[],rfl,λi x h=>by simp at h⟩
 |n+1,h=>by
  obtain⟨xs,hl,hx⟩:=Rf n (λi hi=>h i (by omega));obtain⟨x,hq⟩:=h n (by omega);refine⟨xs++[x],by simp[hl],λi y hy=>?_⟩;rcases qr i n with hi|hi
  .rw[List.getElem?_append_left (by omega)]at hy;exact hx i y hy
  .have:i=n:=by have:=(ju.1 hy).1;simp[hl]at this;omega
   subst this;rw[k9 (by omega),hl,Nat.sub_self]at hy;simp at hy;subst hy;exact hq
theorem Rg{α β:Type}{R:α->β->Prop}:∀{as:List α}{bs:List β},as.length=bs.length->(∀(i:Nat)(a:α)(b:β),as[i]? = some a->bs[i]? = some b->R a b)->All2 R as bs
 |[],[],_,_=>trivial
 |a::as,b::bs,hl,h=>⟨h 0 a b rfl rfl,Rg (by simpa using hl) λi x y hx hy=>h (i+1) x y (by simpa using hx) (by simpa using hy)⟩
 |[],_::_,hl,_=>by simp at hl
 |_::_,[],hl,_=>by simp at hl
theorem Rh{m:Nat}:∀{css:List (List Value)},(∀c∈css,c.length=m)->∀{j:Nat}{v:Value},css.flatten[j]? = some v->∃i r c,j=i*m+r/\r<m/\css[i]? = some c/\c[r]? = some v
 |[],_,j,v,h=>by simp at h
 |c::css,hl,j,v,h=>by
  simp only[ke]at h;have hc:=hl c (by simp);rcases qr j c.length with hj|hj
  .rw[List.getElem?_append_left hj]at h;exact⟨0,j,c,by omega,by omega,rfl,h⟩
  .rw[k9 hj]at h;obtain⟨i,r,c',e,hr,hi,hv⟩:=Rh (λx hx=>hl x (by simp[hx])) h;exact⟨i+1,r,c',by rw[Nat.add_mul];omega,hr,by simpa using hi,hv⟩
def Ext(W W':World):Prop:=∀(k:Nat) x,W.heap[k]? = some x->W'.heap[k]? = some x
theorem Ext.cell{W W':World}(h:Ext W W'){a:Addr}{v:Value}(hc:W.cell? a=some v):W'.cell? a=some v:=by
 unfold World.cell? at hc ⊢;split at hc
 .rename_i c _ _ hb;rw[h _ _ hb];exact hc
 .simp at hc
theorem Ext.cells{W W':World}(h:Ext W W'){a:Addr}{n:Nat}{cs:List Value}(hc:W.cells? 0 a n=some cs):W'.cells? 0 a n=some cs:=by
 unfold World.cells? at hc ⊢;simp only[k7,if_true]at hc ⊢;exact EN hc λi _ y _ hf=>h.cell hf
theorem JI{W:World}{a:Addr}{n:Nat}{cs:List Value}(hc:W.cells? 0 a n=some cs):cs.length=n/\∀i v,cs[i]? = some v->W.cell? (a.add i)=some v:=by
 unfold World.cells? at hc;simp only[k7,if_true]at hc;obtain⟨h1,h2⟩:=EM hc;simp only[List.length_range]at h1;refine⟨h1,λi v hv=>?_⟩;have hi:i<n:=by rw[<-h1];exact(ju.1 hv).1
 obtain⟨y,hy,hf⟩:=h2 i i (by simp[hi]);rw[hv]at hy;simp at hy;subst hy;exact hf
theorem Ri{W:World}{a:Addr}{v:Value}(h:W.cell? a=some v):a.block<W.heap.size/\a.spot=none:=by
 unfold World.cell? at h;split at h
 .rename_i c _ _ hb;refine⟨(jf.1 hb).1,?_⟩;split at h
  .simp at h
  .rename_i hs;simpa using hs
 .simp at h
def oldS(W:World):aH:=λg _=>g<W.heap.size
def BC{H:Type}(enc:TypeId×Value->H)(P:Program)(W:World)(held:Bool)(fuel:Nat)(t:TypeId)(ty:Ty)(cs:List Value)(d:DataW H)(ps:List MemPlace):Prop:=
 cs.length=ty.size/\(∃v:ty.den,Rep (oldS W) W ty v cs/\Wf ty v)/\
  ∀W' sp,Ext W W'->(∀q∈ps,sp q.block=true)->DataW.trod enc P W' 0 sp held fuel t cs=some (d,ps)
section
variable{H:Type}{enc:TypeId×Value->H}{P:Program}{W:World}{held:Bool}
theorem jtB{a:Addr}{n:Nat}(hn:0<n):∃q∈MemPlace.row a n,q.block=a.block:=
 ⟨.cell a.block (a.off+0),jx.2 ⟨0,by simp[hn],rfl⟩,rfl⟩
theorem jpx{n:Nat}{t e:TypeId}{el:Ty}(hu:P.underlying t=some (.slice e))(bF:P.cellsOf e=el.size)(bG:0<el.size){fuel:Nat}{cs:List Value}{d:DataW H}{ps:List MemPlace}
  (ih:∀(m:Nat)(cs:List Value)(d:DataW H)(ps:List MemPlace),DataW.trod enc P W 0 (λ_=>true) held m e cs=some (d,ps)->BC enc P W held m e el cs d ps)
  (h:DataW.trod enc P W 0 (λ_=>true) held fuel t cs=some (d,ps)):BC enc P W held fuel t (.list el) cs d ps:=by
 cases fuel with
 |zero=>simp[DataW.trod]at h
 |succ m=>
  have h':=h;unfold DataW.trod at h;rw[hu]at h;split at h;all_goals (try (rename_i heq _;simp at heq;done))
  all_goals (try (rename_i heq;simp at heq;done))
  .rename_i heq;refine⟨rfl,⟨[],⟨none,0,rfl,jq _,k7 _,λ_=>rfl,λb hb=>by simp at hb⟩,⟨k7 _,by simp⟩⟩,λW' sp _ _=>?_⟩;unfold DataW.trod;rw[hu];exact h
  .rename_i e' a len cap heq;simp only[j4,TypeDesc.slice.injEq]at heq;subst heq;simp only[k7,kp,if_true]at h;split at h
   .rename_i hc;cases fZ:(List.range len).mapM (λi=>(W.cells? 0 (a.add (i*P.cellsOf e)) (P.cellsOf e)).bind (DataW.trod enc P W 0 (λ_=>true) held m e)) with
    |none=>rw[fZ]at h;simp at h
    |some elems=>
     rw[fZ]at h;simp only[j3]at h;cases EO:(List.range (cap-len)).mapM (λj=>(W.cells? 0 (a.add ((len+j)*P.cellsOf e)) (P.cellsOf e)).bind (DataW.trod enc P W 0 (λ_=>true) held m e)) with
     |none=>rw[EO]at h;simp at h
     |some rest=>
      rw[EO]at h;simp only[ki,j4,j8]at h;obtain⟨rfl,rfl⟩:=h;obtain⟨l1,g1⟩:=EM fZ;obtain⟨l2,g2⟩:=EM EO;simp only[List.length_range]at l1 l2
      have one:∀i y,(W.cells? 0 (a.add (i*P.cellsOf e)) (P.cellsOf e)).bind (DataW.trod enc P W 0 (λ_=>true) held m e)=some y->∃c,W.cells? 0 (a.add (i*P.cellsOf e)) (P.cellsOf e)=some c/\BC enc P W held m e el c y.1 y.2:=by
       intro i y hy;cases hc:W.cells? 0 (a.add (i*P.cellsOf e)) (P.cellsOf e) with
       |none=>rw[hc]at hy;simp at hy
       |some c=>rw[hc]at hy;exact⟨c,rfl,ih m c y.1 y.2 hy⟩
      refine⟨rfl,?_,?_⟩
      .have each:∀i,i<len->∃x:el.den×List Value,W.cells? 0 (a.add (i*P.cellsOf e)) (P.cellsOf e)=some x.2/\Rep (oldS W) W el x.1 x.2/\Wf el x.1:=by intro i hi;obtain⟨y,hy,hf⟩:=g1 i i (by simp[hi]);obtain⟨c,fa,_,⟨v,hv,hw⟩,_⟩:=one i y hf;exact⟨(v,c),fa,hv,hw⟩
       obtain⟨xs,oq,fA⟩:=Rf len each;have BD:∀c∈xs.map (·.2),c.length=P.cellsOf e:=by intro c hc;obtain⟨x,hx,rfl⟩:=jx.1 hc;obtain⟨i,hi⟩:=qy.1 hx;exact(JI (fA i x hi).1).1
       refine⟨xs.map (·.1),?_,?_⟩
       .refine⟨some a,cap,by simp[oq],by simp[oq,hc.1],hc.2,by simp,λb hb=>?_⟩;simp only[j4]at hb;subst hb;have uq:len≠0->a.spot=none:=by intro hl;obtain⟨x,hx⟩:∃x,xs[0]? = some x:=⟨xs[0],jj (by omega)⟩;obtain⟨k1,k2⟩:=JI (fA 0 x hx).1;obtain⟨v,hv⟩:∃v,x.2[0]? = some v:=⟨x.2[0],jj (by omega)⟩;have:=(Ri (k2 0 v hv)).2;simpa[Addr.add]using this
        refine⟨λaT=>uq (λh0=>aT (by rw[List.map_eq_nil_iff];exact jw (by omega))),xs.map (·.2),Rg (by simp) (λi x c hx hc=>?_),λj v hv=>?_⟩
        .simp only[qi,Option.map_eq_some_iff]at hx hc;obtain⟨y,hy,rfl⟩:=hx;obtain⟨z,hz,rfl⟩:=hc;rw[hy]at hz;simp at hz;subst hz;exact(fA i y hy).2.1
        .obtain⟨i,r,c,hj,hr,mf,px⟩:=Rh BD hv;simp only[qi,Option.map_eq_some_iff]at mf;obtain⟨x,hx,rfl⟩:=mf;have dq:=(JI (fA i x hx).1).2 r v px;have jX:i<len:=by rw[<-oq];exact(ju.1 hx).1
         have hs:=uq (by omega);have vI:(a.add (i*P.cellsOf e)).add r=⟨a.block,a.off+j,none⟩:=by obtain⟨g,o,s⟩:=a;simp only at hs;subst hs;simp only[Addr.add];split<;>split<;>simp<;>omega
         rw[vI]at dq;exact⟨(Ri dq).1,dq⟩
       .refine⟨by simp only[kb,oq];omega,λx hx=>?_⟩;obtain⟨y,hy,rfl⟩:=jx.1 hx;obtain⟨i,hi⟩:=qy.1 hy;exact(fA i y hi).2.2
      .intro W' sp hE cP
       have keep:∀i y,y∈elems++rest->(W.cells? 0 (a.add (i*P.cellsOf e)) (P.cellsOf e)).bind (DataW.trod enc P W 0 (λ_=>true) held m e)=some y->
         (W'.cells? 0 (a.add (i*P.cellsOf e)) (P.cellsOf e)).bind (DataW.trod enc P W' 0 sp held m e)=some y:=by
        intro i y hy hf;obtain⟨c,fa,_,_,hk⟩:=one i y hf;rw[hE.cells fa];exact hk W' sp hE (λq hq=>cP q (ku _ (zi.2 ⟨y,hy,hq⟩)))
       unfold DataW.trod;rw[hu];simp only[k7,kp];rw[if_pos hc,EN fZ (λi _ y hy hf=>keep i y (kj _ hy) hf)];simp only[j3]
       have cZ:(if sp a.block=true then (List.range (cap-len)).mapM (λj=>(W'.cells? 0 (a.add ((len+j)*P.cellsOf e)) (P.cellsOf e)).bind (DataW.trod enc P W' 0 sp held m e)) else some [])=some rest:=by
        split
        .exact EN EO (λj _ y hy hf=>keep (len+j) y (ku _ hy) hf)
        .rename_i hsf;rcases Nat.eq_zero_or_pos ((elems.length+rest.length)*P.cellsOf e) with h0|h0
         .have:rest=[]:=by
           rcases Nat.mul_eq_zero.1 h0 with h|h
           .exact jw (by omega)
           .omega
          rw[this]
         .obtain⟨q,hq,hb⟩:=jtB (a:=a) h0;have:=cP q (kj _ hq);rw[hb]at this;exact absurd this hsf
       rw[cZ];rfl
   .simp at h
  .simp at h
theorem BE{n m:Nat}(ih:∀(t:TypeId)(ty:Ty),nN P n t ty=true->∀(cs:List Value)(d:DataW H)(ps:List MemPlace),DataW.trod enc P W 0 (λ_=>true) held m t cs=some (d,ps)->BC enc P W held m t ty cs d ps)(cs:List Value) :
  ∀(fs:List Field)(off:Nat)(ty:Ty)(xs:List (DataW H×List MemPlace)),um P (nN P n) fs off ty=true->cs.length=off+ty.size->
   fs.mapM (λf=>DataW.trod enc P W 0 (λ_=>true) held m f.type ((cs.drop f.offset).take (P.cellsOf f.type)))=some xs->
   (∃v:ty.den,Rep (oldS W) W ty v (cs.drop off)/\Wf ty v)/\
    ∀W' sp,Ext W W'->(∀q∈xs.flatMap (·.2),sp q.block=true)->fs.mapM (λf=>DataW.trod enc P W' 0 sp held m f.type ((cs.drop f.offset).take (P.cellsOf f.type)))=some xs
 |[],_,_,_,hc,_,_=>by simp[um]at hc
 |[f],off,ty,xs,hc,hl,hm=>by
  simp only[um,ja,jk]at hc;obtain⟨⟨ho,hz⟩,hc⟩:=hc;rw[qw]at hm;cases hf:DataW.trod enc P W 0 (λ_=>true) held m f.type ((cs.drop f.offset).take (P.cellsOf f.type)) with
  |none=>simp[hf]at hm
  |some y=>simp[hf]at hm;subst hm;obtain⟨_,hv,hk⟩:=ih f.type ty hc _ y.1 y.2 hf;rw[ho,hz,List.take_of_length_le (by simp;omega)]at hv;refine⟨hv,λW' sp hE cP=>?_⟩;rw[qw,hk W' sp hE (λq hq=>cP q (by simpa using hq))];rfl
 |f::g::r,off,ty,xs,hc,hl,hm=>by
  cases ty with
  |pair a b=>
   simp only[um,ja,jk]at hc;obtain⟨⟨⟨ho,hz⟩,hc⟩,hr⟩:=hc;rw[qw]at hm;cases hf:DataW.trod enc P W 0 (λ_=>true) held m f.type ((cs.drop f.offset).take (P.cellsOf f.type)) with
   |none=>simp[hf]at hm
   |some y=>
    cases cZ:(g::r).mapM (λf=>DataW.trod enc P W 0 (λ_=>true) held m f.type ((cs.drop f.offset).take (P.cellsOf f.type))) with
    |none=>rw[hf,cZ]at hm;simp at hm
    |some ys=>
     rw[hf,cZ]at hm;simp at hm;subst hm;have mv:cs.length=off+(a.size+b.size):=hl;obtain⟨lN,⟨v,hv,hw⟩,hk⟩:=ih f.type a hc _ y.1 y.2 hf;obtain⟨⟨v2,Ir,JJ⟩,fL⟩:=BE ih cs (g::r) (off+a.size) b ys hr (by omega) cZ;rw[ho,hz]at hv;refine⟨⟨(v,v2),⟨(cs.drop off).take a.size,cs.drop (off+a.size),?_,hv,Ir⟩,hw,JJ⟩,λW' sp hE cP=>?_⟩
     .rw[<-List.drop_drop,qn]
     .rw[qw,hk W' sp hE (λq hq=>cP q (by simp[hq])),fL W' sp hE (λq hq=>cP q (by simp at hq ⊢;exact .inr hq))];rfl
  |_=>simp[um]at hc
theorem Rj:∀(n:Nat)(t:TypeId)(ty:Ty),nN P n t ty=true->∀(fuel:Nat)(cs:List Value)(d:DataW H)(ps:List MemPlace),DataW.trod enc P W 0 (λ_=>true) held fuel t cs=some (d,ps)->
  BC enc P W held fuel t ty cs d ps
 |0,_,_,hc,_,_,_,_,_=>by simp[nN]at hc
 |n+1,t,ty,hc,fuel,cs,d,ps,h=>by
  have ih:=Rj n;cases fuel with
  |zero=>simp[DataW.trod]at h
  |succ m=>
  have mh:=hc;unfold nN at hc;split at hc
  .rename_i k hu;have:=qd hc;subst this;obtain⟨z,rfl,hx,hw⟩:=DataW.trod_int hu h;refine⟨rfl,⟨z,rfl,hw⟩,λW' sp _ _=>?_⟩;simp only[j8]at hx;rw[hx.1,hx.2];exact trod_int_mk m hu hw
  .rename_i hu;have:=qd hc;subst this;obtain⟨z,rfl,hx⟩:=DataW.trod_bool hu h;refine⟨rfl,⟨z,rfl,trivial⟩,λW' sp _ _=>?_⟩;unfold DataW.trod at h ⊢;rw[hu]at h ⊢;exact h
  .rename_i hu;have:=qd hc;subst this;obtain⟨z,rfl,hx,hw⟩:=DataW.trod_string hu h;refine⟨rfl,⟨z,rfl,hw⟩,λW' sp _ _=>?_⟩;unfold DataW.trod at h ⊢;rw[hu]at h ⊢;exact h
  .rename_i e hu;split at hc
   .rename_i a;simp only[ja,jk]at hc;exact jpx (n:=n) hu hc.1.2 hc.2 (λm cs d ps h=>ih e a hc.1.1 m cs d ps h) h
   .simp at hc
  .rename_i fs hu;simp only[ja,jk]at hc;obtain⟨bF,hc⟩:=hc
   have JK:cs.length=P.cellsOf t/\∃xs,fs.toList.mapM (λf=>DataW.trod enc P W 0 (λ_=>true) held m f.type ((cs.drop f.offset).take (P.cellsOf f.type)))=some xs/\d = .agg (xs.map (·.1))/\ps=xs.flatMap (·.2):=by
    obtain⟨xs,m',e1,e2,e3,e4,e5⟩:=DataW.trod_struct hu h;have:m'=m:=by omega
    subst this;simp only[j8]at e2;exact⟨e3,xs,Re (by simpa using e4) (λi x hx=>e5 i x (by simpa using hx)),e2.1,e2.2⟩
   obtain⟨hl,xs,hm,rfl,rfl⟩:=JK
   have mk:∀W' sp,fs.toList.mapM (λf=>DataW.trod enc P W' 0 sp held m f.type ((cs.drop f.offset).take (P.cellsOf f.type)))=some xs->
     DataW.trod enc P W' 0 sp held (m+1) t cs=some (.agg (xs.map (·.1)),xs.flatMap (·.2)):=by
    intro W' sp gL
    exact trod_struct_mk hu hl (by
     first
     |exact gL
     |(intros;exact gL))
   refine⟨by omega,?_,λW' sp hE cP=>?_⟩;all_goals split at hc
   .rename_i x a sD;rw[sD]at hm;obtain⟨⟨v,hv,hw⟩,_⟩:=BE (λt ty hc cs d ps h=>ih t ty hc m cs d ps h) cs [x] 0 a xs hc (by rw[hl,bF];simp[Ty.size]) hm;exact⟨v,by simpa[Rep]using hv,hw⟩
   .rename_i x y r a b sD;rw[sD]at hm;obtain⟨⟨v,hv,hw⟩,_⟩:=BE (λt ty hc cs d ps h=>ih t ty hc m cs d ps h) cs (x::y::r) 0 (.pair a b) xs hc (by omega) hm;exact⟨v,by simpa using hv,hw⟩
   .simp at hc
   .rename_i x a sD;rw[sD]at hm;obtain⟨_,hk⟩:=BE (λt ty hc cs d ps h=>ih t ty hc m cs d ps h) cs [x] 0 a xs hc (by rw[hl,bF];simp[Ty.size]) hm;exact mk W' sp (by rw[sD];exact hk W' sp hE cP)
   .rename_i x y r a b sD;rw[sD]at hm;obtain⟨_,hk⟩:=BE (λt ty hc cs d ps h=>ih t ty hc m cs d ps h) cs (x::y::r) 0 (.pair a b) xs hc (by omega) hm;exact mk W' sp (by rw[sD];exact hk W' sp hE cP)
   .simp at hc
  .simp at hc
end
theorem EP{P:Program}{W:World}{r:Reach}{base:Nat}{t:TypeId}{v:Value}{d:TypeDesc}(hu:P.underlying t=some d)(hd:(∃k,d = .int k)\/d = .bool\/d = .string\/∃e,d = .slice e)(h:Value.okWide P W r base t v):One v:=by
 have hc:Cell.ok P W r base t v:=by unfold Value.okWide at h;rw[hu]at h;rcases hd with⟨k,rfl⟩|rfl|rfl|⟨e,rfl⟩<;>(dsimp only at h;unfold Cell.okWide at h;rw[hu]at h;exact h)
 unfold Cell.ok at hc;rw[hu]at hc;rcases hd with⟨k,rfl⟩|rfl|rfl|⟨e,rfl⟩<;>cases v<;>first|rfl|(exact absurd hc (by simp))
theorem jvu{H:Type}{enc:TypeId×Value->H}{P:Program}{W:World}{n:Nat}{t:TypeId}{ty:Ty}(fk:nN P n t ty=true){r:Reach}{base:Nat}{v:Value}(br:Value.okWide P W r base t v){d:DataW H}{p:List MemPlace}
  (h:DataW.Trod enc P W 0 (λ_=>true) true t v d p) :
  ∃x:ty.den,mm (oldS W) W (.v ⟨ty,x⟩) v/\Wf ty x/\∀W' sp,Below W.heap.size W W'->(∀q∈p,sp q.block=true)->DataW.Trod enc P W' 0 sp true t v d p:=by
 obtain⟨fuel,h⟩:=h;obtain⟨_,⟨x,hx,hw⟩,hk⟩:=Rj n t ty fk fuel _ d p h;refine⟨x,⟨hx,λhm=>?_,λhm=>?_⟩,hw,λW' sp hb cP=>⟨fuel,hk W' sp (λk y hy=>by rw[hb.block k (jf.1 hy).1];exact hy) cP⟩⟩
 .cases n with
  |zero=>simp[nN]at fk
  |succ n=>
   unfold nN at fk;split at fk
   .have:=qd fk;subst this;simp[gQ,Ty.agg]at hm
   .have:=qd fk;subst this;simp[gQ,Ty.agg]at hm
   .have:=qd fk;subst this;simp[gQ,Ty.agg]at hm
   .split at fk
    .simp[gQ,Ty.agg]at hm
    .simp at fk
   .rename_i hu;unfold Value.okWide at br;rw[hu]at br;obtain⟨cs,dr,_⟩:=br;exact⟨cs,dr⟩
   .simp at fk
 .cases n with
  |zero=>simp[nN]at fk
  |succ n=>
   unfold nN at fk;split at fk
   .rename_i k hu;exact EP hu (.inl ⟨k,rfl⟩) br
   .rename_i hu;exact EP hu (.inr (.inl rfl)) br
   .rename_i hu;exact EP hu (.inr (.inr (.inl rfl))) br
   .rename_i e hu;exact EP hu (.inr (.inr (.inr ⟨e,rfl⟩))) br
   .rename_i hu;simp only[ja]at fk;have h2:=fk.2;split at h2
    .simp[gQ,Ty.agg]at hm
    .simp[gQ,Ty.agg]at hm
    .simp at h2
   .simp at fk
def OLe{α:Type}(a b:Option α):Prop:=∀r,a=some r->b=some r
theorem OLe.refl{α:Type}(a:Option α):OLe a a:=λ_ h=>h
theorem OLe.none{α:Type}(a:Option α):OLe none a:=λ_ h=>by simp at h
theorem OLe.bind{α β:Type}{a b:Option α}{f g:α->Option β}(h:OLe a b)(h':∀x,OLe (f x) (g x)):OLe (a.bind f) (b.bind g):=by
 intro r hr;cases a with
 |none=>simp at hr
 |some x=>rw[h x rfl];exact h' x r hr
theorem OLe.cond{α:Type}{c:Bool}{a b a' b':Option α}(h:OLe a a')(h':OLe b b'):OLe (cond c a b) (cond c a' b'):=by
 cases c with
 |true=>exact h
 |false=>exact h'
theorem OLe.sumC{α β γ:Type}{x:α ⊕ β}{f f':α->Option γ}{g g':β->Option γ}(h:∀x,OLe (f x) (f' x))(h':∀x,OLe (g x) (g' x)):OLe (sumC x f g) (Lft.sumC x f' g'):=by
 cases x with
 |inl a=>exact h a
 |inr b=>exact h' b
theorem OLe.loopN{α β:Type}{f g:α->Option (α ⊕ β)}(h:∀s,OLe (f s) (g s)):∀(n:Nat)(s:α),OLe (Lft.loopN f n s) (Lft.loopN g n s)
 |0,_=> .none _
 |n+1,s=>by
  intro r hr;simp only[Lft.loopN]at hr ⊢;cases hf:f s with
  |none=>simp[hf]at hr
  |some x=>
   rw[h s x hf];cases x with
   |inl a=>simp only[hf]at hr;exact OLe.loopN h n a r hr
   |inr b=>simpa[hf]using hr
theorem OLe.loop{α β:Type}{f g:α->Option (α ⊕ β)}(n:Nat)(s:α)(h:∀s,OLe (f s) (g s)):OLe (Lft.loopN f n s) (loopOpt g s):=
 λr hr=>Bq (OLe.loopN h n s r hr)
theorem OLe.loopOpt{α β:Type}{f g:α->Option (α ⊕ β)}(s:α)(h:∀s,OLe (f s) (g s)):OLe (Lft.loopOpt f s) (Lft.loopOpt g s):=by
 intro r hr;obtain⟨n,hn⟩:=Br hr;exact Bq (OLe.loopN h n s r hn)
theorem Rk{α β:Type}{B B':(α->Option β)->α->Option β}(h:∀g g',(∀a,OLe (g a) (g' a))->∀a,OLe (B g a) (B' g' a)):∀n a,OLe (pT B n a) (pT B' n a)
 |0,_=> .none _
 |n+1,a=>h _ _ (Rk h n) a
theorem JL{α β:Type}{B:(α->Option β)->α->Option β}(h:∀g g',(∀a,OLe (g a) (g' a))->∀a,OLe (B g a) (B g' a)):∀(k n:Nat)(a:α),OLe (pT B n a) (pT B (n+k) a)
 |k,0,a=> .none _
 |k,n+1,a=>by
  rw[show n+1+k=(n+k)+1 by omega];exact h _ _ (JL h k n) a
theorem OLe.rec{α β:Type}{B B':(α->Option β)->α->Option β}(n:Nat)(a:α)(h:∀g g',(∀a,OLe (g a) (g' a))->∀a,OLe (B g a) (B' g' a))(h':∀g g',(∀a,OLe (g a) (g' a))->∀a,OLe (B' g a) (B' g' a)) :
  OLe (pT B n a) (EI B' a):=by
 intro r hr;have h1:=Rk h n a r hr;refine jtu ⟨n,h1⟩ λm y hy=>?_;have e1:=JL h' m n a r h1;have e2:=JL h' n m a y hy;rw[Nat.add_comm m n]at e2;rw[e1]at e2;simpa using e2.symm
theorem oR{α:Type}(a:Option α):OLe a a:=OLe.refl a
theorem oN{α:Type}(a:Option α):OLe none a:=OLe.none a
theorem oB{α β:Type}{a b:Option α}{f g:α->Option β}(h:OLe a b)(h':∀x,OLe (f x) (g x)):OLe (a.bind f) (b.bind g):=OLe.bind h h'
theorem oC{α:Type}{c:Bool}{a b a' b':Option α}(h:OLe a a')(h':OLe b b'):OLe (cond c a b) (cond c a' b'):=OLe.cond h h'
theorem oS{α β γ:Type}{x:α ⊕ β}{f f':α->Option γ}{g g':β->Option γ}(h:∀x,OLe (f x) (f' x))(h':∀x,OLe (g x) (g' x)):OLe (sumC x f g) (Lft.sumC x f' g'):=OLe.sumC h h'
end Go.Lft
