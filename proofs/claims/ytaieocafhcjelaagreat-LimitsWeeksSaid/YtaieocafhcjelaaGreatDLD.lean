/- Jo of arguments and Ab: what is known of them but the data. Q2. -/
import Derived.Test.YtaieocafhcjelaaGreatDLC
import Derived.KernelRfl
import Derived.IntWalk
import Derived.Below
import Derived.ChangeSame
noncomputable section
set_option linter.unusedVariables false
namespace Go.Lft
inductive CPat where
 |v (t:Ty)
 |p (ts:List Ty)
 deriving DecidableEq
inductive LPat where
 |dead|nil
 |d (t:Ty)
 |ol (k:Nat)
 |bp (k c:Nat)
 |ep (k i c:Nat)
 |tl (k:Nat)
 |hd (k:Nat)
 |ip (ts:List Ty)
 |clo (f:Nat) (caps:List CPat)
 |clr (f:Nat) (ks:List Nat)
 deriving DecidableEq
inductive KPat where
 |one (l:LPat)
 |st (ls:List LPat)
 |av (n:Nat) (a:Ty)
 deriving DecidableEq
inductive BPat where
 |free|gone
 |cell (ls:List LPat) (frz:Bool)
 |lst (e:Nat) (a:Ty) (frz:Bool)
 |arr (n:Nat) (a:Ty)
 deriving DecidableEq
inductive IPat where
 |s (c:KPat)
 |b (x:BPat)
 deriving DecidableEq
abbrev iT:Ty:= .int .i64
abbrev sI:IPat:= .s (.one (.d iT))
inductive APat where
 |v (t:Ty)
 |ref (ts:List Ty)
 |rl (e:Nat) (t:Ty)
 |ip (ts:List Ty)
 |clo (f:Nat) (caps:List CPat)
 deriving DecidableEq
@[reducible] def HL:List Ty->Type
 |[]=>Unit
 |[t]=>t.den
 |t::t'::ts=>t.den×HL (t'::ts)
def ofHL:(ts:List Ty)->HL ts->List TV
 |[],_=>[]
 |[t],h=>[⟨t,h⟩]
 |t::t'::ts,h=>⟨t,h.1⟩::ofHL (t'::ts) h.2
def toHL:(ts:List Ty)->List TV->Option (HL ts)
 |[],[]=>some ()
 |[t],[x]=>x.to t
 |t::t'::ts,x::xs=>match x.to t with
  |some v=>match toHL (t'::ts) xs with
   |some r=>some (v,r)
   |none=>none
  |none=>none
 |_,_=>none
theorem FF:∀{ts:List Ty}{xs:List TV}{h:HL ts},toHL ts xs=some h->xs=ofHL ts h
 |[],[],_,_=>rfl
 |[],_::_,_,h=>by simp[toHL]at h
 |[_],[],_,h=>by simp[toHL]at h
 |[t],[x],hl,h=>by
  simp only[toHL]at h;rw[lV h];rfl
 |[t],x::y::xs,hl,h=>by simp[toHL]at h
 |_::_::_,[],_,h=>by simp[toHL]at h
 |t::t'::ts,x::xs,hl,h=>by
  simp only[toHL]at h;split at h
  .rename_i v hv;split at h
   .rename_i r hr;simp only[j4]at h;subst h;rw[lV hv,FF hr];rfl
   .simp at h
  .simp at h
def capP:Cap->CPat×List TV
 |.v x=>(.v x.t,[x])
 |.p ls=>(.p (ls.map (·.t)),ls)
def mY:List Cap->List CPat×List TV
 |[]=>([],[])
 |c::cs=>((capP c).1::(mY cs).1,(capP c).2++(mY cs).2)
def tv0:TV:=⟨.unit,()⟩
def capF:CPat->List TV->Cap
 |.v _,xs=> .v (xs.headD tv0)
 |.p ts,xs=> .p (xs.take ts.length)
def CPat.n:CPat->Nat
 |.v _=>1
 |.p ts=>ts.length
def Ac:List CPat->List TV->List Cap
 |[],_=>[]
 |c::cs,xs=>capF c xs::Ac cs (xs.drop c.n)
def Ad:List CPat->Nat
 |[]=>0
 |c::cs=>c.n+Ad cs
theorem jzI(c:Cap)(r:List TV):capF (capP c).1 ((capP c).2++r)=c/\(capP c).1.n=(capP c).2.length:=by
 cases c with
 |v x=>exact⟨rfl,rfl⟩
 |p ls=>simp[capP,capF,CPat.n]
theorem FG:∀(cs:List Cap)(r:List TV),Ac (mY cs).1 ((mY cs).2++r)=cs/\Ad (mY cs).1=(mY cs).2.length
 |[],r=>⟨rfl,rfl⟩
 |c::cs,r=>by
  simp only[mY,Ac,Ad,jd,ja];have h1:=jzI c ((mY cs).2++r);have h2:=FG cs r;rw[h1.1,h1.2,v7,h2.1,h2.2];exact⟨rfl,rfl⟩
def rO:Leaf->LPat×List TV
 |.dead=>(.dead,[])
 |.nil=>(.nil,[])
 |.d t v=>(.d t,[⟨t,v⟩])
 |.ol k=>(.ol k,[])
 |.bp k c=>(.bp k c,[])
 |.ep k i c=>(.ep k i c,[])
 |.tl k i=>(.tl k,[⟨.int .i64,(i:Int)⟩])
 |.hd k i=>(.hd k,[⟨.int .i64,(i:Int)⟩])
 |.ip ls=>(.ip (ls.map (·.t)),ls)
 |.clo f caps=>(.clo f (mY caps).1,(mY caps).2)
 |.clr f ks=>(.clr f ks,[])
def Jp:TV->Nat
 |⟨.int _,v⟩=>Int.toNat v
 |_=>0
def LPat.n:LPat->Nat
 |.d _=>1
 |.tl _=>1
 |.hd _=>1
 |.ip ts=>ts.length
 |.clo _ cs=>Ad cs
 |_=>0
def C0:LPat->List TV->Leaf
 |.dead,_=> .dead
 |.nil,_=> .nil
 |.d _,xs=> .d (xs.headD tv0).t (xs.headD tv0).v
 |.ol k,_=> .ol k
 |.bp k c,_=> .bp k c
 |.ep k i c,_=> .ep k i c
 |.tl k,xs=> .tl k (Jp (xs.headD tv0))
 |.hd k,xs=> .hd k (Jp (xs.headD tv0))
 |.ip ts,xs=> .ip (xs.take ts.length)
 |.clo f cs,xs=> .clo f (Ac cs xs)
 |.clr f ks,_=> .clr f ks
theorem Q3(l:Leaf)(r:List TV):C0 (rO l).1 ((rO l).2++r)=l/\(rO l).1.n=(rO l).2.length:=by
 cases l with
 |ip ls=>simp[rO,C0,LPat.n]
 |clo f cs=>have:=FG cs r;simp only[rO,C0,LPat.n];exact⟨by rw[this.1],this.2⟩
 |_=>exact⟨rfl,rfl⟩
def oU:List Leaf->List LPat×List TV
 |[]=>([],[])
 |c::cs=>((rO c).1::(oU cs).1,(rO c).2++(oU cs).2)
def C1:List LPat->List TV->List Leaf
 |[],_=>[]
 |c::cs,xs=>C0 c xs::C1 cs (xs.drop c.n)
def C2:List LPat->Nat
 |[]=>0
 |c::cs=>c.n+C2 cs
theorem Jq:∀(cs:List Leaf)(r:List TV),C1 (oU cs).1 ((oU cs).2++r)=cs/\C2 (oU cs).1=(oU cs).2.length
 |[],r=>⟨rfl,rfl⟩
 |c::cs,r=>by
  simp only[oU,C1,C2,jd,ja];have h1:=Q3 c ((oU cs).2++r);have h2:=Jq cs r;rw[h1.1,h1.2,v7,h2.1,h2.2];exact⟨rfl,rfl⟩
def celP:Cel->KPat×List TV
 |.one l=>(.one (rO l).1,(rO l).2)
 |.st ls=>(.st (oU ls).1,(oU ls).2)
 |.av n a xs=>(.av n a,[⟨.list a,xs⟩])
def C3(a:Ty)(xs:List TV):List a.den:=((xs.headD tv0).to (.list a)).getD []
theorem Jr(a:Ty)(xs:List a.den)(r:List TV):C3 a (⟨.list a,xs⟩::r)=xs:=by
 simp[C3,TV.to]
def KPat.n:KPat->Nat
 |.one l=>l.n
 |.st ls=>C2 ls
 |.av _ _=>1
def celF:KPat->List TV->Cel
 |.one l,xs=> .one (C0 l xs)
 |.st ls,xs=> .st (C1 ls xs)
 |.av n a,xs=> .av n a (C3 a xs)
theorem jzJ(c:Cel)(r:List TV):celF (celP c).1 ((celP c).2++r)=c/\(celP c).1.n=(celP c).2.length:=by
 cases c with
 |one l=>have:=Q3 l r;exact⟨by simp only[celP,celF];rw[this.1],this.2⟩
 |st ls=>have:=Jq ls r;exact⟨by simp only[celP,celF];rw[this.1],this.2⟩
 |av n a xs=>exact⟨by simp only[celP,celF,qd,jm];rw[Jr],rfl⟩
def bsP:BS->BPat×List TV
 |.free=>(.free,[])
 |.gone=>(.gone,[])
 |.live (.cell ls f)=>(.cell (oU ls).1 f,(oU ls).2)
 |.live (.lst e a xs f)=>(.lst e a f,[⟨.list a,xs⟩])
 |.live (.arr n a xs)=>(.arr n a,[⟨.list a,xs⟩])
def BPat.n:BPat->Nat
 |.free|.gone=>0
 |.cell ls _=>C2 ls
 |.lst _ _ _=>1
 |.arr _ _=>1
def bsF:BPat->List TV->BS
 |.free,_=> .free
 |.gone,_=> .gone
 |.cell ls f,xs=> .live (.cell (C1 ls xs) f)
 |.lst e a f,xs=> .live (.lst e a (C3 a xs) f)
 |.arr n a,xs=> .live (.arr n a (C3 a xs))
theorem jB0(c:BS)(r:List TV):bsF (bsP c).1 ((bsP c).2++r)=c/\(bsP c).1.n=(bsP c).2.length:=by
 cases c with
 |free=>exact⟨rfl,rfl⟩
 |gone=>exact⟨rfl,rfl⟩
 |live b=>
  cases b with
  |cell ls f=>have:=Jq ls r;exact⟨by simp only[bsP,bsF];rw[this.1],this.2⟩
  |lst e a xs f=>exact⟨by simp only[bsP,bsF,qd,jm];rw[Jr],rfl⟩
  |arr n a xs=>exact⟨by simp only[bsP,bsF,qd,jm];rw[Jr],rfl⟩
def itP:Item->IPat×List TV
 |.s c=>(.s (celP c).1,(celP c).2)
 |.b x=>(.b (bsP x).1,(bsP x).2)
def IPat.n:IPat->Nat
 |.s c=>c.n
 |.b x=>x.n
def itF:IPat->List TV->Item
 |.s c,xs=> .s (celF c xs)
 |.b x,xs=> .b (bsF x xs)
theorem jB1(c:Item)(r:List TV):itF (itP c).1 ((itP c).2++r)=c/\(itP c).1.n=(itP c).2.length:=by
 cases c with
 |s c=>have:=jzJ c r;exact⟨by simp only[itP,itF];rw[this.1],this.2⟩
 |b x=>have:=jB0 x r;exact⟨by simp only[itP,itF];rw[this.1],this.2⟩
def s9:Snap->List IPat×List TV
 |[]=>([],[])
 |c::cs=>((itP c).1::(s9 cs).1,(itP c).2++(s9 cs).2)
def FH:List IPat->List TV->Snap
 |[],_=>[]
 |c::cs,xs=>itF c xs::FH cs (xs.drop c.n)
theorem Q4:∀(cs:Snap),FH (s9 cs).1 (s9 cs).2=cs
 |[]=>rfl
 |c::cs=>by
  simp only[s9,FH];have h1:=jB1 c (s9 cs).2;rw[h1.1,h1.2,v7,Q4 cs]
def pack(ps:List IPat)(ts:List Ty)(h:HL ts):Snap:=FH ps (ofHL ts h)
def ta(ps:List IPat)(ts:List Ty)(s:Snap):Option (HL ts):=
 if (s9 s).1=ps then toHL ts (s9 s).2 else none
theorem C4{ps:List IPat}{ts:List Ty}{s:Snap}{h:HL ts}(hs:ta ps ts s=some h):s=pack ps ts h:=by
 unfold ta at hs;split at hs
 .rename_i hp;have:=FF hs;rw[pack,<-this,<-hp,Q4]
 .simp at hs
def argP:Arg->APat×List TV
 |.v x=>(.v x.t,[x])
 |.ref ls=>(.ref (ls.map (·.t)),ls)
 |.rl e x=>(.rl e x.t,[x])
 |.ip ls=>(.ip (ls.map (·.t)),ls)
 |.clo f cs=>(.clo f (mY cs).1,(mY cs).2)
def APat.n:APat->Nat
 |.v _=>1
 |.ref ts=>ts.length
 |.rl _ _=>1
 |.ip ts=>ts.length
 |.clo _ cs=>Ad cs
def argF:APat->List TV->Arg
 |.v _,xs=> .v (xs.headD tv0)
 |.ref ts,xs=> .ref (xs.take ts.length)
 |.rl e _,xs=> .rl e (xs.headD tv0)
 |.ip ts,xs=> .ip (xs.take ts.length)
 |.clo f cs,xs=> .clo f (Ac cs xs)
theorem jzK(c:Arg)(r:List TV):argF (argP c).1 ((argP c).2++r)=c/\(argP c).1.n=(argP c).2.length:=by
 cases c with
 |v x=>exact⟨rfl,rfl⟩
 |rl e x=>exact⟨rfl,rfl⟩
 |ref ls=>simp[argP,argF,APat.n]
 |ip ls=>simp[argP,argF,APat.n]
 |clo f cs=>have:=FG cs r;exact⟨by simp only[argP,argF];rw[this.1],this.2⟩
def tc:List Arg->List APat×List TV
 |[]=>([],[])
 |c::cs=>((argP c).1::(tc cs).1,(argP c).2++(tc cs).2)
def Ae:List APat->List TV->List Arg
 |[],_=>[]
 |c::cs,xs=>argF c xs::Ae cs (xs.drop c.n)
theorem Q5:∀(cs:List Arg),Ae (tc cs).1 (tc cs).2=cs
 |[]=>rfl
 |c::cs=>by
  simp only[tc,Ae];have h1:=jzK c (tc cs).2;rw[h1.1,h1.2,v7,Q5 cs]
def oV(ps:List APat)(ts:List Ty)(h:HL ts):List Arg:=Ae ps (ofHL ts h)
def FI(ps:List APat)(ts:List Ty)(s:List Arg):Option (HL ts):=
 if (tc s).1=ps then toHL ts (tc s).2 else none
theorem FJ{ps:List APat}{ts:List Ty}{s:List Arg}{h:HL ts}(hs:FI ps ts s=some h):s=oV ps ts h:=by
 unfold FI at hs;split at hs
 .rename_i hp;have:=FF hs;rw[oV,<-this,<-hp,Q5]
 .simp at hs
theorem Q6{α β:Type}{f:α->Option (α ⊕ β)}:∀{n m:Nat}{s:α}{x y:β},loopN f n s=some x->loopN f m s=some y->x=y
 |0,_,_,_,_,h,_=>by simp[loopN]at h
 |_+1,0,_,_,_,_,h=>by simp[loopN]at h
 |n+1,m+1,s,x,y,h,h'=>by
  simp only[loopN]at h h';cases hf:f s with
  |none=>simp[hf]at h
  |some r=>
   cases r with
   |inl s'=>simp only[hf]at h h';exact Q6 h h'
   |inr z=>simp only[hf,j4]at h h';rw[<-h,<-h']
open Classical in
def loopOpt{α β:Type}(f:α->Option (α ⊕ β))(s:α):Option β:=
 if h:∃x n,loopN f n s=some x then some h.choose else none
theorem C5{α β:Type}{f:α->Option (α ⊕ β)}{s:α}{n:Nat}{x:β}(h:loopN f n s=some x):loopOpt f s=some x:=by
 unfold loopOpt;have hx:∃x n,loopN f n s=some x:=⟨x,n,h⟩;rw[dif_pos hx];obtain⟨m,hm⟩:=hx.choose_spec;rw[Q6 hm h]
theorem C6{α β:Type}{f:α->Option (α ⊕ β)}{s:α}{x:β}(h:loopOpt f s=some x):∃n,loopN f n s=some x:=by
 unfold loopOpt at h;split at h
 .rename_i hx;simp only[j4]at h;obtain⟨m,hm⟩:=hx.choose_spec;exact⟨m,by rw[<-h];exact hm⟩
 .simp at h
theorem jpT{α β:Type}{f:α->Option (α ⊕ β)}{s s':α}(h:f s=some (.inl s')):loopOpt f s=loopOpt f s':=by
 cases hq:loopOpt f s' with
 |some x=>obtain⟨n,hn⟩:=C6 hq;exact C5 (n:=n+1) (by simp only[loopN,h];exact hn)
 |none=>
  cases hp:loopOpt f s with
  |none=>rfl
  |some x=>
   obtain⟨n,hn⟩:=C6 hp;cases n with
   |zero=>simp[loopN]at hn
   |succ n=>simp only[loopN,h]at hn;rw[C5 hn]at hq;simp at hq
theorem jrd{α β:Type}{f:α->Option (α ⊕ β)}{s:α}{x:β}(h:f s=some (.inr x)):loopOpt f s=some x:=
 C5 (n:=1) (by simp only[loopN,h])
theorem Q7{α β A B:Type}{f:α->Option (α ⊕ β)}{g:A->Option (A ⊕ B)}{p:A->α}{q:B->β}
  (h:∀a r,g a=some r->f (p a)=some (match r with|.inl a'=> .inl (p a')|.inr b=> .inr (q b))):∀{n:Nat}{a:A}{x:B},loopN g n a=some x->loopN f n (p a)=some (q x)
 |0,_,_,hn=>by simp[loopN]at hn
 |n+1,a,x,hn=>by
  simp only[loopN]at hn;cases hg:g a with
  |none=>simp[hg]at hn
  |some r=>
   have:=h a r hg;cases r with
   |inl a'=>simp only[hg]at hn;simp only[loopN,this];exact Q7 h hn
   |inr b=>simp only[hg,j4]at hn;subst hn;simp only[loopN,this]
def sumC{α β γ:Type}(x:α ⊕ β)(f:α->γ)(g:β->γ):γ:=match x with
 |.inl a=>f a
 |.inr b=>g b
structure XD where
 ex:Ex
 ps:List IPat
 ts:List Ty
@[reducible] def XT:List XD->Type
 |[]=>Empty
 |[x]=>HL x.ts
 |x::y::r=>HL x.ts ⊕ XT (y::r)
def p7:(l:List XD)->XT l->Ex×Snap
 |[],h=>nomatch h
 |[x],h=>(x.ex,pack x.ps x.ts h)
 |x::y::r,h=>match h with
  |.inl a=>(x.ex,pack x.ps x.ts a)
  |.inr b=>p7 (y::r) b
def C7{R:Type}:(l:List XD)->XT l->(Ex->Snap->Option R)->Option R
 |[],_,_=>none
 |[x],h,k=>k x.ex (pack x.ps x.ts h)
 |x::y::r,h,k=>sumC h (λa=>k x.ex (pack x.ps x.ts a)) (λb=>C7 (y::r) b k)
theorem Js{R:Type}:∀(l:List XD)(h:XT l)(k:Ex->Snap->Option R),C7 l h k=k (p7 l h).1 (p7 l h).2
 |[],h,_=>nomatch h
 |[x],h,k=>rfl
 |x::y::r,h,k=>by
  cases h with
  |inl a=>rfl
  |inr b=>exact Js (y::r) b k
def unX:(l:List XD)->Ex->Snap->Option (XT l)
 |[],_,_=>none
 |[x],e,s=>if e=x.ex then ta x.ps x.ts s else none
 |x::y::r,e,s=>if e=x.ex/\(s9 s).1=x.ps then match ta x.ps x.ts s with
   |some a=>some (.inl a)
   |none=>none
  else match unX (y::r) e s with
   |some b=>some (.inr b)
   |none=>none
theorem FK:∀(l:List XD)(e:Ex)(s:Snap)(x:XT l),unX l e s=some x->p7 l x=(e,s)
 |[],_,_,_,h=>by simp[unX]at h
 |[x],e,s,h,he=>by
  simp only[unX]at he;split at he
  .rename_i h1;rw[p7,<-C4 he,h1]
  .simp at he
 |x::y::r,e,s,h,he=>by
  simp only[unX]at he;split at he
  .rename_i h1;split at he
   .rename_i a ha;simp only[j4]at he;subst he;show (x.ex,pack x.ps x.ts a)=(e,s);rw[<-C4 ha,h1.1]
   .simp at he
  .split at he
   .rename_i b hb;simp only[j4]at he;subst he;exact FK (y::r) e s b hb
   .simp at he
structure kF where
 b:Nat
 ps:List IPat
 ts:List Ty
 exits:List XD
 step:HL ts->Option (HL ts ⊕ XT exits)
def td:List kF->Nat->Snap->(R:Type)->(Ex->Snap->Option R)->Option R
 |[],_,_,_,_=>none
 |d::ds,b,s,R,k=>if d.b=b then match ta d.ps d.ts s with
   |some h=>(loopOpt d.step h).bind λx=>C7 d.exits x k
   |none=>none
  else td ds b s R k
theorem Jt:∀ds:List kF,LFun (td ds)
 |[]=>λ_ _=>⟨none,λ_ _=>rfl⟩
 |d::ds=>λb s=>by
  simp only[td];split
  .split
   .rename_i h _;cases hq:loopOpt d.step h with
    |none=>exact⟨none,λ_ _=>rfl⟩
    |some x=>exact⟨some (p7 d.exits x),λR k=>Js d.exits x k⟩
   .exact⟨none,λ_ _=>rfl⟩
  .exact Jt ds b s
def uk(E:Env)(d:kF)(e:Ex)(σ:St):Option (HL d.ts ⊕ XT d.exits):=
 match e with
 |.normal=>match iM E.np (E.keep d.b) σ with
  |some s=>match ta d.ps d.ts s with
   |some h=>some (.inl h)
   |none=>none
  |none=>none
 |e=>match iM E.np (E.keepX d.b e) σ with
  |some s=>match unX d.exits e s with
   |some x=>some (.inr x)
   |none=>none
  |none=>none
def ukR(E:Env)(d:kF)(ps:Array Nat)(x y:Code)(p:Option (List Item))(e:Ex)(σ:St):Option (HL d.ts ⊕ XT d.exits):=
 match p,e with
 |some q,.normal=>match iM E.np (E.keep d.b) σ with
  |some s=>match ta d.ps d.ts (q++s) with
   |some h=>some (.inl h)
   |none=>none
  |none=>none
 |_,e=>cond (pinK ps x y (E.keepX d.b e)) (match iM E.np (E.keepX d.b e) σ with
  |some s=>match unX d.exits e s with
   |some x=>some (.inr x)
   |none=>none
  |none=>none) none
def jwK(E:Env)(d:kF)(h:HL d.ts):Code->Option (HL d.ts ⊕ XT d.exits)
 |.rangeFunc g ps x y=>BG E d.b g ps x y (pack d.ps d.ts h) (ukR E d ps x y)
 |c=>fh E d.b c (cR E.np (E.keep d.b) (pack d.ps d.ts h)) (uk E d)
def FL(E:Env)(c:Code)(d:kF):Prop:=∀h,jwK E d h c=d.step h
def outS(d:kF)(r:HL d.ts ⊕ XT d.exits):Snap ⊕ Ex×Snap:=match r with
 |.inl a=> .inl (pack d.ps d.ts a)
 |.inr x=> .inr (p7 d.exits x)
theorem jzL{E:Env}(hF:CFun E.C)(hz:E.nz=false)(hL:LFun E.L){g:Operand}{ps:Array Nat}{x y:Code}{d:kF}(hs:FL E (.rangeFunc g ps x y) d)(h:HL d.ts)(r:HL d.ts ⊕ XT d.exits):d.step h=some r->
  y9 E d.b g ps x y (pack d.ps d.ts h)=some (outS d r):=by
 intro hr;obtain⟨o,ho⟩:=jrc hF hz hL d.b g ps x y (pack d.ps d.ts h);rw[<-hs h]at hr;have h1:some r=_:=hr.symm.trans (ho _ (λz=>ukR E d ps x y z.1 z.2.1 z.2.2));cases o with
 |none=>simp at h1
 |some z=>
  obtain⟨p,e,σ⟩:=z;simp only[j3]at h1
  have h2:=ho _ (λz:Option (List Item)×Ex×St=>match z.1,z.2.1 with
   |some q,.normal=>match iM E.np (E.keep d.b) z.2.2 with
    |some s'=>some (Sum.inl (q++s'))
    |none=>none
   |_,e=>cond (pinK ps x y (E.keepX d.b e)) (match iM E.np (E.keepX d.b e) z.2.2 with
    |some s'=>some (Sum.inr (e,s'))
    |none=>none) none)
  have h3:y9 E d.b g ps x y (pack d.ps d.ts h)=_:=h2;rw[h3,j3];clear h3 h2 hr ho;dsimp only;have h1:=h1.symm;unfold ukR at h1
  have hx:∀e,(cond (pinK ps x y (E.keepX d.b e)) (match iM E.np (E.keepX d.b e) σ with
    |some s=>match unX d.exits e s with
     |some x=>some (Sum.inr x)
     |none=>none
    |none=>none) none:Option (HL d.ts ⊕ XT d.exits))=some r->(cond (pinK ps x y (E.keepX d.b e)) (match iM E.np (E.keepX d.b e) σ with
    |some s'=>some (Sum.inr (e,s'))
    |none=>none) none:Option (Snap ⊕ Ex×Snap))=some (outS d r):=by
   intro e h1;cases hp:pinK ps x y (E.keepX d.b e) with
   |false=>rw[hp]at h1;simp at h1
   |true=>
    rw[hp,j5]at h1;rw[j5];split at h1
    .rename_i s dp;split at h1
     .rename_i hh hu;simp only[j4]at h1;subst h1;simp only[outS];rw[FK _ _ _ _ hu]
     .simp at h1
    .simp at h1
  cases p with
  |none=>exact hx e h1
  |some q=>
   cases e with
   |normal=>
    dsimp only at h1 ⊢
    split at h1
    .rename_i s dp;split at h1
     .rename_i hh hu;simp only[j4]at h1;subst h1;simp only[outS];rw[<-C4 hu]
     .simp at h1
    .simp at h1
   |exit i=>exact hx _ h1
   |ret=>exact hx _ h1
theorem jwL{E:Env}(hF:CFun E.C)(hz:E.nz=false)(hL:LFun E.L){c:Code}{d:kF}(hs:∀h,fh E d.b c (cR E.np (E.keep d.b) (pack d.ps d.ts h)) (uk E d)=d.step h)(h:HL d.ts)(r:HL d.ts ⊕ XT d.exits):d.step h=some r->
  wh E d.b c (pack d.ps d.ts h)=some (match r with|.inl a=> .inl (pack d.ps d.ts a)|.inr x=> .inr (p7 d.exits x)):=by
 intro hr;obtain⟨o,ho⟩:=FE hF hz hL c d.b (cR E.np (E.keep d.b) (pack d.ps d.ts h));rw[<-hs h]at hr;have h1:some r=_:=hr.symm.trans (ho _ (λz=>uk E d z.1 z.2));cases o with
 |none=>simp at h1
 |some z=>
  obtain⟨e,σ⟩:=z;simp only[j3]at h1
  have h2:=ho _ (λz:Ex×St=>match z.1 with
   |.normal=>match iM E.np (E.keep d.b) z.2 with
    |some s'=>some (Sum.inl s')
    |none=>none
   |e=>match iM E.np (E.keepX d.b e) z.2 with
    |some s'=>some (Sum.inr (e,s'))
    |none=>none)
  have h3:wh E d.b c (pack d.ps d.ts h)=_:=h2;rw[h3,j3];clear h3 h2 hr ho;dsimp only;have h1:=h1.symm;unfold uk at h1;cases e with
  |normal=>
   dsimp only at h1 ⊢
   split at h1
   .rename_i s dp;split at h1
    .rename_i hh hu;simp only[j4]at h1;subst h1;dsimp only;rw[<-C4 hu]
    .simp at h1
   .simp at h1
  |exit i=>
   dsimp only at h1 ⊢
   split at h1
   .rename_i s dp;split at h1
    .rename_i hh hu;simp only[j4]at h1;subst h1;dsimp only;rw[FK _ _ _ _ hu]
    .simp at h1
   .simp at h1
  |ret=>
   dsimp only at h1 ⊢
   split at h1
   .rename_i s dp;split at h1
    .rename_i hh hu;simp only[j4]at h1;subst h1;dsimp only;rw[FK _ _ _ _ hu]
    .simp at h1
   .simp at h1
theorem juM{E:Env}(hF:CFun E.C)(hz:E.nz=false)(hL:LFun E.L){c:Code}{d:kF}(hs:FL E c d)
  (he:∀s R k,E.L d.b s R k=match ta d.ps d.ts s with|some h=>(loopOpt d.step h).bind λx=>C7 d.exits x k|none=>none):CQ E d.b c:=by
 intro s R k r h;rw[he]at h;split at h
 .rename_i hl hu;cases hq:loopOpt d.step hl with
  |none=>simp[hq]at h
  |some x=>
   rw[hq,j3,Js]at h;obtain⟨n,hn⟩:=C6 hq;refine⟨n,(p7 d.exits x).1,(p7 d.exits x).2,?_,h⟩;rw[C4 hu]
   exact Q7 (f:=Hu E d.b c) (p:=pack d.ps d.ts) (q:=p7 d.exits) (λa r hr=>by
    cases c with
    |rangeFunc g ps x y=>have:=jzL hF hz hL hs a r hr;cases r<;>exact this
    |_=>have:=jwL hF hz hL hs a r hr;cases r<;>exact this) hn
 .simp at h
def lpAt(c:Code)(j:Nat):Code:=((fM 0 c).getD j (0,.skip)).2
def u5(E:Env)(c:Code):Nat->List kF->Prop
 |_,[]=>True
 |j,d::ds=>FL E (lpAt c j) d/\u5 E c (j+1) ds
theorem u5.get{E:Env}{c:Code}:∀{ds:List kF}{i j:Nat}{d:kF},u5 E c i ds->ds[j]? = some d->FL E (lpAt c (i+j)) d
 |[],_,_,_,_,h=>by simp at h
 |x::xs,i,0,d,hs,h=>by simp at h;subst h;exact hs.1
 |x::xs,i,j+1,d,hs,h=>by
  have:=u5.get (i:=i+1) (j:=j) hs.2 (by simpa using h);rwa[show i+(j+1)=i+1+j by omega]
theorem Q8:∀{ds:List kF}{j:Nat}{d:kF},oz (ds.map (·.b))=true->ds[j]? = some d->∀s R k,td ds d.b s R k=match ta d.ps d.ts s with|some h=>(loopOpt d.step h).bind λx=>C7 d.exits x k|none=>none
 |[],_,_,_,h=>by simp at h
 |x::xs,0,d,_,h=>by simp at h;subst h;intro s R k;simp only[td,if_true]
 |x::xs,j+1,d,hn,h=>by
  simp only[kr,oz,jb,qa,qb,kp]at hn;have hm:d∈xs:=k9 (by simpa using h);have aZ:x.b≠d.b:=λe=>hn.1 (e▸jt.2 ⟨d,hm,rfl⟩);intro s R k;simp only[td,aZ,qz];exact Q8 (j:=j) hn.2 (by simpa using h) s R k
theorem jwM{E:Env}(hF:CFun E.C)(hz:E.nz=false){c:Code}{ds:List kF}(hE:E.L=td ds)(hm:(fM 0 c).map (·.1)=ds.map (·.b))(hn:oz (ds.map (·.b))=true)(hs:u5 E c 0 ds) :
  ∀x∈fM 0 c,CQ E x.1 x.2:=by
 intro x hx;obtain⟨j,hj⟩:=z8.1 hx;have uU:(ds.map (·.b))[j]? = some x.1:=by rw[<-hm];simp[hj]
 rw[qm]at uU;cases hd:ds[j]? with
 |none=>simp[hd]at uU
 |some d=>
  simp only[hd,kv,j4]at uU;have h1:=u5.get hs hd;rw[kf]at h1;have h2:lpAt c j=x.2:=by simp[lpAt,List.getD,hj]
  rw[h2]at h1;have:=juM (E:=E) hF hz (hE▸Jt ds) h1 (λs R k=>by rw[hE];exact Q8 hn hd s R k);rwa[uU]at this
inductive VPat where
 |v (t:Ty)
 |own (e:Nat) (t:Ty)
 |box (ts:List Ty)
 |hd
 |vn (t:Ty) (ns:List Nat)
 |clo (f:Nat) (caps:List CPat)
 |so (ls:List (Option Nat×Ty))
 deriving DecidableEq
inductive OPat where
 |ref (ts:List Ty)
 |rl (t:Ty)
 deriving DecidableEq
def rlP:RL->(Option Nat×Ty)×TV
 |.d x=>((none,x.t),x)
 |.own e x=>((some e,x.t),x)
def rlsF:List (Option Nat×Ty)->List TV->List RL
 |[],_=>[]
 |(none,_)::ps,xs=> .d (xs.headD tv0)::rlsF ps xs.tail
 |(some e,_)::ps,xs=> .own e (xs.headD tv0)::rlsF ps xs.tail
theorem Ju:∀(ls:List RL)(r:List TV),rlsF (ls.map λl=>(rlP l).1) ((ls.map λl=>(rlP l).2)++r)=ls
 |[],r=>rfl
 |.d x::ls,r=>by
  have:=Ju ls r;show RL.d _::rlsF _ (_++r)=_;rw[this];rfl
 |.own e x::ls,r=>by
  have:=Ju ls r;show RL.own e _::rlsF _ (_++r)=_;rw[this];rfl
def rvP:RV->VPat×List TV
 |.v x=>(.v x.t,[x])
 |.own e x=>(.own e x.t,[x])
 |.box ls=>(.box (ls.map (·.t)),ls)
 |.hd n=>(.hd,[⟨.int .i64,(n:Int)⟩])
 |.vn x ns=>(.vn x.t ns,[x])
 |.clo f caps=>(.clo f (mY caps).1,(mY caps).2)
 |.so ls=>(.so (ls.map λl=>(rlP l).1),ls.map λl=>(rlP l).2)
def VPat.n:VPat->Nat
 |.v _=>1
 |.own _ _=>1
 |.box ts=>ts.length
 |.hd=>1
 |.vn _ _=>1
 |.clo _ cs=>Ad cs
 |.so ls=>ls.length
def rvF:VPat->List TV->RV
 |.v _,xs=> .v (xs.headD tv0)
 |.own e _,xs=> .own e (xs.headD tv0)
 |.box ts,xs=> .box (xs.take ts.length)
 |.hd,xs=> .hd (Jp (xs.headD tv0))
 |.vn _ ns,xs=> .vn (xs.headD tv0) ns
 |.clo f cs,xs=> .clo f (Ac cs xs)
 |.so ls,xs=> .so (rlsF ls xs)
theorem jB2(c:RV)(r:List TV):rvF (rvP c).1 ((rvP c).2++r)=c/\(rvP c).1.n=(rvP c).2.length:=by
 cases c with
 |v x=>exact⟨rfl,rfl⟩
 |own e x=>exact⟨rfl,rfl⟩
 |hd n=>exact⟨rfl,rfl⟩
 |vn x ns=>exact⟨rfl,rfl⟩
 |box ls=>simp[rvP,rvF,VPat.n]
 |clo f cs=>have:=FG cs r;simp only[rvP,rvF,VPat.n];exact⟨by rw[this.1],this.2⟩
 |so ls=>exact⟨by simp only[rvP,rvF];rw[Ju],by simp[rvP,VPat.n]⟩
def outP:Out->OPat×List TV
 |.ref ls=>(.ref (ls.map (·.t)),ls)
 |.rl x=>(.rl x.t,[x])
def OPat.n:OPat->Nat
 |.ref ts=>ts.length
 |.rl _=>1
def outF:OPat->List TV->Out
 |.ref ts,xs=> .ref (xs.take ts.length)
 |.rl _,xs=> .rl (xs.headD tv0)
theorem jzM(c:Out)(r:List TV):outF (outP c).1 ((outP c).2++r)=c/\(outP c).1.n=(outP c).2.length:=by
 cases c with
 |rl x=>exact⟨rfl,rfl⟩
 |ref ls=>simp[outP,outF,OPat.n]
def rvsP:List RV->List VPat×List TV
 |[]=>([],[])
 |c::cs=>((rvP c).1::(rvsP cs).1,(rvP c).2++(rvsP cs).2)
def rvsF:List VPat->List TV->List RV
 |[],_=>[]
 |c::cs,xs=>rvF c xs::rvsF cs (xs.drop c.n)
def rvsN:List VPat->Nat
 |[]=>0
 |c::cs=>c.n+rvsN cs
theorem Jv:∀(cs:List RV)(r:List TV),rvsF (rvsP cs).1 ((rvsP cs).2++r)=cs/\rvsN (rvsP cs).1=(rvsP cs).2.length
 |[],r=>⟨rfl,rfl⟩
 |c::cs,r=>by
  simp only[rvsP,rvsF,rvsN,jd,ja];have h1:=jB2 c ((rvsP cs).2++r);have h2:=Jv cs r;rw[h1.1,h1.2,v7,h2.1,h2.2];exact⟨rfl,rfl⟩
def u6:List Out->List OPat×List TV
 |[]=>([],[])
 |c::cs=>((outP c).1::(u6 cs).1,(outP c).2++(u6 cs).2)
def FM:List OPat->List TV->List Out
 |[],_=>[]
 |c::cs,xs=>outF c xs::FM cs (xs.drop c.n)
theorem Q9:∀(cs:List Out)(r:List TV),FM (u6 cs).1 ((u6 cs).2++r)=cs
 |[],r=>rfl
 |c::cs,r=>by
  simp only[u6,FM,jd];have h1:=jzM c ((u6 cs).2++r);rw[h1.1,h1.2,v7,Q9 cs r]
structure RPat where
 vs:List VPat
 os:List OPat
 deriving DecidableEq
def p8(rp:RPat)(ts:List Ty)(h:HL ts):Ret:=⟨rvsF rp.vs (ofHL ts h),FM rp.os ((ofHL ts h).drop (rvsN rp.vs))⟩
def FN(rp:RPat)(ts:List Ty)(r:Ret):Option (HL ts):=
 if (rvsP r.vals).1=rp.vs/\(u6 r.outs).1=rp.os then toHL ts ((rvsP r.vals).2++(u6 r.outs).2) else none
theorem jtu{rp:RPat}{ts:List Ty}{r:Ret}{h:HL ts}(hs:FN rp ts r=some h):r=p8 rp ts h:=by
 unfold FN at hs;split at hs
 .rename_i hp;have:=FF hs;unfold p8;rw[<-this,<-hp.1,<-hp.2,(Jv r.vals _).1,(Jv r.vals []).2,v7];have h2:=Q9 r.outs [];rw[kb]at h2;rw[h2]
 .simp at hs
structure Con where
 f:Nat
 ps:List APat
 ts:List Ty
 rp:RPat
 rs:List Ty
 F:HL ts->Option (HL rs)
def Con.C(c:Con)(args:List Arg)(R:Type)(k:Ret->Option R):Option R:=
 match FI c.ps c.ts args with
 |some h=>(c.F h).bind λx=>k (p8 c.rp c.rs x)
 |none=>none
def Con.OK(P:Program)(c:Con):Prop:=FnOK P c.f c.C
def conC:List Con->Nat->List Arg->(R:Type)->(Ret->Option R)->Option R
 |[],_,_,_,_=>none
 |c::cs,f,args,R,k=>if c.f=f then (if (tc args).1=c.ps then c.C args R k else conC cs f args R k) else conC cs f args R k
theorem Jw{P:Program}{f:Nat}:FnOK P f (λ_ _ _=>none):=by
 intro args R k r h;simp at h
def C8(P:Program):List Con->Prop
 |[]=>True
 |c::cs=>c.OK P/\C8 P cs
theorem Jy{P:Program}:∀cs:List Con,C8 P cs->lG P (conC cs)
 |[],_,_=>Jw
 |c::cs,h,f=>by
  have ih:=Jy cs h.2 f;intro args R k r hk;simp only[conC]at hk;split at hk
  .rename_i hf;subst hf;split at hk
   .exact h.1 args R k r hk
   .exact ih args R k r hk
  .exact ih args R k r hk
theorem Jz:∀cs:List Con,CFun (conC cs)
 |[]=>λ_ _=>⟨none,λ_ _=>rfl⟩
 |c::cs=>λf args=>by
  have ih:=Jz cs f args;simp only[conC];split
  .split
   .unfold Con.C;split
    .rename_i h _;cases hq:c.F h with
     |none=>exact⟨none,λ_ _=>rfl⟩
     |some x=>exact⟨some (p8 c.rp c.rs x),λ_ _=>rfl⟩
    .exact⟨none,λ_ _=>rfl⟩
   .exact ih
  .exact ih
def JA:List (Nat×Keep)->Nat->Keep
 |[],_=>⟨[],[],[],[]⟩
 |x::r,b=>if x.1=b then x.2 else JA r b
def JB:List (Nat×Ex×Keep)->Nat->Ex->Keep
 |[],_,_=>⟨[],[],[],[]⟩
 |x::r,b,e=>if x.1=b/\x.2.1=e then x.2.2 else JB r b e
def JC:List (Nat×List Bool)->Nat->List Bool
 |[],_=>[]
 |x::r,b=>if x.1=b then x.2 else JC r b
def dwL:List (Nat×List (List Nat))->Nat->List (List Nat)
 |[],_=>[]
 |x::r,b=>if x.1=b then x.2 else dwL r b
def bwL:List (Nat×(Bool×Ty))->Nat->Option (Bool×Ty)
 |[],_=>none
 |x::r,f=>if x.1=f then some x.2 else bwL r f
def FO(P:Program):List (Nat×(Bool×Ty))->Prop
 |[]=>True
 |x::r=>ItOK P x.1 x.2.1 x.2.2/\FO P r
theorem Ra{P:Program}:∀{l:List (Nat×(Bool×Ty))},FO P l->∀f t,bwL l f=some t->ItOK P f t.1 t.2
 |[],_,f,t,h=>by simp[bwL]at h
 |x::r,hl,f,t,h=>by
  simp only[bwL]at h;split at h
  .rename_i e;simp only[j4]at h;rw[<-e,<-h];exact hl.1
  .exact Ra hl.2 f t h
structure FnD where
 N:Nat
 np:Nat
 cs:List Con
 ds:List kF
 modes:List (Nat×List Bool):=[]
 keep:List (Nat×Keep):=[]
 keepX:List (Nat×Ex×Keep):=[]
 ro:List Bool:=[]
 dw:List (Nat×List (List Nat)):=[]
 hd:Bool:=false
 ns:List Nat:=[]
 bw:List (Nat×(Bool×Ty)):=[]
 so:List SoK:=[]
 cr:List Nat:=[]
def FnD.env(d:FnD)(T:List (Option TyI)):Env:=⟨⟨d.N,λ_=>false⟩,d.np,tab T,conC d.cs,JC d.modes,td d.ds,JA d.keep,JB d.keepX,d.ro,dwL d.dw,false,d.hd,d.ns,bwL d.bw,d.so,d.cr⟩
theorem jzN{P:Program}{T:List (Option TyI)}(hT:cw P (tab T))(iX:P.follows .mixedOrders=true)(d:FnD)(ig:Con)(fn:Func)(c:Code)(hf:P.funcs[ig.f]? = some fn)(hb:fn.body=some c)
  (hN : fn.ntmps = d.N) (xo : d.np ≤ d.N) (bV : (fn.name == "runtime.NumGoroutine") = false) (dB : C8 P d.cs) (hm : (fM 0 c).map (·.1) = d.ds.map (·.b)) (hn : oz (d.ds.map (·.b)) = true)
  (hs:u5 (d.env T) c 0 d.ds)(hF:∀h,sb (d.env T) fn (oV ig.ps ig.ts h) (FN ig.rp ig.rs)=ig.F h)(sU:FO P d.bw:=by trivial):ig.OK P:=by
 have hC:lG P (d.env T).C:=Jy d.cs dB;have p9:CFun (d.env T).C:=Jz d.cs;have hL:LFun (d.env T).L:=Jt d.ds;have pI:=QX (E:=d.env T) hT hC p9 iX hf hb hN rfl (Ra sU) xo bV (jwM p9 rfl rfl hm hn hs);intro args R k r hk;unfold Con.C at hk;split at hk
 .rename_i h hu;rw[FJ hu];cases hq:ig.F h with
  |none=>simp[hq]at hk
  |some x=>
   rw[hq,j3]at hk;refine pI _ R k r ?_;obtain⟨o,ho⟩:=jtq p9 rfl hL fn (oV ig.ps ig.ts h);have h1:some x=_:=((hF h).trans hq).symm.trans (ho _ _);cases o with
   |none=>simp at h1
   |some ret=>rw[j3]at h1;show sb (d.env T) fn (oV ig.ps ig.ts h) k=some r;refine(ho _ _).trans ?_;rw[j3,jtu h1.symm];exact hk
 .simp at hk
theorem cOf{P:Program}{T:List (Option TyI)}(hT:cw P (tab T))(iX:P.follows .mixedOrders=true)(d:FnD)(ig:Con){fn:Func}(hf:P.funcs[ig.f]? = some fn)(dB:C8 P d.cs)
  (hs:u5 (d.env T) (fn.body.getD .skip) 0 d.ds)(sU:FO P d.bw:=by trivial)(hb:fn.body=some (fn.body.getD .skip):=by kernel_rfl)(hN:fn.ntmps=d.N:=by kernel_rfl)
  (xo : Nat.ble d.np d.N = true := by kernel_rfl) (bV : (fn.name == "runtime.NumGoroutine") = false := by kernel_rfl) (hm : (fM 0 (fn.body.getD .skip)).map (·.1) = d.ds.map (·.b) := by kernel_rfl)
  (hn:oz (d.ds.map (·.b))=true:=by kernel_rfl)(hF:∀h,sb (d.env T) fn (oV ig.ps ig.ts h) (FN ig.rp ig.rs)=ig.F h:=by intro h;kernel_rfl):ig.OK P:=
 jzN hT iX d ig fn _ hf hb hN (Nat.le_of_ble_eq_true xo) bV dB hm hn hs hF sU
def kG{α β:Type}(B:(α->Option β)->α->Option β):Nat->α->Option β
 |0,_=>none
 |n+1,a=>B (kG B n) a
open Classical in
def u7{α β:Type}(B:(α->Option β)->α->Option β)(a:α):Option β:=
 if h:∃x n,kG B n a=some x then some h.choose else none
theorem juT{α β:Type}{B:(α->Option β)->α->Option β}{a:α}{x:β}(h:u7 B a=some x):∃n,kG B n a=some x:=by
 unfold u7 at h;split at h
 .rename_i hx;simp only[j4]at h;obtain⟨m,hm⟩:=hx.choose_spec;exact⟨m,by rw[<-h];exact hm⟩
 .simp at h
theorem Rb{α β:Type}{B:(α->Option β)->α->Option β}{a:α}{x:β}(h1:∃n,kG B n a=some x)(h2:∀n y,kG B n a=some y->y=x):u7 B a=some x:=by
 obtain⟨n,hn⟩:=h1;have hx:∃x n,kG B n a=some x:=⟨x,n,hn⟩;unfold u7;rw[dif_pos hx];obtain⟨m,hm⟩:=hx.choose_spec;rw[h2 m _ hm]
theorem jzO{P:Program}{f:Nat}{ps:List APat}{ts:List Ty}{rp:RPat}{rs:List Ty}{B:(HL ts->Option (HL rs))->HL ts->Option (HL rs)}
  (dM:∀g,Con.OK P ⟨f,ps,ts,rp,rs,g⟩->Con.OK P ⟨f,ps,ts,rp,rs,B g⟩):Con.OK P ⟨f,ps,ts,rp,rs,u7 B⟩:=by
 have all:∀n,Con.OK P ⟨f,ps,ts,rp,rs,kG B n⟩:=by
  intro n;induction n with
  |zero=>
   intro args R k r hk;unfold Con.C at hk;split at hk
   .simp[kG]at hk
   .simp at hk
  |succ n ih=>exact dM _ ih
 intro args R k r hk;unfold Con.C at hk;split at hk
 .rename_i h hu;cases hq:u7 B h with
  |none=>simp[hq]at hk
  |some x=>obtain⟨n,hn⟩:=juT hq;refine all n args R k r ?_;unfold Con.C;rw[hu];dsimp only;rw[hn];dsimp only at hk;rw[hq]at hk;exact hk
 .simp at hk
def FnD.envN(d:FnD)(T:List (Option TyI)):Env:=⟨⟨d.N,λ_=>false⟩,d.np,tab T,conC d.cs,JC d.modes,td d.ds,JA d.keep,JB d.keepX,d.ro,dwL d.dw,true,d.hd,d.ns,λ_=>none,d.so,d.cr⟩
theorem juU{α R:Type}(xs:List α)(K:List α->Option R){r:R}(h:(cond (decide (([]:List α).length+xs.length<=aS)) (some (([]:List α)++xs)) none).bind K=some r) :
  vZ (List.isEmpty xs) (K []) (cond (decide (([]:List α).length+xs.length<=aS)) (K (([]:List α)++xs)) none)=some r:=by
 cases hd:decide (([]:List α).length+xs.length<=aS) with
 |false=>rw[hd]at h;simp at h
 |true=>
  rw[hd]at h;simp only[j5,j3]at h ⊢;cases xs with
  |nil=>simp only[kb]at h ⊢;rw[Xr];exact h
  |cons x r=>exact h
theorem Rc{P:Program}{T:List (Option TyI)}(hT:cw P (tab T))(iX:P.follows .mixedOrders=true)(d:FnD)(f:Nat)(a:Ty)(e:Nat)(fn:Func)(c:Code)(hf:P.funcs[f]? = some fn)(hb:fn.body=some c)
  (hN : fn.ntmps = d.N) (xo : d.np ≤ d.N) (bV : (fn.name == "runtime.NumGoroutine") = false) (dB : C8 P d.cs) (hl : fM 0 c = [])
  (hF:∀(h:List a.den)(R:Type)(k:Ret->Option R),sb (d.envN T) fn [.v ⟨.list a,h⟩] k=vZ (List.isEmpty h) (k ⟨[.own e ⟨.list a,([]:List a.den)⟩],[]⟩)
   (cond (decide (([]:List a.den).length+List.length h<=aS)) (k ⟨[.own e ⟨.list a,([]:List a.den)++h⟩],[]⟩) none)) :
  Con.OK P ⟨f,[.v (.list a)],[.list a],⟨[.own e (.list a)],[]⟩,[.list a],λh=>cond (decide (([]:List a.den).length+List.length h<=aS)) (some (([]:List a.den)++h)) none⟩:=by
 have hC:lG P (d.envN T).C:=Jy d.cs dB;have p9:CFun (d.envN T).C:=Jz d.cs;have pI:=QX (E:=d.envN T) hT hC p9 iX hf hb hN rfl (λf t h=>by simp[FnD.envN]at h) xo bV (by rw[hl];simp);intro args R k r hk;unfold Con.C at hk;split at hk
 .rename_i h hu;rw[FJ hu];refine pI _ R k r ?_;refine(hF h R k).trans ?_;exact juU (α:=a.den) h (λx=>k ⟨[.own e ⟨.list a,x⟩],[]⟩) hk
 .simp at hk
def w64(x:Int):Int:=IntKind.wrap .i64 x
class LP where
 lp:{α β:Type}->(α->Option (α ⊕ β))->α->Option β
 rp:{α β:Type}->((α->Option β)->α->Option β)->α->Option β
noncomputable instance realLP:LP:=⟨loopOpt,u7⟩
abbrev ar(N:Nat):LP:=⟨λf a=>loopN f N a,λB a=>kG B N a⟩
theorem ah{x:Int}(h1 : -9223372036854775808<=x)(h2:x<=9223372036854775807):w64 x=x:=IntWalk.i64_in x ⟨h1,h2⟩
def lpK{α β:Type}(r:Option (α ⊕ β))(f:α->Option β):Option β:=match r with
 |none=>none
 |some (.inl s)=>f s
 |some (.inr x)=>some x
theorem aF{α β:Type}(s:α)(f:α->Option β):lpK (some (.inl s)) f=f s:=rfl
theorem aW{α β:Type}(x:β)(f:α->Option β):lpK (some (.inr x)) f=some x:=rfl
theorem Re{α β γ:Type}(x:α)(f:α->γ)(g:β->γ):sumC (.inl x) f g=f x:=rfl
theorem qA{α β γ:Type}(x:β)(f:α->γ)(g:β->γ):sumC (.inr x) f g=g x:=rfl
theorem bm{α β:Type}(f:α->Option (α ⊕ β))(s:α):loopOpt f s=lpK (f s) (loopOpt f):=by
 cases h:f s with
 |none=>
  cases hq:loopOpt f s with
  |none=>rfl
  |some x=>obtain⟨n,hn⟩:=C6 hq;cases n<;>simp[loopN,h]at hn
 |some r=>
  cases r with
  |inl s'=>exact jpT h
  |inr x=>exact jrd h
section
variable{S0:aD}{w0:World}{refs:Refs}
theorem JD{P:Program}{E:Env}(hT:cw P E.T)(hC:lG P E.C){ops:Array Oper}{R:Type}{k:St->Option R}{r:R}{Q:Exit->Go.Act->World->Prop}{n:Nat}{rest:List Nat}
  (hn:∀σ' a' w' S' γ',Rel E.N E.np S0 w0 refs σ' a' w' S' γ'->dK σ'->k σ'=some r->wpOpsIn (FR none) n P ops Q rest a' w') :
  ∀(l:List Oper)(i:Nat){σ:St}{a:Go.Act}{w:World}{S:aD}{γ:Nat->Value},(∀j o,l[j]? = some o->ops[i+j]? = some o/\o.guard=none)->Rel E.N E.np S0 w0 refs σ a w S γ->dK σ->oA E l σ k=some r->
   wpOpsIn (FR none) n P ops Q (List.range' i l.length++rest) a w
 |[],i,σ,a,w,S,γ,hl,hR,hc,h=>hn _ _ _ _ _ hR hc h
 |o::l,i,σ,a,w,S,γ,hl,hR,hc,h=>by
  simp only[oA]at h;split at h
  .rename_i hd;obtain⟨ho,hg⟩:=hl 0 o rfl;have hw:Region.wanted o (yielded ops a.tmps)=true:=by simp[Region.wanted,hg]
   simp only[jl,List.range'_succ,qd,wpOpsIn,show ops[i]? = some o from ho,hw,if_true];refine Fx (.inl rfl) (λ_ _ h=>h) (Fj hT hC hR (act:=[]) (λg hg=>by simp at hg) (p:=false) (λ_=>hc) hd h (λσ' a' w' S' γ' cU ej hk=>?_));exact JD hT hC hn l (i+1) (λj o' hj=>by rw[show i+1+j=i+(j+1) by omega];exact hl (j+1) o' (by simpa using hj)) cU (ej rfl) hk
  .simp at h
theorem C9{N:NT}{np:Nat}{fx:Nat->Option Value}{σ:St}{a:Go.Act}{W:World}{S:aD}(bX:a.tmps.size=N.n)(hd:a.defers=[])(aY:∀k,σ.bx k = .free)(hS:∀g o,S g o->g<W.heap.size)
  (pR:∀i,gz S W (λ_=>undef) σ.bx (tm a) (σ.sl i) (tm a i))(JE:∀i v,fx i=some v->N.pin i=true/\tm a i=v):Rel N np S W { blks:=[],val:=λ_=>none,fix:=fx } σ a W S (λ_=>undef):=
 ⟨bX,hd,pR,λk b h=>by rw[aY]at h;simp at h,λk b g h=>by rw[aY]at h;simp at h,λk k' b b' g _ h=>by rw[aY]at h;simp at h,λ_ _ h=>h,λ_ _ h=> .inl h,hS,λ_ _ _=>rfl,jj _,rfl,rfl,rfl,
  λk v h=>by simp at h,λg o h=>by simp at h,JE⟩
theorem u9{N:NT}{np:Nat}{fx:Nat->Option Value}{σ:St}{a:Go.Act}{w:World}{S:aD}{γ:Nat->Value}(hR:Rel N np S0 w0 { blks:=[],val:=λ_=>none,fix:=fx } σ a w S γ):Grew w0 w:=
 ⟨λg hg=>hR.below g hg (λh=>by have h:g∈([]:List Nat):=h;simp at h),hR.grow,hR.os,hR.tape,hR.output⟩
theorem jpY{P:Program}{a:Go.Act}{w:World}{o:Oper}{cl:Call}(ho:o.op = .call cl){x:Operand}(hc:cl.callee = .value x){l:Nat}(hx:a.eval x = .func (.yield l) #[] #[]){nx:Next}{w':World}
  (hy:(Instr.yield l (cl.args.map a.eval)).run P w = .ok nx w'):(execOp a.eval o).run P w = .ok nx w':=by
 simp[execOp,ho,resolve,hc,Deferred.ofValue,hx,invoke,hy]
end
section
variable{S0:aD}{w0:World}{refs:Refs}
def bwE(T:Nat->Option TyI):Env:=
 { N:=⟨19,λi=>i==0||(i==1||i==11)⟩,np:=0,T:=T,C:=λ_ _ _ _=>none,modes:=λ_=>[],L:=λ_ _ _ _=>none,keep:=λ_=>⟨[],[],[],[]⟩,keepX:=λ_ _=>⟨[],[],[],[]⟩,ro:=[] }
def slF(l:List (Nat×Cel)):St:={ sl:=λj=>match l.find? (λx=>x.1==j) with|some x=> .one x.2|none=> .one (.one .dead),bx:=λ_=> .free }
def g3(σ:St):Option Int:=match σ.sl 3 with
 |.one (.one (.d (.int .i64) v))=>some v
 |_=>none
def g1(σ:St):Option (Bool×Int):=match σ.sl 8,σ.sl 3 with
 |.one (.one (.d .bool b)),.one (.one (.d (.int .i64) v))=>some (b,v)
 |_,_=>none
def g18(σ:St):Option (Bool×Int):=match σ.sl 18,σ.sl 3 with
 |.one (.one (.d .bool b)),.one (.one (.d (.int .i64) v))=>some (b,v)
 |_,_=>none
def g16(t:Ty)(σ:St):Option (Int×t.den×Int):=match σ.sl 12,σ.sl 16,σ.sl 3 with
 |.one (.one (.d (.int .i64) u)),.one c,.one (.one (.d (.int .i64) v))=>match ov (λ_=> .gone) t c with
  |some (x,[])=>some (u,x,v)
  |_=>none
 |_,_,_=>none
def lstP(t:Ty)(xs:List t.den):Cel:= .one (.ip [⟨.list t,xs⟩])
def intP(i:Int):Cel:= .one (.d (.int .i64) i)
theorem Da(l:List (Nat×Cel)):dK (slF l):=λi=>by
 simp only[slF];split<;>rfl
theorem jwP{np:Nat}{σ:St}:RdF np σ (λ_=> .gone):=⟨λ_=> .inr rfl,λk e a xs f h=>by simp at h⟩
theorem Db{S:aD}{W:World}{γ:Nat->Value}{l:List (Nat×Cel)}{JF:Nat->Value}(h:∀x∈l,bJ S W γ (λ_=> .free) x.2 (JF x.1))(i:Nat):gz S W γ (λ_=> .free) JF ((slF l).sl i) (JF i):=by
 simp only[slF];split
 .rename_i x hx;have:=h x (List.mem_of_find?_eq_some hx);have e:=List.find?_some hx;simp only[qy]at e;rw[<-e];exact this
 .exact⟨trivial,λh=>absurd rfl h⟩
theorem JG{P:Program}{T:Nat->Option TyI}(hT:cw P T){QQ n:Nat}{A:Array Oper}{σ:St}{fx:Nat->Option Value}{a:Go.Act}{w:World}{S:aD}{γ:Nat->Value}{R:Type}{k:St->Option R}{r:R}
  (hR:Rel (bwE T).N (bwE T).np S0 w0 { blks:=[],val:=λ_=>none,fix:=fx } σ a w S γ)(hc:dK σ)(h:oD (bwE T) A σ k=some r) :
  (Code.region QQ A false).wpIn (FR none) n P (λe a' w'=>e = .normal/\∃σ' S' γ',Rel (bwE T).N (bwE T).np S0 w0 { blks:=[],val:=λ_=>none,fix:=fx } σ' a' w' S' γ'/\k σ'=some r) a w:=
 wpIn_region (CP (.inl rfl) (by rintro⟨a,w,h,_⟩;cases h) _ _ _ (P2 hT (λf=>Jw) hR hc (λσ' a' w' S' γ' cU _ hk=>⟨rfl,σ',S',γ',cU,hk⟩) h))
theorem Rf{σ:St}{v:Int}(h:g3 σ=some v):σ.sl 3 = .one (.one (.d (.int .i64) v)):=by
 unfold g3 at h;split at h
 .rename_i u hu;simp only[j4]at h;subst h;exact hu
 .simp at h
theorem jB3{σ:St}{b:Bool}{v:Int}(h:g1 σ=some (b,v)):σ.sl 8 = .one (.one (.d .bool b))/\σ.sl 3 = .one (.one (.d (.int .i64) v)):=by
 unfold g1 at h;split at h
 .rename_i hb hu;simp only[j4,j8]at h;obtain⟨rfl,rfl⟩:=h;exact⟨hb,hu⟩
 .simp at h
theorem jzQ{σ:St}{b:Bool}{v:Int}(h:g18 σ=some (b,v)):σ.sl 18 = .one (.one (.d .bool b))/\σ.sl 3 = .one (.one (.d (.int .i64) v)):=by
 unfold g18 at h;split at h
 .rename_i hb hu;simp only[j4,j8]at h;obtain⟨rfl,rfl⟩:=h;exact⟨hb,hu⟩
 .simp at h
theorem jzR{t:Ty}{σ:St}{i:Int}{x:t.den}{v:Int}(h:g16 t σ=some (i,x,v)):σ.sl 12 = .one (.one (.d (.int .i64) i))/\σ.sl 3 = .one (.one (.d (.int .i64) v))/\∃c,σ.sl 16 = .one c/\ov (λ_=> .gone) t c=some (x,[]):=by
 unfold g16 at h;split at h
 .rename_i c _ wM JH h3;split at h
  .rename_i hx;simp only[j4,j8]at h;obtain⟨rfl,rfl,rfl⟩:=h;exact⟨wM,h3,c,JH,hx⟩
  .simp at h
 .simp at h
theorem Af{N:NT}{np:Nat}{σ:St}{a:Go.Act}{w:World}{S:aD}{γ:Nat->Value}(hR:Rel N np S0 w0 refs σ a w S γ){s:Nat}{v:Int}(h:σ.sl s = .one (.one (.d (.int .i64) v))):tm a s = .int .i64 v:=by
 have:=hR.slot s;rw[h]at this;have h1:[a.tmps.getD s undef]=[Value.int .i64 v]:=this.1;simpa[tm]using h1
theorem Rg{N:NT}{np:Nat}{σ:St}{a:Go.Act}{w:World}{S:aD}{γ:Nat->Value}(hR:Rel N np S0 w0 refs σ a w S γ){s:Nat}{v:Bool}(h:σ.sl s = .one (.one (.d .bool v))):tm a s = .bool v:=by
 have:=hR.slot s;rw[h]at this;have h1:[a.tmps.getD s undef]=[Value.bool v]:=this.1;simpa[tm]using h1
theorem jB4{P:Program}{T:Nat->Option TyI}(hT:cw P T){f:Nat}{t:Ty}{fn:Func}(hf:P.funcs[f]? = some fn){r0 b0 r1 b1 r3 r2:Nat}{A0 A1 A2:Array Oper}{o0 o6 o7:Oper}{l3:List Oper}{cl:Call}
  (hb:fn.body=some ((Code.region r0 A0 false).seq (Code.block b0 ((((Code.region r1 A1 false).seq (Code.cond (.tmp 8) .skip (.exit b0))).seq ((Code.block b1 ((Code.region r3 (o0::(l3++[o6,o7])).toArray false).seq (Code.cond (.tmp 18) .ret .skip))).seq (Code.region r2 A2 false))).loop))))
  (JI : fn.ntmps = 19) (kE : fn.results = #[]) (bV : (fn.name == "runtime.NumGoroutine") = false) (Ag : l3.length = 5) (dL : (o0 :: (l3 ++ [o6, o7])).all (fun o => o.guard.isNone) = true)
  (xr:o0.op = .move (.tmp 0))(JJ:o0.dst=some 11)(xt:o6.op = .call cl)(JK:cl.callee = .value (.tmp 11))(FP:cl.args = #[.tmp 12,.tmp 16])(h6d:o6.dst=some 17)
  (e0:∀xs:List t.den,oD (bwE T) A0 (slF [(1,lstP t xs)]) g3=some (w64 (Int.ofNat (List.length xs)-1)))
  (e1:∀i:Int,oD (bwE T) A1 (slF [(3,intP i)]) g1=some (decide (i>=0),i))
  (e2:∀i:Int,oD (bwE T) A2 (slF [(3,intP i)]) g3=some (w64 (i-1)))
  (e3:∀(xs:List t.den)(i:Int),oA (bwE T) l3 (slF [(1,lstP t xs),(3,intP i)]) (g16 t)=cond (inR i (List.length xs)) (some (i,List.getD xs (Int.toNat i) t.dflt,i)) none)
  (e7:∀(b:Bool)(i:Int),oA (bwE T) [o7] (slF [(17,.one (.d .bool b)),(3,intP i)]) g18=some (!b,i)):BwOK P f t:=by
 refine⟨⟨fn,hf,by rw[hb];rfl,bV⟩,?_⟩;intro cv m l J Jx W S aB wW fk hY mu zY;have hC:lG P (bwE T).C:=λf=>Jw;obtain⟨S0,fT,hm,hS0,mZ⟩:=mu
 obtain⟨z0,qB⟩:∃z0,cv = #[z0]:=by
  have:=mZ.length;obtain⟨cl⟩:=cv;match cl,this with
  |[z],_=>exact⟨z,rfl⟩
 subst qB;refine callsIn_of_wp hf hb trivial ?_;rw[JI];obtain⟨yv,I6⟩:∃yv,yv=Value.func (.yield l) #[] #[]:=⟨_,rfl⟩;obtain⟨R,hR⟩:∃R:Ending->World->Prop,R=λe W'=>(∃v,e = .returned v)/\((∃S',J m S' W')\/Jx W'):=⟨_,rfl⟩;rw[<-I6,<-hR];let fx:Nat->Option Value:=λi=>if i=0 then some yv else if i=1 then some z0 else none
 let Fr:Go.Act->Prop:=λa=>a.tmps.size=19/\a.defers=[]/\tm a 0=yv/\tm a 1=z0
 let Inv:Go.Act->World->Prop:=λa W=>Fr a/\∃j S,j<=m/\J j S W/\tm a 3 = .int .i64 ((m:Int)-1-j)
 let μ:Go.Act->World->Nat:=λa W=>match tm a 3 with
  |.int _ v=>(v+1).toNat
  |_=>0
 have dq:∀{a:Go.Act}{W':World},a.defers=[]->((∃S',J m S' W')\/Jx W')->a.defers=[]/\∃v,(results fn a.tmps).run P W' = .ok v W'/\R (.returned v) W':=by intro a W' hd h;exact⟨hd,_,results_none kE _ _ _,by rw[hR];exact⟨⟨_,rfl⟩,h⟩⟩
 have iR:∀{σ:St}{a:Go.Act}{w w0:World}{S S0:aD}{γ:Nat->Value},Rel (bwE T).N (bwE T).np S0 w0 { blks:=[],val:=λ_=>none,fix:=fx } σ a w S γ->Fr a:=λhR=>
  ⟨hR.size,hR.defers,(hR.fix 0 yv rfl).2,(hR.fix 1 z0 rfl).2⟩
 have kH:∀{a:Go.Act},Fr a->∀i v,fx i=some v->(bwE T).N.pin i=true/\tm a i=v:=by
  intro a ha i v hv;simp only[fx]at hv;split at hv
  .rename_i e;subst e;simp only[j4]at hv;subst hv;exact⟨rfl,ha.2.2.1⟩
  .split at hv
   .rename_i _ e;subst e;simp only[j4]at hv;subst hv;exact⟨rfl,ha.2.2.2⟩
   .simp at hv
 have same:∀{j:Nat}{S:aD}{W W':World},J j S W->Grew W W'->zV S W S W':=λhJ hg=>⟨λ_ _ h=>h,λ_ _ h=> .inl h,λg o h=>qj (fk _ _ _ hJ g o h) hg.size⟩
 have hmlt:m<=9223372036854775807:=by
  obtain⟨g,o,cs,_,ao,_⟩:=mZ.1;match cs,ao with
  |[z],ao=>obtain⟨ad,cap,_,h1,h2,_⟩:=ao.1;simp only[maxLen]at h2;have h1:List.length fT<=cap:=h1;omega
 obtain⟨a0,sZ⟩:∃a0:Go.Act,a0={ tmps:=#[yv] ++ #[z0]++Array.replicate (19-(#[yv] ++ #[z0]).size) undef,defers:=[] }:=⟨_,rfl⟩;rw[<-sZ]
 have tg:Fr a0:=by
  subst sZ;refine⟨?_,rfl,?_,?_⟩
  .simp
  .simp[tm]
  .simp[tm]
 have mu:Rel (bwE T).N (bwE T).np S0 W { blks:=[],val:=λ_=>none,fix:=fx } (slF [(1,lstP t fT)]) a0 W S0 (λ_=>undef):=
  C9 tg.1 tg.2.1 (λ_=>rfl) hS0 (Db (λx hx=>by
   simp only[ke]at hx;subst hx;rw[tg.2.2.2];exact⟨mZ.1,λ_=>by obtain⟨g,o,cs,hu,_⟩:=mZ.1;rw[hu];rfl⟩)) (kH tg)
 refine wpIn_seq (wpIn_mono (JG hT mu (Da _) (e0 fT)) ?_)
 rintro e a W1 ⟨rfl,σ1,S1,γ1,bu,dz⟩
 show (Code.block b0 _).wpIn _ _ _ _ _ _;have h3:=Af bu (Rf dz);refine wpIn_block (wpIn_loop Inv μ ⟨iR bu,0,S,kc _,aB _ _ _ _ _ (u9 bu) (same zY (u9 bu)) zY,?_⟩ ?_)
 .rw[h3,hm,ah (by simp;omega) (by simp;omega)];simp
 .rintro a W ⟨JL,j,S,uU,hJ,h3⟩
  have hint:∀{a:Go.Act}{W:World}{S:aD}{v:Int},tm a 3 = .int .i64 v->bJ S W (λ_=>undef) (λ_=> .free) (intP v) (tm a 3):=λh=>by rw[h];exact⟨rfl,λ_=>rfl⟩
  have hRs:Rel (bwE T).N (bwE T).np S W { blks:=[],val:=λ_=>none,fix:=fx } (slF [(3,intP ((m:Int)-1-j))]) a W S (λ_=>undef):=
   C9 JL.1 JL.2.1 (λ_=>rfl) (fk _ _ _ hJ) (Db (λx hx=>by
    simp only[ke]at hx;subst hx;exact hint h3)) (kH JL)
  refine wpIn_seq (wpIn_seq (wpIn_mono (JG hT hRs (Da _) (e1 _)) ?_))
  rintro e a1 W1 ⟨rfl,σ1,S1,γ1,bu,dz⟩
  obtain⟨h8,JM⟩:=jB3 dz;have JM:=Af bu JM;have h8:a1.eval (.tmp 8) = .bool (decide ((m:Int)-1-j>=0)):=Rg bu h8;have JN:=aB _ _ _ _ _ (u9 bu) (same hJ (u9 bu)) hJ;have mv:=iR bu;show (Code.cond _ _ _).wpIn _ _ _ _ _ _;by_cases bP:(m:Int)-1-j>=0
  case neg=>
   rw[decide_eq_false bP]at h8;refine wpIn_cond_false h8 (wpIn_exit ?_);show Exit.inBlock b0 (bodyPost P fn R) (.exit b0) a1 W1;simp only[Exit.inBlock,if_true];have hj:j=m:=by omega
   subst hj;exact dq mv.2.1 (.inl ⟨S,JN⟩)
  case pos=>
  rw[v6 bP]at h8;refine wpIn_cond_true h8 (wpIn_skip ?_);show (Code.seq _ _).wpIn _ _ _ _ _ _;have JO:j<m:=by omega
  obtain⟨xs,cL,hlen,lx⟩:=hY j S W1 JO JN;refine wpIn_seq (wpIn_block (wpIn_seq (wpIn_region ?_)));obtain⟨ops,xu⟩:∃ops,ops=(o0::(l3++[o6,o7])).toArray:=⟨_,rfl⟩;rw[<-xu];have mo:∀k,ops[k]? = (o0::(l3++[o6,o7]))[k]? := λk=>by rw[xu];exact List.getElem?_toArray
  have bf:∀o∈o0::(l3++[o6,o7]),o.guard=none:=λo ho=>by have:=k5.1 dL o ho;simpa using this
  have bX:ops.size=8:=by rw[xu];simp[Ag]
  have hw:∀(o:Oper)(a:Go.Act),o∈o0::(l3++[o6,o7])->Region.wanted o (yielded ops a.tmps)=true:=λo a ho=>by simp[Region.wanted,bf o ho]
  rw[bX,show List.range 8=0::(List.range' 1 l3.length++[6,7]) by rw[Ag];rfl];have JP:ops[0]? = some o0:=by rw[mo];rfl
  simp only[wpOpsIn,JP,hw o0 _ (qt ..),if_true];refine Fx (.inl rfl) (λ_ _ h=>h) ?_;unfold Oper.wp;rw[show (execOp a1.eval o0).run P W1 = .ok (.value (a1.eval (.tmp 0))) W1 by simp[execOp,xr,go_sem],Oper.upon_value,JJ];have xv:a1.eval (.tmp 0)=yv:=mv.2.2.1;rw[xv];have Dc:11<a1.tmps.size:=by rw[mv.1];omega
  obtain⟨a2,zH⟩:∃a2,a2=a1.put (some 11) yv:=⟨_,rfl⟩;rw[<-zH];have th:∀i,tm a2 i=if i=11 then yv else tm a1 i:=λi=>by rw[zH];exact Cz Dc yv i
  have tj:Fr a2:=⟨by rw[zH,Iq];exact mv.1,by rw[zH,Ir];exact mv.2.1,by rw[th];exact mv.2.2.1,by rw[th];exact mv.2.2.2⟩;let Rh:Nat->Option Value:=λi=>if i=11 then some yv else fx i
  have cO:Rel (bwE T).N (bwE T).np S W1 { blks:=[],val:=λ_=>none,fix:=Rh } (slF [(1,lstP t xs),(3,intP ((m:Int)-1-j))]) a2 W1 S (λ_=>undef):=
   C9 tj.1 tj.2.1 (λ_=>rfl) (fk _ _ _ JN) (Db (λx hx=>by
    simp only[je,va,or_false]at hx;rcases hx with rfl|rfl
    .rw[tj.2.2.2];exact⟨cL.1,λ_=>by obtain⟨g,o,cs,hu,_⟩:=cL.1;rw[hu];rfl⟩
    .exact hint (by rw[th];exact JM))) (λi v hv=>by
     simp only[Rh]at hv;split at hv
     .rename_i e;subst e;simp only[j4]at hv;subst hv;exact⟨rfl,by rw[th,if_pos rfl]⟩
     .exact kH tj i v hv)
  have hx:∃x,xs[m-1-j]? = some x/\List.getD xs (Int.toNat ((m:Int)-1-j)) t.dflt=x:=by refine⟨xs[m-1-j]'hlen,ji hlen,?_⟩;rw[show Int.toNat ((m:Int)-1-j)=m-1-j by omega];simp[List.getD,hlen]
  obtain⟨x,hx,hxd⟩:=hx;have Ri:=e3 xs ((m:Int)-1-j)
  rw[hxd,show inR ((m:Int)-1-j) (List.length xs)=true by
   unfold inR;rw[v6 (show (0:Int)<=(m:Int)-1-j by omega),v6 (show (m:Int)-1-j<(List.length xs:Int) by omega)];rfl,j5]at Ri
  refine JD hT hC ?_ l3 1 (λk o hk=>⟨?_,?_⟩) cO (Da _) Ri
  rotate_left
  .rw[mo,Nat.add_comm,vd,List.getElem?_append_left (ju.1 hk).1];exact hk
  .exact bf o (zu _ (ka _ (k9 hk)))
  intro σ3 a3 W3 S3 γ3 gD _ kD;obtain⟨wM,JQ,c,JH,JR⟩:=jzR kD;have wM:=Af gD wM;have JQ:=Af gD JQ;have JS:VRep S3 W3 ⟨t,x⟩ (tm a3 16):=by have:=gD.slot 16;rw[JH]at this;exact(BT (np:=(bwE T).np) jwP JR this).2.1 S3 W3 (.refl _ _) (λy hy=>by simp at hy)
  have H4:=u9 gD;have h11:tm a3 11=yv:=(gD.fix 11 yv rfl).2;have qC:Fr a3:=⟨gD.size,gD.defers,(gD.fix 0 yv rfl).2,(gD.fix 1 z0 rfl).2⟩;obtain⟨fn6,Dd,as6,bo6,hy6,qD⟩:=lx S3 W3 x _ H4 ⟨gD.ext,gD.new,gD.here⟩ hx JS;have JT:ops[6]? = some o6:=by rw[mo,vd,k7 (by omega),Ag];rfl
  have JU:ops[7]? = some o7:=by rw[mo,vd,k7 (by omega),Ag];rfl
  simp only[wpOpsIn,JT,hw o6 _ (by simp),if_true];refine⟨λ_ _=>trivial,?_⟩
  have aK:(execOp a3.eval o6).run P W3 = .ok (.round l fn6 Dd as6 bo6) W3:=by
   refine jpY xt JK (l:=l) (by rw[<-I6];exact h11) ?_;rw[FP];have JV:a3.eval (.tmp 12) = .int .i64 ((m-1-j:Nat):Int):=by rw[show ((m-1-j:Nat):Int)=(m:Int)-1-j by omega];exact wM
   have e16:a3.eval (.tmp 16)=tm a3 16:=rfl;simp only[List.map_toArray,kr,List.map_nil,JV,e16];exact hy6
  rw[show o6.semAt (FR none).round a3.eval=execOp a3.eval o6 from rfl,aK,Oper.uponIn_round];refine⟨λhd=>by simp[FR,Fence.wide]at hd,?_⟩;refine RoundIn.mono ⟨qD.1,λc cs _=>qD.2 c cs (Qx _ _)⟩ ?_;have De:17<a3.tmps.size:=by rw[qC.1];omega
  have rest:∀(bb:Bool)(W4:World)(S4:aD),(∀g o,S4 g o->g<W4.heap.size)->
    (∀a5 W5,Fr a5->Grew W4 W5->tm a5 18 = .bool (!bb)->tm a5 3 = .int .i64 ((m:Int)-1-j)->(Exit.then ((Code.cond (.tmp 18) .ret .skip).wpIn (FR none) 0 P (Exit.inBlock b1 (Exit.then ((Code.region r2 A2 false).wpIn (FR none) 0 P (Exit.then (λa' W'=>Inv a' W'/\μ a' W'<μ a W) (Exit.inBlock b0 (bodyPost P fn R))))
     (Exit.then (λa' W'=>Inv a' W'/\μ a' W'<μ a W) (Exit.inBlock b0 (bodyPost P fn R)))))) (Exit.inBlock b1 (Exit.then ((Code.region r2 A2 false).wpIn (FR none) 0 P (Exit.then (λa' W'=>Inv a' W'/\μ a' W'<μ a W) (Exit.inBlock b0 (bodyPost P fn R))))
     (Exit.then (λa' W'=>Inv a' W'/\μ a' W'<μ a W) (Exit.inBlock b0 (bodyPost P fn R)))))) .normal a5 W5)->
    wpOpsIn (FR none) 0 P ops (Exit.then ((Code.cond (.tmp 18) .ret .skip).wpIn (FR none) 0 P (Exit.inBlock b1 (Exit.then ((Code.region r2 A2 false).wpIn (FR none) 0 P (Exit.then (λa' W'=>Inv a' W'/\μ a' W'<μ a W) (Exit.inBlock b0 (bodyPost P fn R))))
     (Exit.then (λa' W'=>Inv a' W'/\μ a' W'<μ a W) (Exit.inBlock b0 (bodyPost P fn R)))))) (Exit.inBlock b1 (Exit.then ((Code.region r2 A2 false).wpIn (FR none) 0 P (Exit.then (λa' W'=>Inv a' W'/\μ a' W'<μ a W) (Exit.inBlock b0 (bodyPost P fn R))))
     (Exit.then (λa' W'=>Inv a' W'/\μ a' W'<μ a W) (Exit.inBlock b0 (bodyPost P fn R)))))) [7] (a3.put o6.dst (.bool bb)) W4:=by
   intro bb W4 S4 hS4 kI;rw[h6d];obtain⟨a4,FQ⟩:∃a4,a4=a3.put (some 17) (.bool bb):=⟨_,rfl⟩;rw[<-FQ];have tn:∀i,tm a4 i=if i=17 then .bool bb else tm a3 i:=λi=>by rw[FQ];exact Cz De _ i
   have xw:Fr a4:=⟨by rw[FQ,Iq];exact qC.1,by rw[FQ,Ir];exact qC.2.1,by rw[tn];exact qC.2.2.1,by rw[tn];exact qC.2.2.2⟩
   have rM:Rel (bwE T).N (bwE T).np S4 W4 { blks:=[],val:=λ_=>none,fix:=fx } (slF [(17,.one (.d .bool bb)),(3,intP ((m:Int)-1-j))]) a4 W4 S4 (λ_=>undef):=
    C9 xw.1 xw.2.1 (λ_=>rfl) hS4 (Db (λx hx=>by
     simp only[je,va,or_false]at hx;rcases hx with rfl|rfl
     .rw[tn,if_pos rfl];exact⟨rfl,λ_=>rfl⟩
     .exact hint (by rw[tn];exact JQ))) (kH xw)
   refine JD (rest:=[]) hT hC (λσ5 a5 W5 S5 γ5 mX _ sX=>?_) [o7] 7 (λk o hk=>?_) rM (Da _) (e7 bb _)
   .obtain⟨q1,q2⟩:=jzQ sX;exact kI a5 W5 (iR mX) (u9 mX) (Rg mX q1) (Af mX q2)
   .cases k with
    |zero=>simp at hk;subst hk;exact⟨JU,bf _ (by simp)⟩
    |succ k=>simp at hk
  rintro e W4 (⟨rfl,S4,JW⟩|⟨rfl,hx4⟩)
  .refine rest true W4 S4 (fk _ _ _ JW) (λa5 W5 qE FT JX Rj=>?_);refine wpIn_cond_false (c:= .tmp 18) JX (wpIn_skip ?_);show (Code.region r2 A2 false).wpIn _ _ _ _ _ _;have JY:=aB _ _ _ _ _ FT (same JW FT) JW
   have mX:Rel (bwE T).N (bwE T).np S4 W5 { blks:=[],val:=λ_=>none,fix:=fx } (slF [(3,intP ((m:Int)-1-j))]) a5 W5 S4 (λ_=>undef):=
    C9 qE.1 qE.2.1 (λ_=>rfl) (fk _ _ _ JY) (Db (λx hx=>by
     simp only[ke]at hx;subst hx;exact hint Rj)) (kH qE)
   refine wpIn_mono (JG hT mX (Da _) (e2 _)) ?_
   rintro e a6 W6 ⟨rfl,σ6,S6,γ6,u4,hk6⟩
   have JZ:=Af u4 (Rf hk6);rw[ah (by omega) (by omega)]at JZ;refine⟨⟨iR u4,j+1,S4,by omega,aB _ _ _ _ _ (u9 u4) (same JY (u9 u4)) JY,?_⟩,?_⟩
   .rw[JZ];congr 1;push_cast;omega
   .simp only[μ,JZ,h3];omega
  .refine rest false W4 (λ_ _=>False) (λ_ _ h=>h.elim) (λa5 W5 qE FT JX Rj=>?_);refine wpIn_cond_true (c:= .tmp 18) JX (wpIn_ret ?_);exact dq qE.2.1 (.inr (wW _ _ FT hx4))
end
def xx:Code->List (Nat×Array Oper)
 |.seq x y=>xx x++xx y
 |.cond _ x y=>xx x++xx y
 |.block _ c=>xx c
 |.loop c=>xx c
 |.region id ops _=>[(id,ops)]
 |_=>[]
def bwA(fn:Func)(i:Nat):Array Oper:=(((xx (fn.body.getD .skip)).find? λx=>x.1==i).getD (0, #[])).2
def opAt(A:Array Oper)(i:Nat):Oper:=(A[i]?).getD default
def J0(o:Oper):Call:=match o.op with
 |.call c=>c
 |_=>default
theorem jzS{P:Program}{T:Nat->Option TyI}(hT:cw P T){f:Nat}{t:Ty}{fn:Func}(hf:P.funcs[f]? = some fn){A0 A1 A2 A3:Array Oper}
  (hb:fn.body=some ((Code.region 0 A0 false).seq (Code.block 0 ((((Code.region 1 A1 false).seq (Code.cond (.tmp 8) .skip (.exit 0))).seq ((Code.block 1 ((Code.region 3 A3 false).seq (Code.cond (.tmp 18) .ret .skip))).seq (Code.region 2 A2 false))).loop))))
  (hA:A3=(opAt A3 0::((A3.toList.drop 1).take 5++[opAt A3 6,opAt A3 7])).toArray)
  (JI : fn.ntmps = 19) (kE : fn.results = #[]) (bV : (fn.name == "runtime.NumGoroutine") = false) (Ag : ((A3.toList.drop 1).take 5).length = 5) (dL : (opAt A3 0 :: ((A3.toList.drop 1).take 5 ++ [opAt A3 6, opAt A3 7])).all (fun o => o.guard.isNone) = true)
  (xr:(opAt A3 0).op = .move (.tmp 0))(JJ:(opAt A3 0).dst=some 11)(xt:(opAt A3 6).op = .call (J0 (opAt A3 6)))(JK:(J0 (opAt A3 6)).callee = .value (.tmp 11))(FP:(J0 (opAt A3 6)).args = #[.tmp 12,.tmp 16]/\(opAt A3 6).dst=some 17)
  (e0:∀xs:List t.den,oD (bwE T) A0 (slF [(1,lstP t xs)]) g3=some (w64 (Int.ofNat (List.length xs)-1)))
  (e1:∀i:Int,oD (bwE T) A1 (slF [(3,intP i)]) g1=some (decide (i>=0),i))
  (e2:∀i:Int,oD (bwE T) A2 (slF [(3,intP i)]) g3=some (w64 (i-1)))
  (e3:∀(xs:List t.den)(i:Int),oA (bwE T) ((A3.toList.drop 1).take 5) (slF [(1,lstP t xs),(3,intP i)]) (g16 t)=cond (inR i (List.length xs)) (some (i,List.getD xs (Int.toNat i) t.dflt,i)) none)
  (e7:∀(b:Bool)(i:Int),oA (bwE T) [opAt A3 7] (slF [(17,.one (.d .bool b)),(3,intP i)]) g18=some (!b,i)):BwOK P f t:=by
 rw[hA]at hb;exact jB4 hT hf hb JI kE bV Ag dL xr JJ xt JK FP.1 FP.2 e0 e1 e2 e3 e7
section
variable{S0:aD}{w0:World}{refs:Refs}
def g7(σ:St):Option (Bool×Int):=match σ.sl 7,σ.sl 3 with
 |.one (.one (.d .bool b)),.one (.one (.d (.int .i64) v))=>some (b,v)
 |_,_=>none
theorem Grew.trans{w w' wj:World}(h:Grew w w')(h':Grew w' wj):Grew w wj:=
 ⟨λg hg=>(h'.old g (qj hg h.size)).trans (h.old g hg),qg h.size h'.size,h'.os.trans h.os,h'.tape.trans h.tape,h'.output.trans h.output⟩
end
open Go.RowKit Go.WideShapes Go.ChangeShapes
theorem juX{P:Program}{f:Nat}{ps:List APat}{ts:List Ty}{F:HL ts->Option Bool}(bH:Con.OK P ⟨f,ps,ts,⟨[.v .bool],[]⟩,[.bool],F⟩)(h:HL ts)(hF:F h=some true)
  (w:World)(S:aD)(vals:List Value)(ha:All2 (mR S w) (oV ps ts h) vals)(hr:dU (oV ps ts h) vals=[])(hS:∀g o,S g o->g<w.heap.size)(hu:FI ps ts (oV ps ts h)=some h) :
  Calls P f vals.toArray w λe w'=>e = .returned (.bool true)/\Below w.heap.size w w':=by
 have:=(bH (oV ps ts h) Ret some (p8 ⟨[.v .bool],[]⟩ [.bool] true) (by
  unfold Con.C;rw[hu];show (F h).bind _=_;rw[hF];rfl)).2
 refine(this w S vals ha (by rw[hr];exact zg) hS).mono ?_
 rintro e w' ⟨ret,cp,v,S',vs,rfl,bH⟩
 simp only[j4]at cp;subst cp;have bq:All2 (oK S' w') [.v ⟨.bool,true⟩] vs:=bH.rep;refine⟨?_,bH.os,bH.tape,bH.output,bH.grow,λk hk=>bH.below k hk (by rw[hr];simp)⟩;rw[bH.val];match vs,bq with
 |[u],bq=>have h1:=bq.1;have h2:u.cells.toList=[.bool true]/\(gG Ty.bool=true->∃cs,u=Value.agg cs)/\(gG Ty.bool=false->One u):=h1;have h3:=zI (h2.2.2 rfl);rw[h2.1]at h3;simp only[List.cons.injEq,and_true]at h3;rw[<-h3];rfl
 |[],bq=>exact absurd bq (by simp[All2])
 |_::_::_,bq=>exact absurd bq (by simp[All2])
theorem jom{H:Type}{enc:TypeId×Value->H}{P:Program}{f:Func}{s:ChangeSpec}{apart fresh handsOn again:Bool}{W W':World}{args:Array Value}{v:Value}{ds gs:List (DataW H)}{before pa pv:List MemPlace}
  (hW:DataW.Whole enc P f.params.toList s.vars apart W args.toList ds gs before)
  (kE:∀(b:Nat)(sp:Nat->Bool)(hd:Bool),DataW.TrodAll enc P W' b sp hd f.resultTypes.toList (v.resultList f.resultTypes.size) (s.fn H (ds++gs)).results [])
  (dh:∀sp:Nat->Bool,(∀p∈before,sp p.block=true)->DataW.TrodAll enc P W' 0 sp true f.params.toList args.toList (s.fn H (ds++gs)).args pa)
  (vp:∀sp:Nat->Bool,(∀p∈before,sp p.block=true)->DataW.TrodVars enc P W' sp s.vars (s.fn H (ds++gs)).vars pv)
  (gC:before=pa++pv)(hb:Below W.heap.size W W')
  (bH:∀(j:Nat)(t:TypeId)(r:Value),f.resultTypes[j]? = some t->(v.resultList f.resultTypes.size)[j]? = some r->Value.okWide P W' .any 0 t r) :
  s.post enc P f apart fresh handsOn again W args v W':=by
 have an:∀p∈before,p.block<W.heap.size:=λp hp=>hW.lt p hp;have hold:∀p∈before,(λb=>decide (b<W.heap.size)) p.block=true:=λp hp=>by simpa using an p hp
 refine⟨ds,gs,before,[],pa,pv,hW,kE _ _ _,dh _ hold,vp _ hold,World.keptBut_mono (λp hp=>⟨hp,?_⟩) (hb.frame (· ∈ before)),λ_=>?_⟩
 .rw[gC,jn]at hp;exact Or.inr hp
 .obtain⟨_,_,_,_,_,hz,hn⟩:=hW;refine⟨bH,_,_,([]++pa)++pv,⟨[]++pa,pv,trodAll_append (dh _ (λ_ _=>rfl)) (kE _ _ _),vp _ (λ_ _=>rfl),rfl,?_,?_⟩,?_⟩
  .intro b off hp;have mw:MemPlace.cell b off∈before:=by rw[gC];simpa using hp
   rw[hb.frozen (an _ mw)];exact hz b off mw
  .intro ha;have:=hn ha;rw[gC]at this;simpa using this
  .intro p hp _;rw[gC];simpa using hp
open Go.RowKit Go.WideShapes Go.ChangeShapes
def vq(P:Program)(f:TypeId->Ty->Bool):List Field->Nat->Ty->Bool
 |[],_,_=>false
 |[x],off,b=>decide (x.offset=off)&&decide (P.cellsOf x.type=b.size)&&f x.type b
 |x::y::r,off,.pair a b=>decide (x.offset=off)&&decide (P.cellsOf x.type=a.size)&&f x.type a&&vq P f (y::r) (off+a.size) b
 |_,_,_=>false
def nQ(P:Program):Nat->TypeId->Ty->Bool
 |0,_,_=>false
 |n+1,t,ty=>match P.underlying t with
  |some (.int k)=>decide (ty = .int k)
  |some .bool=>decide (ty = .bool)
  |some .string=>decide (ty = .str)
  |some (.slice e)=>match ty with
   |.list a=>nQ P n e a&&decide (P.cellsOf e=a.size)&&decide (0<a.size)
   |_=>false
  |some (.struct fs)=>decide (P.cellsOf t=ty.size)&&match fs.toList,ty with
   |[x],.wrap a=>vq P (nQ P n) [x] 0 a
   |x::y::r,.pair a b=>vq P (nQ P n) (x::y::r) 0 (.pair a b)
   |_,_=>false
  |_=>false
def Wf:(t:Ty)->t.den->Prop
 |.int k,n=>(Lit.int k n).wf=true
 |.bool,_=>True
 |.str,s=>s.size<=maxLen
 |.unit,_=>True
 |.wrap a,v=>Wf a v
 |.pair a b,v=>Wf a v.1/\Wf b v.2
 |.list a,xs=>List.length xs<=maxLen/\∀x∈(show List a.den from xs),Wf a x
 |.arr _ _,_=>True
theorem FU{α β:Type}{f:α->Option β}:∀{l:List α}{ys:List β},l.mapM f=some ys->ys.length=l.length/\∀(i:Nat)(x:α),l[i]? = some x->∃y,ys[i]? = some y/\f x=some y
 |[],ys,h=>by
  simp at h;subst h;exact⟨rfl,λi x hx=>by simp at hx⟩
 |a::l,ys,h=>by
  rw[z7]at h;cases ha:f a with
  |none=>simp[ha]at h
  |some y=>
   cases hl:l.mapM f with
   |none=>simp[ha,hl]at h
   |some zs=>
    simp[ha,hl]at h;subst h;obtain⟨h1,h2⟩:=FU hl;refine⟨by simp[h1],λi x hx=>?_⟩;cases i with
    |zero=>simp at hx;subst hx;exact⟨y,rfl,ha⟩
    |succ i=>simp at hx;obtain⟨z,hz,hf⟩:=h2 i x hx;exact⟨z,by simpa using hz,hf⟩
theorem Rl{α β:Type}{f:α->Option β}:∀{l:List α}{ys:List β},ys.length=l.length->(∀(i:Nat)(x:α),l[i]? = some x->f x=ys[i]?)->l.mapM f=some ys
 |[],ys,h,_=>by
  have:ys=[]:=jz (by simpa using h);subst this;rfl
 |a::l,[],h,_=>by simp at h
 |a::l,y::ys,h,hg=>by
  have h0:f a=some y:=by simpa using hg 0 a rfl
  rw[z7,h0,Rl (ys:=ys) (by simpa using h) (λi x hx=>by simpa using hg (i+1) x (by simpa using hx))];rfl
theorem FV{α β:Type}{f g:α->Option β}:∀{l:List α}{ys:List β},l.mapM f=some ys->(∀x∈l,∀y,y∈ys->f x=some y->g x=some y)->l.mapM g=some ys
 |[],ys,h,_=>by simpa using h
 |a::l,ys,h,hk=>by
  rw[z7]at h ⊢;cases ha:f a with
  |none=>simp[ha]at h
  |some y=>
   cases hl:l.mapM f with
   |none=>simp[ha,hl]at h
   |some zs=>simp[ha,hl]at h;subst h;rw[hk a (by simp) y (by simp) ha,FV hl (λx hx z hz hf=>hk x (by simp[hx]) z (by simp[hz]) hf)];rfl
theorem Rm{α:Type}{Q:Nat->α->Prop}:∀n,(∀i,i<n->∃x,Q i x)->∃xs:List α,xs.length=n/\∀i x,xs[i]? = some x->Q i x
 |0,_=>⟨[],rfl,λi x h=>by simp at h⟩
 |n+1,h=>by
  obtain⟨xs,hl,hx⟩:=Rm n (λi hi=>h i (by omega));obtain⟨x,hq⟩:=h n (by omega);refine⟨xs++[x],by simp[hl],λi y hy=>?_⟩;rcases qu i n with hi|hi
  .rw[List.getElem?_append_left (by omega)]at hy;exact hx i y hy
  .have:i=n:=by have:=(ju.1 hy).1;simp[hl]at this;omega
   subst this;rw[k7 (by omega),hl,Nat.sub_self]at hy;simp at hy;subst hy;exact hq
theorem Rn{α β:Type}{R:α->β->Prop}:∀{as:List α}{bs:List β},as.length=bs.length->(∀(i:Nat)(a:α)(b:β),as[i]? = some a->bs[i]? = some b->R a b)->All2 R as bs
 |[],[],_,_=>trivial
 |a::as,b::bs,hl,h=>⟨h 0 a b rfl rfl,Rn (by simpa using hl) λi x y hx hy=>h (i+1) x y (by simpa using hx) (by simpa using hy)⟩
 |[],_::_,hl,_=>by simp at hl
 |_::_,[],hl,_=>by simp at hl
theorem Ro{m:Nat}:∀{css:List (List Value)},(∀c∈css,c.length=m)->∀{j:Nat}{v:Value},css.flatten[j]? = some v->∃i r c,j=i*m+r/\r<m/\css[i]? = some c/\c[r]? = some v
 |[],_,j,v,h=>by simp at h
 |c::css,hl,j,v,h=>by
  simp only[ky]at h;have hc:=hl c (by simp);rcases qu j c.length with hj|hj
  .rw[List.getElem?_append_left hj]at h;exact⟨0,j,c,by omega,by omega,rfl,h⟩
  .rw[k7 hj]at h;obtain⟨i,r,c',e,hr,hi,hv⟩:=Ro (λx hx=>hl x (by simp[hx])) h;exact⟨i+1,r,c',by rw[Nat.add_mul];omega,hr,by simpa using hi,hv⟩
def Ext(W W':World):Prop:=∀(k:Nat) x,W.heap[k]? = some x->W'.heap[k]? = some x
theorem Ext.cell{W W':World}(h:Ext W W'){a:Addr}{v:Value}(hc:W.cell? a=some v):W'.cell? a=some v:=by
 unfold World.cell? at hc ⊢;split at hc
 .rename_i c _ _ hb;rw[h _ _ hb];exact hc
 .simp at hc
theorem Ext.cells{W W':World}(h:Ext W W'){a:Addr}{n:Nat}{cs:List Value}(hc:W.cells? 0 a n=some cs):W'.cells? 0 a n=some cs:=by
 unfold World.cells? at hc ⊢;simp only[kc,if_true]at hc ⊢;exact FV hc λi _ y _ hf=>h.cell hf
theorem J1{W:World}{a:Addr}{n:Nat}{cs:List Value}(hc:W.cells? 0 a n=some cs):cs.length=n/\∀i v,cs[i]? = some v->W.cell? (a.add i)=some v:=by
 unfold World.cells? at hc;simp only[kc,if_true]at hc;obtain⟨h1,h2⟩:=FU hc;simp only[List.length_range]at h1;refine⟨h1,λi v hv=>?_⟩;have hi:i<n:=by rw[<-h1];exact(ju.1 hv).1
 obtain⟨y,hy,hf⟩:=h2 i i (by simp[hi]);rw[hv]at hy;simp at hy;subst hy;exact hf
theorem Rp{W:World}{a:Addr}{v:Value}(h:W.cell? a=some v):a.block<W.heap.size/\a.spot=none:=by
 unfold World.cell? at h;split at h
 .rename_i c _ _ hb;refine⟨(jk.1 hb).1,?_⟩;split at h
  .simp at h
  .rename_i hs;simpa using hs
 .simp at h
def oldS(W:World):aD:=λg _=>g<W.heap.size
def Df{H:Type}(enc:TypeId×Value->H)(P:Program)(W:World)(held:Bool)(fuel:Nat)(t:TypeId)(ty:Ty)(cs:List Value)(d:DataW H)(ps:List MemPlace):Prop:=
 cs.length=ty.size/\(∃v:ty.den,Rep (oldS W) W ty v cs/\Wf ty v)/\
  ∀W' sp,Ext W W'->(∀q∈ps,sp q.block=true)->DataW.trod enc P W' 0 sp held fuel t cs=some (d,ps)
section
variable{H:Type}{enc:TypeId×Value->H}{P:Program}{W:World}{held:Bool}
theorem jv0{a:Addr}{n:Nat}(hn:0<n):∃q∈MemPlace.row a n,q.block=a.block:=
 ⟨.cell a.block (a.off+0),jt.2 ⟨0,by simp[hn],rfl⟩,rfl⟩
theorem jrf{n:Nat}{t e:TypeId}{el:Ty}(hu:P.underlying t=some (.slice e))(bX:P.cellsOf e=el.size)(bP:0<el.size){fuel:Nat}{cs:List Value}{d:DataW H}{ps:List MemPlace}
  (ih:∀(m:Nat)(cs:List Value)(d:DataW H)(ps:List MemPlace),DataW.trod enc P W 0 (λ_=>true) held m e cs=some (d,ps)->Df enc P W held m e el cs d ps)
  (h:DataW.trod enc P W 0 (λ_=>true) held fuel t cs=some (d,ps)):Df enc P W held fuel t (.list el) cs d ps:=by
 cases fuel with
 |zero=>simp[DataW.trod]at h
 |succ m=>
  have h':=h;unfold DataW.trod at h;rw[hu]at h;split at h;all_goals (try (rename_i heq _;simp at heq;done))
  all_goals (try (rename_i heq;simp at heq;done))
  .rename_i heq;refine⟨rfl,⟨[],⟨none,0,rfl,jj _,kc _,λ_=>rfl,λb hb=>by simp at hb⟩,⟨kc _,by simp⟩⟩,λW' sp _ _=>?_⟩;unfold DataW.trod;rw[hu];exact h
  .rename_i e' a len cap heq;simp only[j4,TypeDesc.slice.injEq]at heq;subst heq;simp only[kc,qh,if_true]at h;split at h
   .rename_i hc;cases gI:(List.range len).mapM (λi=>(W.cells? 0 (a.add (i*P.cellsOf e)) (P.cellsOf e)).bind (DataW.trod enc P W 0 (λ_=>true) held m e)) with
    |none=>rw[gI]at h;simp at h
    |some elems=>
     rw[gI]at h;simp only[j3]at h;cases FW:(List.range (cap-len)).mapM (λj=>(W.cells? 0 (a.add ((len+j)*P.cellsOf e)) (P.cellsOf e)).bind (DataW.trod enc P W 0 (λ_=>true) held m e)) with
     |none=>rw[FW]at h;simp at h
     |some rest=>
      rw[FW]at h;simp only[kv,j4,j8]at h;obtain⟨rfl,rfl⟩:=h;obtain⟨l1,g1⟩:=FU gI;obtain⟨l2,g2⟩:=FU FW;simp only[List.length_range]at l1 l2
      have one:∀i y,(W.cells? 0 (a.add (i*P.cellsOf e)) (P.cellsOf e)).bind (DataW.trod enc P W 0 (λ_=>true) held m e)=some y->∃c,W.cells? 0 (a.add (i*P.cellsOf e)) (P.cellsOf e)=some c/\Df enc P W held m e el c y.1 y.2:=by
       intro i y hy;cases hc:W.cells? 0 (a.add (i*P.cellsOf e)) (P.cellsOf e) with
       |none=>rw[hc]at hy;simp at hy
       |some c=>rw[hc]at hy;exact⟨c,rfl,ih m c y.1 y.2 hy⟩
      refine⟨rfl,?_,?_⟩
      .have each:∀i,i<len->∃x:el.den×List Value,W.cells? 0 (a.add (i*P.cellsOf e)) (P.cellsOf e)=some x.2/\Rep (oldS W) W el x.1 x.2/\Wf el x.1:=by intro i hi;obtain⟨y,hy,hf⟩:=g1 i i (by simp[hi]);obtain⟨c,gu,_,⟨v,hv,hw⟩,_⟩:=one i y hf;exact⟨(v,c),gu,hv,hw⟩
       obtain⟨xs,mQ,fS⟩:=Rm len each;have Dg:∀c∈xs.map (·.2),c.length=P.cellsOf e:=by intro c hc;obtain⟨x,hx,rfl⟩:=jt.1 hc;obtain⟨i,hi⟩:=z8.1 hx;exact(J1 (fS i x hi).1).1
       refine⟨xs.map (·.1),?_,?_⟩
       .refine⟨some a,cap,by simp[mQ],by simp[mQ,hc.1],hc.2,by simp,λb hb=>?_⟩;simp only[j4]at hb;subst hb;have vr:len≠0->a.spot=none:=by intro hl;obtain⟨x,hx⟩:∃x,xs[0]? = some x:=⟨xs[0],ji (by omega)⟩;obtain⟨k1,k2⟩:=J1 (fS 0 x hx).1;obtain⟨v,hv⟩:∃v,x.2[0]? = some v:=⟨x.2[0],ji (by omega)⟩;have:=(Rp (k2 0 v hv)).2;simpa[Addr.add]using this
        refine⟨λaZ=>vr (λh0=>aZ (by rw[List.map_eq_nil_iff];exact jz (by omega))),xs.map (·.2),Rn (by simp) (λi x c hx hc=>?_),λj v hv=>?_⟩
        .simp only[qm,Option.map_eq_some_iff]at hx hc;obtain⟨y,hy,rfl⟩:=hx;obtain⟨z,hz,rfl⟩:=hc;rw[hy]at hz;simp at hz;subst hz;exact(fS i y hy).2.1
        .obtain⟨i,r,c,hj,hr,l5,pJ⟩:=Ro Dg hv;simp only[qm,Option.map_eq_some_iff]at l5;obtain⟨x,hx,rfl⟩:=l5;have cS:=(J1 (fS i x hx).1).2 r v pJ;have lj:i<len:=by rw[<-mQ];exact(ju.1 hx).1
         have hs:=vr (by omega);have wE:(a.add (i*P.cellsOf e)).add r=⟨a.block,a.off+j,none⟩:=by obtain⟨g,o,s⟩:=a;simp only at hs;subst hs;simp only[Addr.add];split<;>split<;>simp<;>omega
         rw[wE]at cS;exact⟨(Rp cS).1,cS⟩
       .refine⟨by simp only[kn,mQ];omega,λx hx=>?_⟩;obtain⟨y,hy,rfl⟩:=jt.1 hx;obtain⟨i,hi⟩:=z8.1 hy;exact(fS i y hi).2.2
      .intro W' sp hE cC
       have keep:∀i y,y∈elems++rest->(W.cells? 0 (a.add (i*P.cellsOf e)) (P.cellsOf e)).bind (DataW.trod enc P W 0 (λ_=>true) held m e)=some y->
         (W'.cells? 0 (a.add (i*P.cellsOf e)) (P.cellsOf e)).bind (DataW.trod enc P W' 0 sp held m e)=some y:=by
        intro i y hy hf;obtain⟨c,gu,_,_,hk⟩:=one i y hf;rw[hE.cells gu];exact hk W' sp hE (λq hq=>cC q (kq _ (zi.2 ⟨y,hy,hq⟩)))
       unfold DataW.trod;rw[hu];simp only[kc,qh];rw[if_pos hc,FV gI (λi _ y hy hf=>keep i y (ka _ hy) hf)];simp only[j3]
       have cK:(if sp a.block=true then (List.range (cap-len)).mapM (λj=>(W'.cells? 0 (a.add ((len+j)*P.cellsOf e)) (P.cellsOf e)).bind (DataW.trod enc P W' 0 sp held m e)) else some [])=some rest:=by
        split
        .exact FV FW (λj _ y hy hf=>keep (len+j) y (kq _ hy) hf)
        .rename_i hsf;rcases Nat.eq_zero_or_pos ((elems.length+rest.length)*P.cellsOf e) with h0|h0
         .have:rest=[]:=by
           rcases Nat.mul_eq_zero.1 h0 with h|h
           .exact jz (by omega)
           .omega
          rw[this]
         .obtain⟨q,hq,hb⟩:=jv0 (a:=a) h0;have:=cC q (ka _ hq);rw[hb]at this;exact absurd this hsf
       rw[cK];rfl
   .simp at h
  .simp at h
theorem Dh{n m:Nat}(ih:∀(t:TypeId)(ty:Ty),nQ P n t ty=true->∀(cs:List Value)(d:DataW H)(ps:List MemPlace),DataW.trod enc P W 0 (λ_=>true) held m t cs=some (d,ps)->Df enc P W held m t ty cs d ps)(cs:List Value) :
  ∀(fs:List Field)(off:Nat)(ty:Ty)(xs:List (DataW H×List MemPlace)),vq P (nQ P n) fs off ty=true->cs.length=off+ty.size->
   fs.mapM (λf=>DataW.trod enc P W 0 (λ_=>true) held m f.type ((cs.drop f.offset).take (P.cellsOf f.type)))=some xs->
   (∃v:ty.den,Rep (oldS W) W ty v (cs.drop off)/\Wf ty v)/\
    ∀W' sp,Ext W W'->(∀q∈xs.flatMap (·.2),sp q.block=true)->fs.mapM (λf=>DataW.trod enc P W' 0 sp held m f.type ((cs.drop f.offset).take (P.cellsOf f.type)))=some xs
 |[],_,_,_,hc,_,_=>by simp[vq]at hc
 |[f],off,ty,xs,hc,hl,hm=>by
  simp only[vq,jb,jo]at hc;obtain⟨⟨ho,hz⟩,hc⟩:=hc;rw[z7]at hm;cases hf:DataW.trod enc P W 0 (λ_=>true) held m f.type ((cs.drop f.offset).take (P.cellsOf f.type)) with
  |none=>simp[hf]at hm
  |some y=>simp[hf]at hm;subst hm;obtain⟨_,hv,hk⟩:=ih f.type ty hc _ y.1 y.2 hf;rw[ho,hz,List.take_of_length_le (by simp;omega)]at hv;refine⟨hv,λW' sp hE cC=>?_⟩;rw[z7,hk W' sp hE (λq hq=>cC q (by simpa using hq))];rfl
 |f::g::r,off,ty,xs,hc,hl,hm=>by
  cases ty with
  |pair a b=>
   simp only[vq,jb,jo]at hc;obtain⟨⟨⟨ho,hz⟩,hc⟩,hr⟩:=hc;rw[z7]at hm;cases hf:DataW.trod enc P W 0 (λ_=>true) held m f.type ((cs.drop f.offset).take (P.cellsOf f.type)) with
   |none=>simp[hf]at hm
   |some y=>
    cases cK:(g::r).mapM (λf=>DataW.trod enc P W 0 (λ_=>true) held m f.type ((cs.drop f.offset).take (P.cellsOf f.type))) with
    |none=>rw[hf,cK]at hm;simp at hm
    |some ys=>
     rw[hf,cK]at hm;simp at hm;subst hm;have jX:cs.length=off+(a.size+b.size):=hl;obtain⟨lx,⟨v,hv,hw⟩,hk⟩:=ih f.type a hc _ y.1 y.2 hf;obtain⟨⟨v2,IQ,Rq⟩,gl⟩:=Dh ih cs (g::r) (off+a.size) b ys hr (by omega) cK;rw[ho,hz]at hv;refine⟨⟨(v,v2),⟨(cs.drop off).take a.size,cs.drop (off+a.size),?_,hv,IQ⟩,hw,Rq⟩,λW' sp hE cC=>?_⟩
     .rw[<-List.drop_drop,ki]
     .rw[z7,hk W' sp hE (λq hq=>cC q (by simp[hq])),gl W' sp hE (λq hq=>cC q (by simp at hq ⊢;exact .inr hq))];rfl
  |_=>simp[vq]at hc
theorem Rr:∀(n:Nat)(t:TypeId)(ty:Ty),nQ P n t ty=true->∀(fuel:Nat)(cs:List Value)(d:DataW H)(ps:List MemPlace),DataW.trod enc P W 0 (λ_=>true) held fuel t cs=some (d,ps)->
  Df enc P W held fuel t ty cs d ps
 |0,_,_,hc,_,_,_,_,_=>by simp[nQ]at hc
 |n+1,t,ty,hc,fuel,cs,d,ps,h=>by
  have ih:=Rr n;cases fuel with
  |zero=>simp[DataW.trod]at h
  |succ m=>
  have mL:=hc;unfold nQ at hc;split at hc
  .rename_i k hu;have:=kz hc;subst this;obtain⟨z,rfl,hx,hw⟩:=DataW.trod_int hu h;refine⟨rfl,⟨z,rfl,hw⟩,λW' sp _ _=>?_⟩;simp only[j8]at hx;rw[hx.1,hx.2];exact trod_int_mk m hu hw
  .rename_i hu;have:=kz hc;subst this;obtain⟨z,rfl,hx⟩:=DataW.trod_bool hu h;refine⟨rfl,⟨z,rfl,trivial⟩,λW' sp _ _=>?_⟩;unfold DataW.trod at h ⊢;rw[hu]at h ⊢;exact h
  .rename_i hu;have:=kz hc;subst this;obtain⟨z,rfl,hx,hw⟩:=DataW.trod_string hu h;refine⟨rfl,⟨z,rfl,hw⟩,λW' sp _ _=>?_⟩;unfold DataW.trod at h ⊢;rw[hu]at h ⊢;exact h
  .rename_i e hu;split at hc
   .rename_i a;simp only[jb,jo]at hc;exact jrf (n:=n) hu hc.1.2 hc.2 (λm cs d ps h=>ih e a hc.1.1 m cs d ps h) h
   .simp at hc
  .rename_i fs hu;simp only[jb,jo]at hc;obtain⟨bX,hc⟩:=hc
   have J2:cs.length=P.cellsOf t/\∃xs,fs.toList.mapM (λf=>DataW.trod enc P W 0 (λ_=>true) held m f.type ((cs.drop f.offset).take (P.cellsOf f.type)))=some xs/\d = .agg (xs.map (·.1))/\ps=xs.flatMap (·.2):=by
    obtain⟨xs,m',e1,e2,e3,e4,e5⟩:=DataW.trod_struct hu h;have:m'=m:=by omega
    subst this;simp only[j8]at e2;exact⟨e3,xs,Rl (by simpa using e4) (λi x hx=>e5 i x (by simpa using hx)),e2.1,e2.2⟩
   obtain⟨hl,xs,hm,rfl,rfl⟩:=J2
   have mk:∀W' sp,fs.toList.mapM (λf=>DataW.trod enc P W' 0 sp held m f.type ((cs.drop f.offset).take (P.cellsOf f.type)))=some xs->
     DataW.trod enc P W' 0 sp held (m+1) t cs=some (.agg (xs.map (·.1)),xs.flatMap (·.2)):=by
    intro W' sp iF
    exact trod_struct_mk hu hl (by
     first
     |exact iF
     |(intros;exact iF))
   refine⟨by omega,?_,λW' sp hE cC=>?_⟩;all_goals split at hc
   .rename_i x a tp;rw[tp]at hm;obtain⟨⟨v,hv,hw⟩,_⟩:=Dh (λt ty hc cs d ps h=>ih t ty hc m cs d ps h) cs [x] 0 a xs hc (by rw[hl,bX];simp[Ty.size]) hm;exact⟨v,by simpa[Rep]using hv,hw⟩
   .rename_i x y r a b tp;rw[tp]at hm;obtain⟨⟨v,hv,hw⟩,_⟩:=Dh (λt ty hc cs d ps h=>ih t ty hc m cs d ps h) cs (x::y::r) 0 (.pair a b) xs hc (by omega) hm;exact⟨v,by simpa using hv,hw⟩
   .simp at hc
   .rename_i x a tp;rw[tp]at hm;obtain⟨_,hk⟩:=Dh (λt ty hc cs d ps h=>ih t ty hc m cs d ps h) cs [x] 0 a xs hc (by rw[hl,bX];simp[Ty.size]) hm;exact mk W' sp (by rw[tp];exact hk W' sp hE cC)
   .rename_i x y r a b tp;rw[tp]at hm;obtain⟨_,hk⟩:=Dh (λt ty hc cs d ps h=>ih t ty hc m cs d ps h) cs (x::y::r) 0 (.pair a b) xs hc (by omega) hm;exact mk W' sp (by rw[tp];exact hk W' sp hE cC)
   .simp at hc
  .simp at hc
end
theorem FX{P:Program}{W:World}{r:Reach}{base:Nat}{t:TypeId}{v:Value}{d:TypeDesc}(hu:P.underlying t=some d)(hd:(∃k,d = .int k)\/d = .bool\/d = .string\/∃e,d = .slice e)(h:Value.okWide P W r base t v):One v:=by
 have hc:Cell.ok P W r base t v:=by unfold Value.okWide at h;rw[hu]at h;rcases hd with⟨k,rfl⟩|rfl|rfl|⟨e,rfl⟩<;>(dsimp only at h;unfold Cell.okWide at h;rw[hu]at h;exact h)
 unfold Cell.ok at hc;rw[hu]at hc;rcases hd with⟨k,rfl⟩|rfl|rfl|⟨e,rfl⟩<;>cases v<;>first|rfl|(exact absurd hc (by simp))
theorem Rs{H:Type}{enc:TypeId×Value->H}{P:Program}{W:World}{n:Nat}{t:TypeId}{ty:Ty}(eZ:nQ P n t ty=true){r:Reach}{base:Nat}{v:Value}(bH:Value.okWide P W r base t v){d:DataW H}{p:List MemPlace}
  (h:DataW.Trod enc P W 0 (λ_=>true) true t v d p) :
  ∃x:ty.den,mR (oldS W) W (.v ⟨ty,x⟩) v/\Wf ty x/\∀W' sp,Below W.heap.size W W'->(∀q∈p,sp q.block=true)->DataW.Trod enc P W' 0 sp true t v d p:=by
 obtain⟨fuel,h⟩:=h;obtain⟨_,⟨x,hx,hw⟩,hk⟩:=Rr n t ty eZ fuel _ d p h;refine⟨x,⟨hx,λhm=>?_,λhm=>?_⟩,hw,λW' sp hb cC=>⟨fuel,hk W' sp (λk y hy=>by rw[hb.block k (jk.1 hy).1];exact hy) cC⟩⟩
 .cases n with
  |zero=>simp[nQ]at eZ
  |succ n=>
   unfold nQ at eZ;split at eZ
   .have:=kz eZ;subst this;simp[gG,Ty.agg]at hm
   .have:=kz eZ;subst this;simp[gG,Ty.agg]at hm
   .have:=kz eZ;subst this;simp[gG,Ty.agg]at hm
   .split at eZ
    .simp[gG,Ty.agg]at hm
    .simp at eZ
   .rename_i hu;unfold Value.okWide at bH;rw[hu]at bH;obtain⟨cs,dB,_⟩:=bH;exact⟨cs,dB⟩
   .simp at eZ
 .cases n with
  |zero=>simp[nQ]at eZ
  |succ n=>
   unfold nQ at eZ;split at eZ
   .rename_i k hu;exact FX hu (.inl ⟨k,rfl⟩) bH
   .rename_i hu;exact FX hu (.inr (.inl rfl)) bH
   .rename_i hu;exact FX hu (.inr (.inr (.inl rfl))) bH
   .rename_i e hu;exact FX hu (.inr (.inr (.inr ⟨e,rfl⟩))) bH
   .rename_i hu;simp only[jb]at eZ;have h2:=eZ.2;split at h2
    .simp[gG,Ty.agg]at hm
    .simp[gG,Ty.agg]at hm
    .simp at h2
   .simp at eZ
def OLe{α:Type}(a b:Option α):Prop:=∀r,a=some r->b=some r
theorem OLe.refl{α:Type}(a:Option α):OLe a a:=λ_ h=>h
theorem OLe.none{α:Type}(a:Option α):OLe none a:=λ_ h=>by simp at h
theorem OLe.bind{α β:Type}{a b:Option α}{f g:α->Option β}(h:OLe a b)(h':∀x,OLe (f x) (g x)):OLe (a.bind f) (b.bind g):=by
 intro r hr;cases a with
 |none=>simp at hr
 |some x=>rw[h x rfl];exact h' x r hr
theorem OLe.cond{α:Type}{c:Bool}{a b a' b':Option α}(h:OLe a a')(h':OLe b b'):OLe (cond c a b) (cond c a' b'):=by
 cases c with
 |true=>exact h
 |false=>exact h'
theorem OLe.sumC{α β γ:Type}{x:α ⊕ β}{f f':α->Option γ}{g g':β->Option γ}(h:∀x,OLe (f x) (f' x))(h':∀x,OLe (g x) (g' x)):OLe (sumC x f g) (Lft.sumC x f' g'):=by
 cases x with
 |inl a=>exact h a
 |inr b=>exact h' b
theorem OLe.loopN{α β:Type}{f g:α->Option (α ⊕ β)}(h:∀s,OLe (f s) (g s)):∀(n:Nat)(s:α),OLe (Lft.loopN f n s) (Lft.loopN g n s)
 |0,_=> .none _
 |n+1,s=>by
  intro r hr;simp only[Lft.loopN]at hr ⊢;cases hf:f s with
  |none=>simp[hf]at hr
  |some x=>
   rw[h s x hf];cases x with
   |inl a=>simp only[hf]at hr;exact OLe.loopN h n a r hr
   |inr b=>simpa[hf]using hr
theorem OLe.loop{α β:Type}{f g:α->Option (α ⊕ β)}(n:Nat)(s:α)(h:∀s,OLe (f s) (g s)):OLe (Lft.loopN f n s) (loopOpt g s):=
 λr hr=>C5 (OLe.loopN h n s r hr)
theorem OLe.loopOpt{α β:Type}{f g:α->Option (α ⊕ β)}(s:α)(h:∀s,OLe (f s) (g s)):OLe (Lft.loopOpt f s) (Lft.loopOpt g s):=by
 intro r hr;obtain⟨n,hn⟩:=C6 hr;exact C5 (OLe.loopN h n s r hn)
theorem Ru{α β:Type}{B B':(α->Option β)->α->Option β}(h:∀g g',(∀a,OLe (g a) (g' a))->∀a,OLe (B g a) (B' g' a)):∀n a,OLe (kG B n a) (kG B' n a)
 |0,_=> .none _
 |n+1,a=>h _ _ (Ru h n) a
theorem J3{α β:Type}{B:(α->Option β)->α->Option β}(h:∀g g',(∀a,OLe (g a) (g' a))->∀a,OLe (B g a) (B g' a)):∀(k n:Nat)(a:α),OLe (kG B n a) (kG B (n+k) a)
 |k,0,a=> .none _
 |k,n+1,a=>by
  rw[show n+1+k=(n+k)+1 by omega];exact h _ _ (J3 h k n) a
theorem OLe.rec{α β:Type}{B B':(α->Option β)->α->Option β}(n:Nat)(a:α)(h:∀g g',(∀a,OLe (g a) (g' a))->∀a,OLe (B g a) (B' g' a))(h':∀g g',(∀a,OLe (g a) (g' a))->∀a,OLe (B' g a) (B' g' a)) :
  OLe (kG B n a) (u7 B' a):=by
 intro r hr;have h1:=Ru h n a r hr;refine Rb ⟨n,h1⟩ λm y hy=>?_;have e1:=J3 h' m n a r h1;have e2:=J3 h' n m a y hy;rw[Nat.add_comm m n]at e2;rw[e1]at e2;simpa using e2.symm
theorem oR{α:Type}(a:Option α):OLe a a:=OLe.refl a
theorem oN{α:Type}(a:Option α):OLe none a:=OLe.none a
theorem oB{α β:Type}{a b:Option α}{f g:α->Option β}(h:OLe a b)(h':∀x,OLe (f x) (g x)):OLe (a.bind f) (b.bind g):=OLe.bind h h'
theorem oC{α:Type}{c:Bool}{a b a' b':Option α}(h:OLe a a')(h':OLe b b'):OLe (cond c a b) (cond c a' b'):=OLe.cond h h'
theorem oS{α β γ:Type}{x:α ⊕ β}{f f':α->Option γ}{g g':β->Option γ}(h:∀x,OLe (f x) (f' x))(h':∀x,OLe (g x) (g' x)):OLe (sumC x f g) (Lft.sumC x f' g'):=OLe.sumC h h'
end Go.Lft
