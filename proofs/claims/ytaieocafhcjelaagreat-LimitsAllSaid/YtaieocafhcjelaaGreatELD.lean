/- Jv of arguments and Ak: what is known of them but the data. Rj. -/
import Derived.Test.YtaieocafhcjelaaGreatELC
import Derived.KernelRfl
import Derived.IntWalk
import Derived.Below
import Derived.ChangeSame
noncomputable section
set_option linter.unusedVariables false
namespace Go.Lft
inductive CPat where
 |v (t:Ty)
 |p (ts:List Ty)
 deriving DecidableEq
inductive LPat where
 |dead|nil
 |d (t:Ty)
 |ol (k:Nat)
 |bp (k c:Nat)
 |ep (k i c:Nat)
 |tl (k:Nat)
 |hd (k:Nat)
 |ip (ts:List Ty)
 |clo (f:Nat) (caps:List CPat)
 |clr (f:Nat) (ks:List Nat)
 deriving DecidableEq
inductive KPat where
 |one (l:LPat)
 |st (ls:List LPat)
 |av (n:Nat) (a:Ty)
 deriving DecidableEq
inductive BPat where
 |free|gone
 |cell (ls:List LPat) (frz:Bool)
 |lst (e:Nat) (a:Ty) (frz:Bool)
 |arr (n:Nat) (a:Ty)
 deriving DecidableEq
inductive IPat where
 |s (c:KPat)
 |b (x:BPat)
 deriving DecidableEq
abbrev iT:Ty:= .int .i64
abbrev sI:IPat:= .s (.one (.d iT))
inductive APat where
 |v (t:Ty)
 |ref (ts:List Ty)
 |rl (e:Nat) (t:Ty)
 |ip (ts:List Ty)
 |clo (f:Nat) (caps:List CPat)
 deriving DecidableEq
@[reducible] def HL:List Ty->Type
 |[]=>Unit
 |[t]=>t.den
 |t::t'::ts=>t.den×HL (t'::ts)
def ofHL:(ts:List Ty)->HL ts->List TV
 |[],_=>[]
 |[t],h=>[⟨t,h⟩]
 |t::t'::ts,h=>⟨t,h.1⟩::ofHL (t'::ts) h.2
def toHL:(ts:List Ty)->List TV->Option (HL ts)
 |[],[]=>some ()
 |[t],[x]=>x.to t
 |t::t'::ts,x::xs=>match x.to t with
  |some v=>match toHL (t'::ts) xs with
   |some r=>some (v,r)
   |none=>none
  |none=>none
 |_,_=>none
theorem FT:∀{ts:List Ty}{xs:List TV}{h:HL ts},toHL ts xs=some h->xs=ofHL ts h
 |[],[],_,_=>rfl
 |[],_::_,_,h=>by simp[toHL]at h
 |[_],[],_,h=>by simp[toHL]at h
 |[t],[x],hl,h=>by
  simp only[toHL]at h;rw[lZ h];rfl
 |[t],x::y::xs,hl,h=>by simp[toHL]at h
 |_::_::_,[],_,h=>by simp[toHL]at h
 |t::t'::ts,x::xs,hl,h=>by
  simp only[toHL]at h;split at h
  .rename_i v hv;split at h
   .rename_i r hr;simp only[j4]at h;subst h;rw[lZ hv,FT hr];rfl
   .simp at h
  .simp at h
def capP:Cap->CPat×List TV
 |.v x=>(.v x.t,[x])
 |.p ls=>(.p (ls.map (·.t)),ls)
def ng:List Cap->List CPat×List TV
 |[]=>([],[])
 |c::cs=>((capP c).1::(ng cs).1,(capP c).2++(ng cs).2)
def tv0:TV:=⟨.unit,()⟩
def capF:CPat->List TV->Cap
 |.v _,xs=> .v (xs.headD tv0)
 |.p ts,xs=> .p (xs.take ts.length)
def CPat.n:CPat->Nat
 |.v _=>1
 |.p ts=>ts.length
def Al:List CPat->List TV->List Cap
 |[],_=>[]
 |c::cs,xs=>capF c xs::Al cs (xs.drop c.n)
def Am:List CPat->Nat
 |[]=>0
 |c::cs=>c.n+Am cs
theorem jzY(c:Cap)(r:List TV):capF (capP c).1 ((capP c).2++r)=c/\(capP c).1.n=(capP c).2.length:=by
 cases c with
 |v x=>exact⟨rfl,rfl⟩
 |p ls=>simp[capP,capF,CPat.n]
theorem FU:∀(cs:List Cap)(r:List TV),Al (ng cs).1 ((ng cs).2++r)=cs/\Am (ng cs).1=(ng cs).2.length
 |[],r=>⟨rfl,rfl⟩
 |c::cs,r=>by
  simp only[ng,Al,Am,jd,ja];have h1:=jzY c ((ng cs).2++r);have h2:=FU cs r;rw[h1.1,h1.2,v8,h2.1,h2.2];exact⟨rfl,rfl⟩
def rS:Leaf->LPat×List TV
 |.dead=>(.dead,[])
 |.nil=>(.nil,[])
 |.d t v=>(.d t,[⟨t,v⟩])
 |.ol k=>(.ol k,[])
 |.bp k c=>(.bp k c,[])
 |.ep k i c=>(.ep k i c,[])
 |.tl k i=>(.tl k,[⟨.int .i64,(i:Int)⟩])
 |.hd k i=>(.hd k,[⟨.int .i64,(i:Int)⟩])
 |.ip ls=>(.ip (ls.map (·.t)),ls)
 |.clo f caps=>(.clo f (ng caps).1,(ng caps).2)
 |.clr f ks=>(.clr f ks,[])
def Jw:TV->Nat
 |⟨.int _,v⟩=>Int.toNat v
 |_=>0
def LPat.n:LPat->Nat
 |.d _=>1
 |.tl _=>1
 |.hd _=>1
 |.ip ts=>ts.length
 |.clo _ cs=>Am cs
 |_=>0
def C7:LPat->List TV->Leaf
 |.dead,_=> .dead
 |.nil,_=> .nil
 |.d _,xs=> .d (xs.headD tv0).t (xs.headD tv0).v
 |.ol k,_=> .ol k
 |.bp k c,_=> .bp k c
 |.ep k i c,_=> .ep k i c
 |.tl k,xs=> .tl k (Jw (xs.headD tv0))
 |.hd k,xs=> .hd k (Jw (xs.headD tv0))
 |.ip ts,xs=> .ip (xs.take ts.length)
 |.clo f cs,xs=> .clo f (Al cs xs)
 |.clr f ks,_=> .clr f ks
theorem Rl(l:Leaf)(r:List TV):C7 (rS l).1 ((rS l).2++r)=l/\(rS l).1.n=(rS l).2.length:=by
 cases l with
 |ip ls=>simp[rS,C7,LPat.n]
 |clo f cs=>have:=FU cs r;simp only[rS,C7,LPat.n];exact⟨by rw[this.1],this.2⟩
 |_=>exact⟨rfl,rfl⟩
def o4:List Leaf->List LPat×List TV
 |[]=>([],[])
 |c::cs=>((rS c).1::(o4 cs).1,(rS c).2++(o4 cs).2)
def C8:List LPat->List TV->List Leaf
 |[],_=>[]
 |c::cs,xs=>C7 c xs::C8 cs (xs.drop c.n)
def C9:List LPat->Nat
 |[]=>0
 |c::cs=>c.n+C9 cs
theorem Jy:∀(cs:List Leaf)(r:List TV),C8 (o4 cs).1 ((o4 cs).2++r)=cs/\C9 (o4 cs).1=(o4 cs).2.length
 |[],r=>⟨rfl,rfl⟩
 |c::cs,r=>by
  simp only[o4,C8,C9,jd,ja];have h1:=Rl c ((o4 cs).2++r);have h2:=Jy cs r;rw[h1.1,h1.2,v8,h2.1,h2.2];exact⟨rfl,rfl⟩
def celP:Cel->KPat×List TV
 |.one l=>(.one (rS l).1,(rS l).2)
 |.st ls=>(.st (o4 ls).1,(o4 ls).2)
 |.av n a xs=>(.av n a,[⟨.list a,xs⟩])
def Da(a:Ty)(xs:List TV):List a.den:=((xs.headD tv0).to (.list a)).getD []
theorem Jz(a:Ty)(xs:List a.den)(r:List TV):Da a (⟨.list a,xs⟩::r)=xs:=by
 simp[Da,TV.to]
def KPat.n:KPat->Nat
 |.one l=>l.n
 |.st ls=>C9 ls
 |.av _ _=>1
def celF:KPat->List TV->Cel
 |.one l,xs=> .one (C7 l xs)
 |.st ls,xs=> .st (C8 ls xs)
 |.av n a,xs=> .av n a (Da a xs)
theorem jzZ(c:Cel)(r:List TV):celF (celP c).1 ((celP c).2++r)=c/\(celP c).1.n=(celP c).2.length:=by
 cases c with
 |one l=>have:=Rl l r;exact⟨by simp only[celP,celF];rw[this.1],this.2⟩
 |st ls=>have:=Jy ls r;exact⟨by simp only[celP,celF];rw[this.1],this.2⟩
 |av n a xs=>exact⟨by simp only[celP,celF,qd,jl];rw[Jz],rfl⟩
def bsP:BS->BPat×List TV
 |.free=>(.free,[])
 |.gone=>(.gone,[])
 |.live (.cell ls f)=>(.cell (o4 ls).1 f,(o4 ls).2)
 |.live (.lst e a xs f)=>(.lst e a f,[⟨.list a,xs⟩])
 |.live (.arr n a xs)=>(.arr n a,[⟨.list a,xs⟩])
def BPat.n:BPat->Nat
 |.free|.gone=>0
 |.cell ls _=>C9 ls
 |.lst _ _ _=>1
 |.arr _ _=>1
def bsF:BPat->List TV->BS
 |.free,_=> .free
 |.gone,_=> .gone
 |.cell ls f,xs=> .live (.cell (C8 ls xs) f)
 |.lst e a f,xs=> .live (.lst e a (Da a xs) f)
 |.arr n a,xs=> .live (.arr n a (Da a xs))
theorem jBi(c:BS)(r:List TV):bsF (bsP c).1 ((bsP c).2++r)=c/\(bsP c).1.n=(bsP c).2.length:=by
 cases c with
 |free=>exact⟨rfl,rfl⟩
 |gone=>exact⟨rfl,rfl⟩
 |live b=>
  cases b with
  |cell ls f=>have:=Jy ls r;exact⟨by simp only[bsP,bsF];rw[this.1],this.2⟩
  |lst e a xs f=>exact⟨by simp only[bsP,bsF,qd,jl];rw[Jz],rfl⟩
  |arr n a xs=>exact⟨by simp only[bsP,bsF,qd,jl];rw[Jz],rfl⟩
def itP:Item->IPat×List TV
 |.s c=>(.s (celP c).1,(celP c).2)
 |.b x=>(.b (bsP x).1,(bsP x).2)
def IPat.n:IPat->Nat
 |.s c=>c.n
 |.b x=>x.n
def itF:IPat->List TV->Item
 |.s c,xs=> .s (celF c xs)
 |.b x,xs=> .b (bsF x xs)
theorem jBj(c:Item)(r:List TV):itF (itP c).1 ((itP c).2++r)=c/\(itP c).1.n=(itP c).2.length:=by
 cases c with
 |s c=>have:=jzZ c r;exact⟨by simp only[itP,itF];rw[this.1],this.2⟩
 |b x=>have:=jBi x r;exact⟨by simp only[itP,itF];rw[this.1],this.2⟩
def tg:Snap->List IPat×List TV
 |[]=>([],[])
 |c::cs=>((itP c).1::(tg cs).1,(itP c).2++(tg cs).2)
def FV:List IPat->List TV->Snap
 |[],_=>[]
 |c::cs,xs=>itF c xs::FV cs (xs.drop c.n)
theorem Rm:∀(cs:Snap),FV (tg cs).1 (tg cs).2=cs
 |[]=>rfl
 |c::cs=>by
  simp only[tg,FV];have h1:=jBj c (tg cs).2;rw[h1.1,h1.2,v8,Rm cs]
def pack(ps:List IPat)(ts:List Ty)(h:HL ts):Snap:=FV ps (ofHL ts h)
def th(ps:List IPat)(ts:List Ty)(s:Snap):Option (HL ts):=
 if (tg s).1=ps then toHL ts (tg s).2 else none
theorem Db{ps:List IPat}{ts:List Ty}{s:Snap}{h:HL ts}(hs:th ps ts s=some h):s=pack ps ts h:=by
 unfold th at hs;split at hs
 .rename_i hp;have:=FT hs;rw[pack,<-this,<-hp,Rm]
 .simp at hs
def argP:Arg->APat×List TV
 |.v x=>(.v x.t,[x])
 |.ref ls=>(.ref (ls.map (·.t)),ls)
 |.rl e x=>(.rl e x.t,[x])
 |.ip ls=>(.ip (ls.map (·.t)),ls)
 |.clo f cs=>(.clo f (ng cs).1,(ng cs).2)
def APat.n:APat->Nat
 |.v _=>1
 |.ref ts=>ts.length
 |.rl _ _=>1
 |.ip ts=>ts.length
 |.clo _ cs=>Am cs
def argF:APat->List TV->Arg
 |.v _,xs=> .v (xs.headD tv0)
 |.ref ts,xs=> .ref (xs.take ts.length)
 |.rl e _,xs=> .rl e (xs.headD tv0)
 |.ip ts,xs=> .ip (xs.take ts.length)
 |.clo f cs,xs=> .clo f (Al cs xs)
theorem jA0(c:Arg)(r:List TV):argF (argP c).1 ((argP c).2++r)=c/\(argP c).1.n=(argP c).2.length:=by
 cases c with
 |v x=>exact⟨rfl,rfl⟩
 |rl e x=>exact⟨rfl,rfl⟩
 |ref ls=>simp[argP,argF,APat.n]
 |ip ls=>simp[argP,argF,APat.n]
 |clo f cs=>have:=FU cs r;exact⟨by simp only[argP,argF];rw[this.1],this.2⟩
def tj:List Arg->List APat×List TV
 |[]=>([],[])
 |c::cs=>((argP c).1::(tj cs).1,(argP c).2++(tj cs).2)
def An:List APat->List TV->List Arg
 |[],_=>[]
 |c::cs,xs=>argF c xs::An cs (xs.drop c.n)
theorem Rn:∀(cs:List Arg),An (tj cs).1 (tj cs).2=cs
 |[]=>rfl
 |c::cs=>by
  simp only[tj,An];have h1:=jA0 c (tj cs).2;rw[h1.1,h1.2,v8,Rn cs]
def o5(ps:List APat)(ts:List Ty)(h:HL ts):List Arg:=An ps (ofHL ts h)
def FW(ps:List APat)(ts:List Ty)(s:List Arg):Option (HL ts):=
 if (tj s).1=ps then toHL ts (tj s).2 else none
theorem FX{ps:List APat}{ts:List Ty}{s:List Arg}{h:HL ts}(hs:FW ps ts s=some h):s=o5 ps ts h:=by
 unfold FW at hs;split at hs
 .rename_i hp;have:=FT hs;rw[o5,<-this,<-hp,Rn]
 .simp at hs
theorem Ro{α β:Type}{f:α->Option (α ⊕ β)}:∀{n m:Nat}{s:α}{x y:β},loopN f n s=some x->loopN f m s=some y->x=y
 |0,_,_,_,_,h,_=>by simp[loopN]at h
 |_+1,0,_,_,_,_,h=>by simp[loopN]at h
 |n+1,m+1,s,x,y,h,h'=>by
  simp only[loopN]at h h';cases hf:f s with
  |none=>simp[hf]at h
  |some r=>
   cases r with
   |inl s'=>simp only[hf]at h h';exact Ro h h'
   |inr z=>simp only[hf,j4]at h h';rw[<-h,<-h']
open Classical in
def loopOpt{α β:Type}(f:α->Option (α ⊕ β))(s:α):Option β:=
 if h:∃x n,loopN f n s=some x then some h.choose else none
theorem Dc{α β:Type}{f:α->Option (α ⊕ β)}{s:α}{n:Nat}{x:β}(h:loopN f n s=some x):loopOpt f s=some x:=by
 unfold loopOpt;have hx:∃x n,loopN f n s=some x:=⟨x,n,h⟩;rw[dif_pos hx];obtain⟨m,hm⟩:=hx.choose_spec;rw[Ro hm h]
theorem Dd{α β:Type}{f:α->Option (α ⊕ β)}{s:α}{x:β}(h:loopOpt f s=some x):∃n,loopN f n s=some x:=by
 unfold loopOpt at h;split at h
 .rename_i hx;simp only[j4]at h;obtain⟨m,hm⟩:=hx.choose_spec;exact⟨m,by rw[<-h];exact hm⟩
 .simp at h
theorem jq3{α β:Type}{f:α->Option (α ⊕ β)}{s s':α}(h:f s=some (.inl s')):loopOpt f s=loopOpt f s':=by
 cases hq:loopOpt f s' with
 |some x=>obtain⟨n,hn⟩:=Dd hq;exact Dc (n:=n+1) (by simp only[loopN,h];exact hn)
 |none=>
  cases hp:loopOpt f s with
  |none=>rfl
  |some x=>
   obtain⟨n,hn⟩:=Dd hp;cases n with
   |zero=>simp[loopN]at hn
   |succ n=>simp only[loopN,h]at hn;rw[Dc hn]at hq;simp at hq
theorem jrn{α β:Type}{f:α->Option (α ⊕ β)}{s:α}{x:β}(h:f s=some (.inr x)):loopOpt f s=some x:=
 Dc (n:=1) (by simp only[loopN,h])
theorem Rp{α β A B:Type}{f:α->Option (α ⊕ β)}{g:A->Option (A ⊕ B)}{p:A->α}{q:B->β}
  (h:∀a r,g a=some r->f (p a)=some (match r with|.inl a'=> .inl (p a')|.inr b=> .inr (q b))):∀{n:Nat}{a:A}{x:B},loopN g n a=some x->loopN f n (p a)=some (q x)
 |0,_,_,hn=>by simp[loopN]at hn
 |n+1,a,x,hn=>by
  simp only[loopN]at hn;cases hg:g a with
  |none=>simp[hg]at hn
  |some r=>
   have:=h a r hg;cases r with
   |inl a'=>simp only[hg]at hn;simp only[loopN,this];exact Rp h hn
   |inr b=>simp only[hg,j4]at hn;subst hn;simp only[loopN,this]
def sumC{α β γ:Type}(x:α ⊕ β)(f:α->γ)(g:β->γ):γ:=match x with
 |.inl a=>f a
 |.inr b=>g b
structure XD where
 ex:Ex
 ps:List IPat
 ts:List Ty
@[reducible] def XT:List XD->Type
 |[]=>Empty
 |[x]=>HL x.ts
 |x::y::r=>HL x.ts ⊕ XT (y::r)
def p9:(l:List XD)->XT l->Ex×Snap
 |[],h=>nomatch h
 |[x],h=>(x.ex,pack x.ps x.ts h)
 |x::y::r,h=>match h with
  |.inl a=>(x.ex,pack x.ps x.ts a)
  |.inr b=>p9 (y::r) b
def De{R:Type}:(l:List XD)->XT l->(Ex->Snap->Option R)->Option R
 |[],_,_=>none
 |[x],h,k=>k x.ex (pack x.ps x.ts h)
 |x::y::r,h,k=>sumC h (λa=>k x.ex (pack x.ps x.ts a)) (λb=>De (y::r) b k)
theorem JA{R:Type}:∀(l:List XD)(h:XT l)(k:Ex->Snap->Option R),De l h k=k (p9 l h).1 (p9 l h).2
 |[],h,_=>nomatch h
 |[x],h,k=>rfl
 |x::y::r,h,k=>by
  cases h with
  |inl a=>rfl
  |inr b=>exact JA (y::r) b k
def unX:(l:List XD)->Ex->Snap->Option (XT l)
 |[],_,_=>none
 |[x],e,s=>if e=x.ex then th x.ps x.ts s else none
 |x::y::r,e,s=>if e=x.ex/\(tg s).1=x.ps then match th x.ps x.ts s with
   |some a=>some (.inl a)
   |none=>none
  else match unX (y::r) e s with
   |some b=>some (.inr b)
   |none=>none
theorem FY:∀(l:List XD)(e:Ex)(s:Snap)(x:XT l),unX l e s=some x->p9 l x=(e,s)
 |[],_,_,_,h=>by simp[unX]at h
 |[x],e,s,h,he=>by
  simp only[unX]at he;split at he
  .rename_i h1;rw[p9,<-Db he,h1]
  .simp at he
 |x::y::r,e,s,h,he=>by
  simp only[unX]at he;split at he
  .rename_i h1;split at he
   .rename_i a ha;simp only[j4]at he;subst he;show (x.ex,pack x.ps x.ts a)=(e,s);rw[<-Db ha,h1.1]
   .simp at he
  .split at he
   .rename_i b hb;simp only[j4]at he;subst he;exact FY (y::r) e s b hb
   .simp at he
structure kK where
 b:Nat
 ps:List IPat
 ts:List Ty
 exits:List XD
 step:HL ts->Option (HL ts ⊕ XT exits)
def tn:List kK->Nat->Snap->(R:Type)->(Ex->Snap->Option R)->Option R
 |[],_,_,_,_=>none
 |d::ds,b,s,R,k=>if d.b=b then match th d.ps d.ts s with
   |some h=>(loopOpt d.step h).bind λx=>De d.exits x k
   |none=>none
  else tn ds b s R k
theorem JB:∀ds:List kK,LFun (tn ds)
 |[]=>λ_ _=>⟨none,λ_ _=>rfl⟩
 |d::ds=>λb s=>by
  simp only[tn];split
  .split
   .rename_i h _;cases hq:loopOpt d.step h with
    |none=>exact⟨none,λ_ _=>rfl⟩
    |some x=>exact⟨some (p9 d.exits x),λR k=>JA d.exits x k⟩
   .exact⟨none,λ_ _=>rfl⟩
  .exact JB ds b s
def uk(E:Env)(d:kK)(e:Ex)(σ:St):Option (HL d.ts ⊕ XT d.exits):=
 match e with
 |.normal=>match iR E.np (E.keep d.b) σ with
  |some s=>match th d.ps d.ts s with
   |some h=>some (.inl h)
   |none=>none
  |none=>none
 |e=>match iR E.np (E.keepX d.b e) σ with
  |some s=>match unX d.exits e s with
   |some x=>some (.inr x)
   |none=>none
  |none=>none
def ukR(E:Env)(d:kK)(ps:Array Nat)(x y:Code)(p:Option (List Item))(e:Ex)(σ:St):Option (HL d.ts ⊕ XT d.exits):=
 match p,e with
 |some q,.normal=>match iR E.np (E.keep d.b) σ with
  |some s=>match th d.ps d.ts (q++s) with
   |some h=>some (.inl h)
   |none=>none
  |none=>none
 |_,e=>cond (pinK ps x y (E.keepX d.b e)) (match iR E.np (E.keepX d.b e) σ with
  |some s=>match unX d.exits e s with
   |some x=>some (.inr x)
   |none=>none
  |none=>none) none
def jwU(E:Env)(d:kK)(h:HL d.ts):Code->Option (HL d.ts ⊕ XT d.exits)
 |.rangeFunc g ps x y=>BN E d.b g ps x y (pack d.ps d.ts h) (ukR E d ps x y)
 |c=>fm E d.b c (cS E.np (E.keep d.b) (pack d.ps d.ts h)) (uk E d)
def FZ(E:Env)(c:Code)(d:kK):Prop:=∀h,jwU E d h c=d.step h
def outS(d:kK)(r:HL d.ts ⊕ XT d.exits):Snap ⊕ Ex×Snap:=match r with
 |.inl a=> .inl (pack d.ps d.ts a)
 |.inr x=> .inr (p9 d.exits x)
theorem jA1{E:Env}(hF:CFun E.C)(hz:E.nz=false)(hL:LFun E.L){g:Operand}{ps:Array Nat}{x y:Code}{d:kK}(hs:FZ E (.rangeFunc g ps x y) d)(h:HL d.ts)(r:HL d.ts ⊕ XT d.exits):d.step h=some r->
  zI E d.b g ps x y (pack d.ps d.ts h)=some (outS d r):=by
 intro hr;obtain⟨o,ho⟩:=jrm hF hz hL d.b g ps x y (pack d.ps d.ts h);rw[<-hs h]at hr;have h1:some r=_:=hr.symm.trans (ho _ (λz=>ukR E d ps x y z.1 z.2.1 z.2.2));cases o with
 |none=>simp at h1
 |some z=>
  obtain⟨p,e,σ⟩:=z;simp only[j3]at h1
  have h2:=ho _ (λz:Option (List Item)×Ex×St=>match z.1,z.2.1 with
   |some q,.normal=>match iR E.np (E.keep d.b) z.2.2 with
    |some s'=>some (Sum.inl (q++s'))
    |none=>none
   |_,e=>cond (pinK ps x y (E.keepX d.b e)) (match iR E.np (E.keepX d.b e) z.2.2 with
    |some s'=>some (Sum.inr (e,s'))
    |none=>none) none)
  have h3:zI E d.b g ps x y (pack d.ps d.ts h)=_:=h2;rw[h3,j3];clear h3 h2 hr ho;dsimp only;have h1:=h1.symm;unfold ukR at h1
  have hx:∀e,(cond (pinK ps x y (E.keepX d.b e)) (match iR E.np (E.keepX d.b e) σ with
    |some s=>match unX d.exits e s with
     |some x=>some (Sum.inr x)
     |none=>none
    |none=>none) none:Option (HL d.ts ⊕ XT d.exits))=some r->(cond (pinK ps x y (E.keepX d.b e)) (match iR E.np (E.keepX d.b e) σ with
    |some s'=>some (Sum.inr (e,s'))
    |none=>none) none:Option (Snap ⊕ Ex×Snap))=some (outS d r):=by
   intro e h1;cases hp:pinK ps x y (E.keepX d.b e) with
   |false=>rw[hp]at h1;simp at h1
   |true=>
    rw[hp,j5]at h1;rw[j5];split at h1
    .rename_i s dr;split at h1
     .rename_i hh hu;simp only[j4]at h1;subst h1;simp only[outS];rw[FY _ _ _ _ hu]
     .simp at h1
    .simp at h1
  cases p with
  |none=>exact hx e h1
  |some q=>
   cases e with
   |normal=>
    dsimp only at h1 ⊢
    split at h1
    .rename_i s dr;split at h1
     .rename_i hh hu;simp only[j4]at h1;subst h1;simp only[outS];rw[<-Db hu]
     .simp at h1
    .simp at h1
   |exit i=>exact hx _ h1
   |ret=>exact hx _ h1
theorem jwV{E:Env}(hF:CFun E.C)(hz:E.nz=false)(hL:LFun E.L){c:Code}{d:kK}(hs:∀h,fm E d.b c (cS E.np (E.keep d.b) (pack d.ps d.ts h)) (uk E d)=d.step h)(h:HL d.ts)(r:HL d.ts ⊕ XT d.exits):d.step h=some r->
  wu E d.b c (pack d.ps d.ts h)=some (match r with|.inl a=> .inl (pack d.ps d.ts a)|.inr x=> .inr (p9 d.exits x)):=by
 intro hr;obtain⟨o,ho⟩:=FQ hF hz hL c d.b (cS E.np (E.keep d.b) (pack d.ps d.ts h));rw[<-hs h]at hr;have h1:some r=_:=hr.symm.trans (ho _ (λz=>uk E d z.1 z.2));cases o with
 |none=>simp at h1
 |some z=>
  obtain⟨e,σ⟩:=z;simp only[j3]at h1
  have h2:=ho _ (λz:Ex×St=>match z.1 with
   |.normal=>match iR E.np (E.keep d.b) z.2 with
    |some s'=>some (Sum.inl s')
    |none=>none
   |e=>match iR E.np (E.keepX d.b e) z.2 with
    |some s'=>some (Sum.inr (e,s'))
    |none=>none)
  have h3:wu E d.b c (pack d.ps d.ts h)=_:=h2;rw[h3,j3];clear h3 h2 hr ho;dsimp only;have h1:=h1.symm;unfold uk at h1;cases e with
  |normal=>
   dsimp only at h1 ⊢
   split at h1
   .rename_i s dr;split at h1
    .rename_i hh hu;simp only[j4]at h1;subst h1;dsimp only;rw[<-Db hu]
    .simp at h1
   .simp at h1
  |exit i=>
   dsimp only at h1 ⊢
   split at h1
   .rename_i s dr;split at h1
    .rename_i hh hu;simp only[j4]at h1;subst h1;dsimp only;rw[FY _ _ _ _ hu]
    .simp at h1
   .simp at h1
  |ret=>
   dsimp only at h1 ⊢
   split at h1
   .rename_i s dr;split at h1
    .rename_i hh hu;simp only[j4]at h1;subst h1;dsimp only;rw[FY _ _ _ _ hu]
    .simp at h1
   .simp at h1
theorem juV{E:Env}(hF:CFun E.C)(hz:E.nz=false)(hL:LFun E.L){c:Code}{d:kK}(hs:FZ E c d)
  (he:∀s R k,E.L d.b s R k=match th d.ps d.ts s with|some h=>(loopOpt d.step h).bind λx=>De d.exits x k|none=>none):CX E d.b c:=by
 intro s R k r h;rw[he]at h;split at h
 .rename_i hl hu;cases hq:loopOpt d.step hl with
  |none=>simp[hq]at h
  |some x=>
   rw[hq,j3,JA]at h;obtain⟨n,hn⟩:=Dd hq;refine⟨n,(p9 d.exits x).1,(p9 d.exits x).2,?_,h⟩;rw[Db hu]
   exact Rp (f:=HC E d.b c) (p:=pack d.ps d.ts) (q:=p9 d.exits) (λa r hr=>by
    cases c with
    |rangeFunc g ps x y=>have:=jA1 hF hz hL hs a r hr;cases r<;>exact this
    |_=>have:=jwV hF hz hL hs a r hr;cases r<;>exact this) hn
 .simp at h
def lpAt(c:Code)(j:Nat):Code:=((fR 0 c).getD j (0,.skip)).2
def u9(E:Env)(c:Code):Nat->List kK->Prop
 |_,[]=>True
 |j,d::ds=>FZ E (lpAt c j) d/\u9 E c (j+1) ds
theorem u9.get{E:Env}{c:Code}:∀{ds:List kK}{i j:Nat}{d:kK},u9 E c i ds->ds[j]? = some d->FZ E (lpAt c (i+j)) d
 |[],_,_,_,_,h=>by simp at h
 |x::xs,i,0,d,hs,h=>by simp at h;subst h;exact hs.1
 |x::xs,i,j+1,d,hs,h=>by
  have:=u9.get (i:=i+1) (j:=j) hs.2 (by simpa using h);rwa[show i+(j+1)=i+1+j by omega]
theorem Rq:∀{ds:List kK}{j:Nat}{d:kK},oH (ds.map (·.b))=true->ds[j]? = some d->∀s R k,tn ds d.b s R k=match th d.ps d.ts s with|some h=>(loopOpt d.step h).bind λx=>De d.exits x k|none=>none
 |[],_,_,_,h=>by simp at h
 |x::xs,0,d,_,h=>by simp at h;subst h;intro s R k;simp only[tn,if_true]
 |x::xs,j+1,d,hn,h=>by
  simp only[kr,oH,jb,qb,qc,kp]at hn;have hm:d∈xs:=k9 (by simpa using h);have ba:x.b≠d.b:=λe=>hn.1 (e▸ju.2 ⟨d,hm,rfl⟩);intro s R k;simp only[tn,ba,z7];exact Rq (j:=j) hn.2 (by simpa using h) s R k
theorem jwW{E:Env}(hF:CFun E.C)(hz:E.nz=false){c:Code}{ds:List kK}(hE:E.L=tn ds)(hm:(fR 0 c).map (·.1)=ds.map (·.b))(hn:oH (ds.map (·.b))=true)(hs:u9 E c 0 ds) :
  ∀x∈fR 0 c,CX E x.1 x.2:=by
 intro x hx;obtain⟨j,hj⟩:=za.1 hx;have uW:(ds.map (·.b))[j]? = some x.1:=by rw[<-hm];simp[hj]
 rw[qm]at uW;cases hd:ds[j]? with
 |none=>simp[hd]at uW
 |some d=>
  simp only[hd,kx,j4]at uW;have h1:=u9.get hs hd;rw[kf]at h1;have h2:lpAt c j=x.2:=by simp[lpAt,List.getD,hj]
  rw[h2]at h1;have:=juV (E:=E) hF hz (hE▸JB ds) h1 (λs R k=>by rw[hE];exact Rq hn hd s R k);rwa[uW]at this
inductive VPat where
 |v (t:Ty)
 |own (e:Nat) (t:Ty)
 |box (ts:List Ty)
 |hd
 |vn (t:Ty) (ns:List Nat)
 |clo (f:Nat) (caps:List CPat)
 |so (ls:List (Option Nat×Ty))
 deriving DecidableEq
inductive OPat where
 |ref (ts:List Ty)
 |rl (t:Ty)
 deriving DecidableEq
def rlP:RL->(Option Nat×Ty)×TV
 |.d x=>((none,x.t),x)
 |.own e x=>((some e,x.t),x)
def rlsF:List (Option Nat×Ty)->List TV->List RL
 |[],_=>[]
 |(none,_)::ps,xs=> .d (xs.headD tv0)::rlsF ps xs.tail
 |(some e,_)::ps,xs=> .own e (xs.headD tv0)::rlsF ps xs.tail
theorem JC:∀(ls:List RL)(r:List TV),rlsF (ls.map λl=>(rlP l).1) ((ls.map λl=>(rlP l).2)++r)=ls
 |[],r=>rfl
 |.d x::ls,r=>by
  have:=JC ls r;show RL.d _::rlsF _ (_++r)=_;rw[this];rfl
 |.own e x::ls,r=>by
  have:=JC ls r;show RL.own e _::rlsF _ (_++r)=_;rw[this];rfl
def rvP:RV->VPat×List TV
 |.v x=>(.v x.t,[x])
 |.own e x=>(.own e x.t,[x])
 |.box ls=>(.box (ls.map (·.t)),ls)
 |.hd n=>(.hd,[⟨.int .i64,(n:Int)⟩])
 |.vn x ns=>(.vn x.t ns,[x])
 |.clo f caps=>(.clo f (ng caps).1,(ng caps).2)
 |.so ls=>(.so (ls.map λl=>(rlP l).1),ls.map λl=>(rlP l).2)
def VPat.n:VPat->Nat
 |.v _=>1
 |.own _ _=>1
 |.box ts=>ts.length
 |.hd=>1
 |.vn _ _=>1
 |.clo _ cs=>Am cs
 |.so ls=>ls.length
def rvF:VPat->List TV->RV
 |.v _,xs=> .v (xs.headD tv0)
 |.own e _,xs=> .own e (xs.headD tv0)
 |.box ts,xs=> .box (xs.take ts.length)
 |.hd,xs=> .hd (Jw (xs.headD tv0))
 |.vn _ ns,xs=> .vn (xs.headD tv0) ns
 |.clo f cs,xs=> .clo f (Al cs xs)
 |.so ls,xs=> .so (rlsF ls xs)
theorem jBk(c:RV)(r:List TV):rvF (rvP c).1 ((rvP c).2++r)=c/\(rvP c).1.n=(rvP c).2.length:=by
 cases c with
 |v x=>exact⟨rfl,rfl⟩
 |own e x=>exact⟨rfl,rfl⟩
 |hd n=>exact⟨rfl,rfl⟩
 |vn x ns=>exact⟨rfl,rfl⟩
 |box ls=>simp[rvP,rvF,VPat.n]
 |clo f cs=>have:=FU cs r;simp only[rvP,rvF,VPat.n];exact⟨by rw[this.1],this.2⟩
 |so ls=>exact⟨by simp only[rvP,rvF];rw[JC],by simp[rvP,VPat.n]⟩
def outP:Out->OPat×List TV
 |.ref ls=>(.ref (ls.map (·.t)),ls)
 |.rl x=>(.rl x.t,[x])
def OPat.n:OPat->Nat
 |.ref ts=>ts.length
 |.rl _=>1
def outF:OPat->List TV->Out
 |.ref ts,xs=> .ref (xs.take ts.length)
 |.rl _,xs=> .rl (xs.headD tv0)
theorem jA2(c:Out)(r:List TV):outF (outP c).1 ((outP c).2++r)=c/\(outP c).1.n=(outP c).2.length:=by
 cases c with
 |rl x=>exact⟨rfl,rfl⟩
 |ref ls=>simp[outP,outF,OPat.n]
def rvsP:List RV->List VPat×List TV
 |[]=>([],[])
 |c::cs=>((rvP c).1::(rvsP cs).1,(rvP c).2++(rvsP cs).2)
def rvsF:List VPat->List TV->List RV
 |[],_=>[]
 |c::cs,xs=>rvF c xs::rvsF cs (xs.drop c.n)
def rvsN:List VPat->Nat
 |[]=>0
 |c::cs=>c.n+rvsN cs
theorem JD:∀(cs:List RV)(r:List TV),rvsF (rvsP cs).1 ((rvsP cs).2++r)=cs/\rvsN (rvsP cs).1=(rvsP cs).2.length
 |[],r=>⟨rfl,rfl⟩
 |c::cs,r=>by
  simp only[rvsP,rvsF,rvsN,jd,ja];have h1:=jBk c ((rvsP cs).2++r);have h2:=JD cs r;rw[h1.1,h1.2,v8,h2.1,h2.2];exact⟨rfl,rfl⟩
def vw:List Out->List OPat×List TV
 |[]=>([],[])
 |c::cs=>((outP c).1::(vw cs).1,(outP c).2++(vw cs).2)
def F0:List OPat->List TV->List Out
 |[],_=>[]
 |c::cs,xs=>outF c xs::F0 cs (xs.drop c.n)
theorem Rr:∀(cs:List Out)(r:List TV),F0 (vw cs).1 ((vw cs).2++r)=cs
 |[],r=>rfl
 |c::cs,r=>by
  simp only[vw,F0,jd];have h1:=jA2 c ((vw cs).2++r);rw[h1.1,h1.2,v8,Rr cs r]
structure RPat where
 vs:List VPat
 os:List OPat
 deriving DecidableEq
def qA(rp:RPat)(ts:List Ty)(h:HL ts):Ret:=⟨rvsF rp.vs (ofHL ts h),F0 rp.os ((ofHL ts h).drop (rvsN rp.vs))⟩
def F1(rp:RPat)(ts:List Ty)(r:Ret):Option (HL ts):=
 if (rvsP r.vals).1=rp.vs/\(vw r.outs).1=rp.os then toHL ts ((rvsP r.vals).2++(vw r.outs).2) else none
theorem jtF{rp:RPat}{ts:List Ty}{r:Ret}{h:HL ts}(hs:F1 rp ts r=some h):r=qA rp ts h:=by
 unfold F1 at hs;split at hs
 .rename_i hp;have:=FT hs;unfold qA;rw[<-this,<-hp.1,<-hp.2,(JD r.vals _).1,(JD r.vals []).2,v8];have h2:=Rr r.outs [];rw[ka]at h2;rw[h2]
 .simp at hs
structure Con where
 f:Nat
 ps:List APat
 ts:List Ty
 rp:RPat
 rs:List Ty
 F:HL ts->Option (HL rs)
def Con.C(c:Con)(args:List Arg)(R:Type)(k:Ret->Option R):Option R:=
 match FW c.ps c.ts args with
 |some h=>(c.F h).bind λx=>k (qA c.rp c.rs x)
 |none=>none
def Con.OK(P:Program)(c:Con):Prop:=FnOK P c.f c.C
def conC:List Con->Nat->List Arg->(R:Type)->(Ret->Option R)->Option R
 |[],_,_,_,_=>none
 |c::cs,f,args,R,k=>if c.f=f then (if (tj args).1=c.ps then c.C args R k else conC cs f args R k) else conC cs f args R k
theorem JE{P:Program}{f:Nat}:FnOK P f (λ_ _ _=>none):=by
 intro args R k r h;simp at h
def Df(P:Program):List Con->Prop
 |[]=>True
 |c::cs=>c.OK P/\Df P cs
theorem JF{P:Program}:∀cs:List Con,Df P cs->lJ P (conC cs)
 |[],_,_=>JE
 |c::cs,h,f=>by
  have ih:=JF cs h.2 f;intro args R k r hk;simp only[conC]at hk;split at hk
  .rename_i hf;subst hf;split at hk
   .exact h.1 args R k r hk
   .exact ih args R k r hk
  .exact ih args R k r hk
theorem JG:∀cs:List Con,CFun (conC cs)
 |[]=>λ_ _=>⟨none,λ_ _=>rfl⟩
 |c::cs=>λf args=>by
  have ih:=JG cs f args;simp only[conC];split
  .split
   .unfold Con.C;split
    .rename_i h _;cases hq:c.F h with
     |none=>exact⟨none,λ_ _=>rfl⟩
     |some x=>exact⟨some (qA c.rp c.rs x),λ_ _=>rfl⟩
    .exact⟨none,λ_ _=>rfl⟩
   .exact ih
  .exact ih
def JH:List (Nat×Keep)->Nat->Keep
 |[],_=>⟨[],[],[],[]⟩
 |x::r,b=>if x.1=b then x.2 else JH r b
def JI:List (Nat×Ex×Keep)->Nat->Ex->Keep
 |[],_,_=>⟨[],[],[],[]⟩
 |x::r,b,e=>if x.1=b/\x.2.1=e then x.2.2 else JI r b e
def JJ:List (Nat×List Bool)->Nat->List Bool
 |[],_=>[]
 |x::r,b=>if x.1=b then x.2 else JJ r b
def dwL:List (Nat×List (List Nat))->Nat->List (List Nat)
 |[],_=>[]
 |x::r,b=>if x.1=b then x.2 else dwL r b
def bwL:List (Nat×(Bool×Ty))->Nat->Option (Bool×Ty)
 |[],_=>none
 |x::r,f=>if x.1=f then some x.2 else bwL r f
def F2(P:Program):List (Nat×(Bool×Ty))->Prop
 |[]=>True
 |x::r=>ItOK P x.1 x.2.1 x.2.2/\F2 P r
theorem Rs{P:Program}:∀{l:List (Nat×(Bool×Ty))},F2 P l->∀f t,bwL l f=some t->ItOK P f t.1 t.2
 |[],_,f,t,h=>by simp[bwL]at h
 |x::r,hl,f,t,h=>by
  simp only[bwL]at h;split at h
  .rename_i e;simp only[j4]at h;rw[<-e,<-h];exact hl.1
  .exact Rs hl.2 f t h
structure FnD where
 N:Nat
 np:Nat
 cs:List Con
 ds:List kK
 modes:List (Nat×List Bool):=[]
 keep:List (Nat×Keep):=[]
 keepX:List (Nat×Ex×Keep):=[]
 ro:List Bool:=[]
 dw:List (Nat×List (List Nat)):=[]
 hd:Bool:=false
 ns:List Nat:=[]
 bw:List (Nat×(Bool×Ty)):=[]
 so:List SoK:=[]
 cr:List Nat:=[]
def FnD.env(d:FnD)(T:List (Option TyI)):Env:=⟨⟨d.N,λ_=>false⟩,d.np,tab T,conC d.cs,JJ d.modes,tn d.ds,JH d.keep,JI d.keepX,d.ro,dwL d.dw,false,d.hd,d.ns,bwL d.bw,d.so,d.cr⟩
theorem jA3{P:Program}{T:List (Option TyI)}(hT:cB P (tab T))(jC:P.follows .mixedOrders=true)(d:FnD)(iq:Con)(fn:Func)(c:Code)(hf:P.funcs[iq.f]? = some fn)(hb:fn.body=some c)
  (hN : fn.ntmps = d.N) (xx : d.np ≤ d.N) (bW : (fn.name == "runtime.NumGoroutine") = false) (dG : Df P d.cs) (hm : (fR 0 c).map (·.1) = d.ds.map (·.b)) (hn : oH (d.ds.map (·.b)) = true)
  (hs:u9 (d.env T) c 0 d.ds)(hF:∀h,sg (d.env T) fn (o5 iq.ps iq.ts h) (F1 iq.rp iq.rs)=iq.F h)(sX:F2 P d.bw:=by trivial):iq.OK P:=by
 have hC:lJ P (d.env T).C:=JF d.cs dG;have qB:CFun (d.env T).C:=JG d.cs;have hL:LFun (d.env T).L:=JB d.ds;have pK:=Re (E:=d.env T) hT hC qB jC hf hb hN rfl (Rs sX) xx bW (jwW qB rfl rfl hm hn hs);intro args R k r hk;unfold Con.C at hk;split at hk
 .rename_i h hu;rw[FX hu];cases hq:iq.F h with
  |none=>simp[hq]at hk
  |some x=>
   rw[hq,j3]at hk;refine pK _ R k r ?_;obtain⟨o,ho⟩:=jtB qB rfl hL fn (o5 iq.ps iq.ts h);have h1:some x=_:=((hF h).trans hq).symm.trans (ho _ _);cases o with
   |none=>simp at h1
   |some ret=>rw[j3]at h1;show sg (d.env T) fn (o5 iq.ps iq.ts h) k=some r;refine(ho _ _).trans ?_;rw[j3,jtF h1.symm];exact hk
 .simp at hk
theorem cOf{P:Program}{T:List (Option TyI)}(hT:cB P (tab T))(jC:P.follows .mixedOrders=true)(d:FnD)(iq:Con){fn:Func}(hf:P.funcs[iq.f]? = some fn)(dG:Df P d.cs)
  (hs:u9 (d.env T) (fn.body.getD .skip) 0 d.ds)(sX:F2 P d.bw:=by trivial)(hb:fn.body=some (fn.body.getD .skip):=by kernel_rfl)(hN:fn.ntmps=d.N:=by kernel_rfl)
  (xx : Nat.ble d.np d.N = true := by kernel_rfl) (bW : (fn.name == "runtime.NumGoroutine") = false := by kernel_rfl) (hm : (fR 0 (fn.body.getD .skip)).map (·.1) = d.ds.map (·.b) := by kernel_rfl)
  (hn:oH (d.ds.map (·.b))=true:=by kernel_rfl)(hF:∀h,sg (d.env T) fn (o5 iq.ps iq.ts h) (F1 iq.rp iq.rs)=iq.F h:=by intro h;kernel_rfl):iq.OK P:=
 jA3 hT jC d iq fn _ hf hb hN (Nat.le_of_ble_eq_true xx) bW dG hm hn hs hF sX
def kL{α β:Type}(B:(α->Option β)->α->Option β):Nat->α->Option β
 |0,_=>none
 |n+1,a=>B (kL B n) a
open Classical in
def vz{α β:Type}(B:(α->Option β)->α->Option β)(a:α):Option β:=
 if h:∃x n,kL B n a=some x then some h.choose else none
theorem jv2{α β:Type}{B:(α->Option β)->α->Option β}{a:α}{x:β}(h:vz B a=some x):∃n,kL B n a=some x:=by
 unfold vz at h;split at h
 .rename_i hx;simp only[j4]at h;obtain⟨m,hm⟩:=hx.choose_spec;exact⟨m,by rw[<-h];exact hm⟩
 .simp at h
theorem Ru{α β:Type}{B:(α->Option β)->α->Option β}{a:α}{x:β}(h1:∃n,kL B n a=some x)(h2:∀n y,kL B n a=some y->y=x):vz B a=some x:=by
 obtain⟨n,hn⟩:=h1;have hx:∃x n,kL B n a=some x:=⟨x,n,hn⟩;unfold vz;rw[dif_pos hx];obtain⟨m,hm⟩:=hx.choose_spec;rw[h2 m _ hm]
theorem jA4{P:Program}{f:Nat}{ps:List APat}{ts:List Ty}{rp:RPat}{rs:List Ty}{B:(HL ts->Option (HL rs))->HL ts->Option (HL rs)}
  (dP:∀g,Con.OK P ⟨f,ps,ts,rp,rs,g⟩->Con.OK P ⟨f,ps,ts,rp,rs,B g⟩):Con.OK P ⟨f,ps,ts,rp,rs,vz B⟩:=by
 have all:∀n,Con.OK P ⟨f,ps,ts,rp,rs,kL B n⟩:=by
  intro n;induction n with
  |zero=>
   intro args R k r hk;unfold Con.C at hk;split at hk
   .simp[kL]at hk
   .simp at hk
  |succ n ih=>exact dP _ ih
 intro args R k r hk;unfold Con.C at hk;split at hk
 .rename_i h hu;cases hq:vz B h with
  |none=>simp[hq]at hk
  |some x=>obtain⟨n,hn⟩:=jv2 hq;refine all n args R k r ?_;unfold Con.C;rw[hu];dsimp only;rw[hn];dsimp only at hk;rw[hq]at hk;exact hk
 .simp at hk
def FnD.envN(d:FnD)(T:List (Option TyI)):Env:=⟨⟨d.N,λ_=>false⟩,d.np,tab T,conC d.cs,JJ d.modes,tn d.ds,JH d.keep,JI d.keepX,d.ro,dwL d.dw,true,d.hd,d.ns,λ_=>none,d.so,d.cr⟩
theorem jv3{α R:Type}(xs:List α)(K:List α->Option R){r:R}(h:(cond (decide (([]:List α).length+xs.length<=aR)) (some (([]:List α)++xs)) none).bind K=some r) :
  wk (List.isEmpty xs) (K []) (cond (decide (([]:List α).length+xs.length<=aR)) (K (([]:List α)++xs)) none)=some r:=by
 cases hd:decide (([]:List α).length+xs.length<=aR) with
 |false=>rw[hd]at h;simp at h
 |true=>
  rw[hd]at h;simp only[j5,j3]at h ⊢;cases xs with
  |nil=>simp only[ka]at h ⊢;rw[XJ];exact h
  |cons x r=>exact h
theorem Rv{P:Program}{T:List (Option TyI)}(hT:cB P (tab T))(jC:P.follows .mixedOrders=true)(d:FnD)(f:Nat)(a:Ty)(e:Nat)(fn:Func)(c:Code)(hf:P.funcs[f]? = some fn)(hb:fn.body=some c)
  (hN : fn.ntmps = d.N) (xx : d.np ≤ d.N) (bW : (fn.name == "runtime.NumGoroutine") = false) (dG : Df P d.cs) (hl : fR 0 c = [])
  (hF:∀(h:List a.den)(R:Type)(k:Ret->Option R),sg (d.envN T) fn [.v ⟨.list a,h⟩] k=wk (List.isEmpty h) (k ⟨[.own e ⟨.list a,([]:List a.den)⟩],[]⟩)
   (cond (decide (([]:List a.den).length+List.length h<=aR)) (k ⟨[.own e ⟨.list a,([]:List a.den)++h⟩],[]⟩) none)) :
  Con.OK P ⟨f,[.v (.list a)],[.list a],⟨[.own e (.list a)],[]⟩,[.list a],λh=>cond (decide (([]:List a.den).length+List.length h<=aR)) (some (([]:List a.den)++h)) none⟩:=by
 have hC:lJ P (d.envN T).C:=JF d.cs dG;have qB:CFun (d.envN T).C:=JG d.cs;have pK:=Re (E:=d.envN T) hT hC qB jC hf hb hN rfl (λf t h=>by simp[FnD.envN]at h) xx bW (by rw[hl];simp);intro args R k r hk;unfold Con.C at hk;split at hk
 .rename_i h hu;rw[FX hu];refine pK _ R k r ?_;refine(hF h R k).trans ?_;exact jv3 (α:=a.den) h (λx=>k ⟨[.own e ⟨.list a,x⟩],[]⟩) hk
 .simp at hk
def w64(x:Int):Int:=IntKind.wrap .i64 x
class LP where
 lp:{α β:Type}->(α->Option (α ⊕ β))->α->Option β
 rp:{α β:Type}->((α->Option β)->α->Option β)->α->Option β
noncomputable instance realLP:LP:=⟨loopOpt,vz⟩
abbrev aw(N:Nat):LP:=⟨λf a=>loopN f N a,λB a=>kL B N a⟩
theorem ai{x:Int}(h1 : -9223372036854775808<=x)(h2:x<=9223372036854775807):w64 x=x:=IntWalk.i64_in x ⟨h1,h2⟩
def lpK{α β:Type}(r:Option (α ⊕ β))(f:α->Option β):Option β:=match r with
 |none=>none
 |some (.inl s)=>f s
 |some (.inr x)=>some x
theorem aJ{α β:Type}(s:α)(f:α->Option β):lpK (some (.inl s)) f=f s:=rfl
theorem aW{α β:Type}(x:β)(f:α->Option β):lpK (some (.inr x)) f=some x:=rfl
theorem Rw{α β γ:Type}(x:α)(f:α->γ)(g:β->γ):sumC (.inl x) f g=f x:=rfl
theorem nV{α β γ:Type}(x:β)(f:α->γ)(g:β->γ):sumC (.inr x) f g=g x:=rfl
theorem bk{α β:Type}(f:α->Option (α ⊕ β))(s:α):loopOpt f s=lpK (f s) (loopOpt f):=by
 cases h:f s with
 |none=>
  cases hq:loopOpt f s with
  |none=>rfl
  |some x=>obtain⟨n,hn⟩:=Dd hq;cases n<;>simp[loopN,h]at hn
 |some r=>
  cases r with
  |inl s'=>exact jq3 h
  |inr x=>exact jrn h
section
variable{S0:aF}{w0:World}{refs:Refs}
theorem JK{P:Program}{E:Env}(hT:cB P E.T)(hC:lJ P E.C){ops:Array Oper}{R:Type}{k:St->Option R}{r:R}{Q:Exit->Go.Act->World->Prop}{n:Nat}{rest:List Nat}
  (hn:∀σ' a' w' S' γ',Rel E.N E.np S0 w0 refs σ' a' w' S' γ'->dN σ'->k σ'=some r->wpOpsIn (FR none) n P ops Q rest a' w') :
  ∀(l:List Oper)(i:Nat){σ:St}{a:Go.Act}{w:World}{S:aF}{γ:Nat->Value},(∀j o,l[j]? = some o->ops[i+j]? = some o/\o.guard=none)->Rel E.N E.np S0 w0 refs σ a w S γ->dN σ->oI E l σ k=some r->
   wpOpsIn (FR none) n P ops Q (List.range' i l.length++rest) a w
 |[],i,σ,a,w,S,γ,hl,hR,hc,h=>hn _ _ _ _ _ hR hc h
 |o::l,i,σ,a,w,S,γ,hl,hR,hc,h=>by
  simp only[oI]at h;split at h
  .rename_i hd;obtain⟨ho,hg⟩:=hl 0 o rfl;have hw:Region.wanted o (yielded ops a.tmps)=true:=by simp[Region.wanted,hg]
   simp only[jk,List.range'_succ,qd,wpOpsIn,show ops[i]? = some o from ho,hw,if_true];refine FJ (.inl rfl) (λ_ _ h=>h) (Fx hT hC hR (act:=[]) (λg hg=>by simp at hg) (p:=false) (λ_=>hc) hd h (λσ' a' w' S' γ' cV eE hk=>?_));exact JK hT hC hn l (i+1) (λj o' hj=>by rw[show i+1+j=i+(j+1) by omega];exact hl (j+1) o' (by simpa using hj)) cV (eE rfl) hk
  .simp at h
theorem Dg{N:NT}{np:Nat}{fx:Nat->Option Value}{σ:St}{a:Go.Act}{W:World}{S:aF}(bZ:a.tmps.size=N.n)(hd:a.defers=[])(aY:∀k,σ.bx k = .free)(hS:∀g o,S g o->g<W.heap.size)
  (pT:∀i,gF S W (λ_=>undef) σ.bx (tm a) (σ.sl i) (tm a i))(JL:∀i v,fx i=some v->N.pin i=true/\tm a i=v):Rel N np S W { blks:=[],val:=λ_=>none,fix:=fx } σ a W S (λ_=>undef):=
 ⟨bZ,hd,pT,λk b h=>by rw[aY]at h;simp at h,λk b g h=>by rw[aY]at h;simp at h,λk k' b b' g _ h=>by rw[aY]at h;simp at h,λ_ _ h=>h,λ_ _ h=> .inl h,hS,λ_ _ _=>rfl,jg _,rfl,rfl,rfl,
  λk v h=>by simp at h,λg o h=>by simp at h,JL⟩
theorem vA{N:NT}{np:Nat}{fx:Nat->Option Value}{σ:St}{a:Go.Act}{w:World}{S:aF}{γ:Nat->Value}(hR:Rel N np S0 w0 { blks:=[],val:=λ_=>none,fix:=fx } σ a w S γ):Grew w0 w:=
 ⟨λg hg=>hR.below g hg (λh=>by have h:g∈([]:List Nat):=h;simp at h),hR.grow,hR.os,hR.tape,hR.output⟩
theorem jq8{P:Program}{a:Go.Act}{w:World}{o:Oper}{cl:Call}(ho:o.op = .call cl){x:Operand}(hc:cl.callee = .value x){l:Nat}(hx:a.eval x = .func (.yield l) #[] #[]){nx:Next}{w':World}
  (hy:(Instr.yield l (cl.args.map a.eval)).run P w = .ok nx w'):(execOp a.eval o).run P w = .ok nx w':=by
 simp[execOp,ho,resolve,hc,Deferred.ofValue,hx,invoke,hy]
end
section
variable{S0:aF}{w0:World}{refs:Refs}
def bwE(T:Nat->Option TyI):Env:=
 { N:=⟨19,λi=>i==0||(i==1||i==11)⟩,np:=0,T:=T,C:=λ_ _ _ _=>none,modes:=λ_=>[],L:=λ_ _ _ _=>none,keep:=λ_=>⟨[],[],[],[]⟩,keepX:=λ_ _=>⟨[],[],[],[]⟩,ro:=[] }
def slF(l:List (Nat×Cel)):St:={ sl:=λj=>match l.find? (λx=>x.1==j) with|some x=> .one x.2|none=> .one (.one .dead),bx:=λ_=> .free }
def g3(σ:St):Option Int:=match σ.sl 3 with
 |.one (.one (.d (.int .i64) v))=>some v
 |_=>none
def g1(σ:St):Option (Bool×Int):=match σ.sl 8,σ.sl 3 with
 |.one (.one (.d .bool b)),.one (.one (.d (.int .i64) v))=>some (b,v)
 |_,_=>none
def g18(σ:St):Option (Bool×Int):=match σ.sl 18,σ.sl 3 with
 |.one (.one (.d .bool b)),.one (.one (.d (.int .i64) v))=>some (b,v)
 |_,_=>none
def g16(t:Ty)(σ:St):Option (Int×t.den×Int):=match σ.sl 12,σ.sl 16,σ.sl 3 with
 |.one (.one (.d (.int .i64) u)),.one c,.one (.one (.d (.int .i64) v))=>match oD (λ_=> .gone) t c with
  |some (x,[])=>some (u,x,v)
  |_=>none
 |_,_,_=>none
def lstP(t:Ty)(xs:List t.den):Cel:= .one (.ip [⟨.list t,xs⟩])
def intP(i:Int):Cel:= .one (.d (.int .i64) i)
theorem Dh(l:List (Nat×Cel)):dN (slF l):=λi=>by
 simp only[slF];split<;>rfl
theorem jwZ{np:Nat}{σ:St}:RdF np σ (λ_=> .gone):=⟨λ_=> .inr rfl,λk e a xs f h=>by simp at h⟩
theorem Di{S:aF}{W:World}{γ:Nat->Value}{l:List (Nat×Cel)}{JM:Nat->Value}(h:∀x∈l,bJ S W γ (λ_=> .free) x.2 (JM x.1))(i:Nat):gF S W γ (λ_=> .free) JM ((slF l).sl i) (JM i):=by
 simp only[slF];split
 .rename_i x hx;have:=h x (List.mem_of_find?_eq_some hx);have e:=List.find?_some hx;simp only[z6]at e;rw[<-e];exact this
 .exact⟨trivial,λh=>absurd rfl h⟩
theorem JN{P:Program}{T:Nat->Option TyI}(hT:cB P T){Q6 n:Nat}{A:Array Oper}{σ:St}{fx:Nat->Option Value}{a:Go.Act}{w:World}{S:aF}{γ:Nat->Value}{R:Type}{k:St->Option R}{r:R}
  (hR:Rel (bwE T).N (bwE T).np S0 w0 { blks:=[],val:=λ_=>none,fix:=fx } σ a w S γ)(hc:dN σ)(h:oJ (bwE T) A σ k=some r) :
  (Code.region Q6 A false).wpIn (FR none) n P (λe a' w'=>e = .normal/\∃σ' S' γ',Rel (bwE T).N (bwE T).np S0 w0 { blks:=[],val:=λ_=>none,fix:=fx } σ' a' w' S' γ'/\k σ'=some r) a w:=
 wpIn_region (CW (.inl rfl) (by rintro⟨a,w,h,_⟩;cases h) _ _ _ (Qi hT (λf=>JE) hR hc (λσ' a' w' S' γ' cV _ hk=>⟨rfl,σ',S',γ',cV,hk⟩) h))
theorem Rx{σ:St}{v:Int}(h:g3 σ=some v):σ.sl 3 = .one (.one (.d (.int .i64) v)):=by
 unfold g3 at h;split at h
 .rename_i u hu;simp only[j4]at h;subst h;exact hu
 .simp at h
theorem jBl{σ:St}{b:Bool}{v:Int}(h:g1 σ=some (b,v)):σ.sl 8 = .one (.one (.d .bool b))/\σ.sl 3 = .one (.one (.d (.int .i64) v)):=by
 unfold g1 at h;split at h
 .rename_i hb hu;simp only[j4,j8]at h;obtain⟨rfl,rfl⟩:=h;exact⟨hb,hu⟩
 .simp at h
theorem jA6{σ:St}{b:Bool}{v:Int}(h:g18 σ=some (b,v)):σ.sl 18 = .one (.one (.d .bool b))/\σ.sl 3 = .one (.one (.d (.int .i64) v)):=by
 unfold g18 at h;split at h
 .rename_i hb hu;simp only[j4,j8]at h;obtain⟨rfl,rfl⟩:=h;exact⟨hb,hu⟩
 .simp at h
theorem jA7{t:Ty}{σ:St}{i:Int}{x:t.den}{v:Int}(h:g16 t σ=some (i,x,v)):σ.sl 12 = .one (.one (.d (.int .i64) i))/\σ.sl 3 = .one (.one (.d (.int .i64) v))/\∃c,σ.sl 16 = .one c/\oD (λ_=> .gone) t c=some (x,[]):=by
 unfold g16 at h;split at h
 .rename_i c _ wU JO h3;split at h
  .rename_i hx;simp only[j4,j8]at h;obtain⟨rfl,rfl,rfl⟩:=h;exact⟨wU,h3,c,JO,hx⟩
  .simp at h
 .simp at h
theorem Ao{N:NT}{np:Nat}{σ:St}{a:Go.Act}{w:World}{S:aF}{γ:Nat->Value}(hR:Rel N np S0 w0 refs σ a w S γ){s:Nat}{v:Int}(h:σ.sl s = .one (.one (.d (.int .i64) v))):tm a s = .int .i64 v:=by
 have:=hR.slot s;rw[h]at this;have h1:[a.tmps.getD s undef]=[Value.int .i64 v]:=this.1;simpa[tm]using h1
theorem Ry{N:NT}{np:Nat}{σ:St}{a:Go.Act}{w:World}{S:aF}{γ:Nat->Value}(hR:Rel N np S0 w0 refs σ a w S γ){s:Nat}{v:Bool}(h:σ.sl s = .one (.one (.d .bool v))):tm a s = .bool v:=by
 have:=hR.slot s;rw[h]at this;have h1:[a.tmps.getD s undef]=[Value.bool v]:=this.1;simpa[tm]using h1
theorem jBm{P:Program}{T:Nat->Option TyI}(hT:cB P T){f:Nat}{t:Ty}{fn:Func}(hf:P.funcs[f]? = some fn){r0 b0 r1 b1 r3 r2:Nat}{A0 A1 A2:Array Oper}{o0 o6 o7:Oper}{l3:List Oper}{cl:Call}
  (hb:fn.body=some ((Code.region r0 A0 false).seq (Code.block b0 ((((Code.region r1 A1 false).seq (Code.cond (.tmp 8) .skip (.exit b0))).seq ((Code.block b1 ((Code.region r3 (o0::(l3++[o6,o7])).toArray false).seq (Code.cond (.tmp 18) .ret .skip))).seq (Code.region r2 A2 false))).loop))))
  (JP : fn.ntmps = 19) (kJ : fn.results = #[]) (bW : (fn.name == "runtime.NumGoroutine") = false) (Ap : l3.length = 5) (dO : (o0 :: (l3 ++ [o6, o7])).all (fun o => o.guard.isNone) = true)
  (xA:o0.op = .move (.tmp 0))(JQ:o0.dst=some 11)(xB:o6.op = .call cl)(JR:cl.callee = .value (.tmp 11))(F3:cl.args = #[.tmp 12,.tmp 16])(h6d:o6.dst=some 17)
  (e0:∀xs:List t.den,oJ (bwE T) A0 (slF [(1,lstP t xs)]) g3=some (w64 (Int.ofNat (List.length xs)-1)))
  (e1:∀i:Int,oJ (bwE T) A1 (slF [(3,intP i)]) g1=some (decide (i>=0),i))
  (e2:∀i:Int,oJ (bwE T) A2 (slF [(3,intP i)]) g3=some (w64 (i-1)))
  (e3:∀(xs:List t.den)(i:Int),oI (bwE T) l3 (slF [(1,lstP t xs),(3,intP i)]) (g16 t)=cond (inR i (List.length xs)) (some (i,List.getD xs (Int.toNat i) t.dflt,i)) none)
  (e7:∀(b:Bool)(i:Int),oI (bwE T) [o7] (slF [(17,.one (.d .bool b)),(3,intP i)]) g18=some (!b,i)):BwOK P f t:=by
 refine⟨⟨fn,hf,by rw[hb];rfl,bW⟩,?_⟩;intro cv m l J Jx W S aC xa fq hY mz Ag;have hC:lJ P (bwE T).C:=λf=>JE;obtain⟨S0,fX,hm,hS0,nh⟩:=mz
 obtain⟨z0,qC⟩:∃z0,cv = #[z0]:=by
  have:=nh.length;obtain⟨cl⟩:=cv;match cl,this with
  |[z],_=>exact⟨z,rfl⟩
 subst qC;refine callsIn_of_wp hf hb trivial ?_;rw[JP];obtain⟨yv,Jd⟩:∃yv,yv=Value.func (.yield l) #[] #[]:=⟨_,rfl⟩;obtain⟨R,hR⟩:∃R:Ending->World->Prop,R=λe W'=>(∃v,e = .returned v)/\((∃S',J m S' W')\/Jx W'):=⟨_,rfl⟩;rw[<-Jd,<-hR];let fx:Nat->Option Value:=λi=>if i=0 then some yv else if i=1 then some z0 else none
 let Fr:Go.Act->Prop:=λa=>a.tmps.size=19/\a.defers=[]/\tm a 0=yv/\tm a 1=z0
 let Inv:Go.Act->World->Prop:=λa W=>Fr a/\∃j S,j<=m/\J j S W/\tm a 3 = .int .i64 ((m:Int)-1-j)
 let μ:Go.Act->World->Nat:=λa W=>match tm a 3 with
  |.int _ v=>(v+1).toNat
  |_=>0
 have dt:∀{a:Go.Act}{W':World},a.defers=[]->((∃S',J m S' W')\/Jx W')->a.defers=[]/\∃v,(results fn a.tmps).run P W' = .ok v W'/\R (.returned v) W':=by intro a W' hd h;exact⟨hd,_,results_none kJ _ _ _,by rw[hR];exact⟨⟨_,rfl⟩,h⟩⟩
 have iX:∀{σ:St}{a:Go.Act}{w w0:World}{S S0:aF}{γ:Nat->Value},Rel (bwE T).N (bwE T).np S0 w0 { blks:=[],val:=λ_=>none,fix:=fx } σ a w S γ->Fr a:=λhR=>
  ⟨hR.size,hR.defers,(hR.fix 0 yv rfl).2,(hR.fix 1 z0 rfl).2⟩
 have kM:∀{a:Go.Act},Fr a->∀i v,fx i=some v->(bwE T).N.pin i=true/\tm a i=v:=by
  intro a ha i v hv;simp only[fx]at hv;split at hv
  .rename_i e;subst e;simp only[j4]at hv;subst hv;exact⟨rfl,ha.2.2.1⟩
  .split at hv
   .rename_i _ e;subst e;simp only[j4]at hv;subst hv;exact⟨rfl,ha.2.2.2⟩
   .simp at hv
 have same:∀{j:Nat}{S:aF}{W W':World},J j S W->Grew W W'->Ad S W S W':=λhJ hg=>⟨λ_ _ h=>h,λ_ _ h=> .inl h,λg o h=>qk (fq _ _ _ hJ g o h) hg.size⟩
 have hmlt:m<=9223372036854775807:=by
  obtain⟨g,o,cs,_,ar,_⟩:=nh.1;match cs,ar with
  |[z],ar=>obtain⟨ad,cap,_,h1,h2,_⟩:=ar.1;simp only[maxLen]at h2;have h1:List.length fX<=cap:=h1;omega
 obtain⟨a0,tc⟩:∃a0:Go.Act,a0={ tmps:=#[yv] ++ #[z0]++Array.replicate (19-(#[yv] ++ #[z0]).size) undef,defers:=[] }:=⟨_,rfl⟩;rw[<-tc]
 have tp:Fr a0:=by
  subst tc;refine⟨?_,rfl,?_,?_⟩
  .simp
  .simp[tm]
  .simp[tm]
 have mz:Rel (bwE T).N (bwE T).np S0 W { blks:=[],val:=λ_=>none,fix:=fx } (slF [(1,lstP t fX)]) a0 W S0 (λ_=>undef):=
  Dg tp.1 tp.2.1 (λ_=>rfl) hS0 (Di (λx hx=>by
   simp only[ke]at hx;subst hx;rw[tp.2.2.2];exact⟨nh.1,λ_=>by obtain⟨g,o,cs,hu,_⟩:=nh.1;rw[hu];rfl⟩)) (kM tp)
 refine wpIn_seq (wpIn_mono (JN hT mz (Dh _) (e0 fX)) ?_)
 rintro e a W1 ⟨rfl,σ1,S1,γ1,bu,dE⟩
 show (Code.block b0 _).wpIn _ _ _ _ _ _;have h3:=Ao bu (Rx dE);refine wpIn_block (wpIn_loop Inv μ ⟨iX bu,0,S,kc _,aC _ _ _ _ _ (vA bu) (same Ag (vA bu)) Ag,?_⟩ ?_)
 .rw[h3,hm,ai (by simp;omega) (by simp;omega)];simp
 .rintro a W ⟨JS,j,S,uW,hJ,h3⟩
  have hint:∀{a:Go.Act}{W:World}{S:aF}{v:Int},tm a 3 = .int .i64 v->bJ S W (λ_=>undef) (λ_=> .free) (intP v) (tm a 3):=λh=>by rw[h];exact⟨rfl,λ_=>rfl⟩
  have hRs:Rel (bwE T).N (bwE T).np S W { blks:=[],val:=λ_=>none,fix:=fx } (slF [(3,intP ((m:Int)-1-j))]) a W S (λ_=>undef):=
   Dg JS.1 JS.2.1 (λ_=>rfl) (fq _ _ _ hJ) (Di (λx hx=>by
    simp only[ke]at hx;subst hx;exact hint h3)) (kM JS)
  refine wpIn_seq (wpIn_seq (wpIn_mono (JN hT hRs (Dh _) (e1 _)) ?_))
  rintro e a1 W1 ⟨rfl,σ1,S1,γ1,bu,dE⟩
  obtain⟨h8,JT⟩:=jBl dE;have JT:=Ao bu JT;have h8:a1.eval (.tmp 8) = .bool (decide ((m:Int)-1-j>=0)):=Ry bu h8;have JU:=aC _ _ _ _ _ (vA bu) (same hJ (vA bu)) hJ;have mD:=iX bu;show (Code.cond _ _ _).wpIn _ _ _ _ _ _;by_cases bP:(m:Int)-1-j>=0
  case neg=>
   rw[decide_eq_false bP]at h8;refine wpIn_cond_false h8 (wpIn_exit ?_);show Exit.inBlock b0 (bodyPost P fn R) (.exit b0) a1 W1;simp only[Exit.inBlock,if_true];have hj:j=m:=by omega
   subst hj;exact dt mD.2.1 (.inl ⟨S,JU⟩)
  case pos=>
  rw[v7 bP]at h8;refine wpIn_cond_true h8 (wpIn_skip ?_);show (Code.seq _ _).wpIn _ _ _ _ _ _;have JV:j<m:=by omega
  obtain⟨xs,cM,hlen,lG⟩:=hY j S W1 JV JU;refine wpIn_seq (wpIn_block (wpIn_seq (wpIn_region ?_)));obtain⟨ops,xC⟩:∃ops,ops=(o0::(l3++[o6,o7])).toArray:=⟨_,rfl⟩;rw[<-xC];have mv:∀k,ops[k]? = (o0::(l3++[o6,o7]))[k]? := λk=>by rw[xC];exact List.getElem?_toArray
  have bh:∀o∈o0::(l3++[o6,o7]),o.guard=none:=λo ho=>by have:=jz.1 dO o ho;simpa using this
  have bZ:ops.size=8:=by rw[xC];simp[Ap]
  have hw:∀(o:Oper)(a:Go.Act),o∈o0::(l3++[o6,o7])->Region.wanted o (yielded ops a.tmps)=true:=λo a ho=>by simp[Region.wanted,bh o ho]
  rw[bZ,show List.range 8=0::(List.range' 1 l3.length++[6,7]) by rw[Ap];rfl];have JW:ops[0]? = some o0:=by rw[mv];rfl
  simp only[wpOpsIn,JW,hw o0 _ (qu ..),if_true];refine FJ (.inl rfl) (λ_ _ h=>h) ?_;unfold Oper.wp;rw[show (execOp a1.eval o0).run P W1 = .ok (.value (a1.eval (.tmp 0))) W1 by simp[execOp,xA,go_sem],Oper.upon_value,JQ];have xD:a1.eval (.tmp 0)=yv:=mD.2.2.1;rw[xD];have Dj:11<a1.tmps.size:=by rw[mD.1];omega
  obtain⟨a2,zP⟩:∃a2,a2=a1.put (some 11) yv:=⟨_,rfl⟩;rw[<-zP];have tt:∀i,tm a2 i=if i=11 then yv else tm a1 i:=λi=>by rw[zP];exact CG Dj yv i
  have tu:Fr a2:=⟨by rw[zP,Iy];exact mD.1,by rw[zP,Iz];exact mD.2.1,by rw[tt];exact mD.2.2.1,by rw[tt];exact mD.2.2.2⟩;let Rz:Nat->Option Value:=λi=>if i=11 then some yv else fx i
  have cO:Rel (bwE T).N (bwE T).np S W1 { blks:=[],val:=λ_=>none,fix:=Rz } (slF [(1,lstP t xs),(3,intP ((m:Int)-1-j))]) a2 W1 S (λ_=>undef):=
   Dg tu.1 tu.2.1 (λ_=>rfl) (fq _ _ _ JU) (Di (λx hx=>by
    simp only[je,vc,or_false]at hx;rcases hx with rfl|rfl
    .rw[tu.2.2.2];exact⟨cM.1,λ_=>by obtain⟨g,o,cs,hu,_⟩:=cM.1;rw[hu];rfl⟩
    .exact hint (by rw[tt];exact JT))) (λi v hv=>by
     simp only[Rz]at hv;split at hv
     .rename_i e;subst e;simp only[j4]at hv;subst hv;exact⟨rfl,by rw[tt,if_pos rfl]⟩
     .exact kM tu i v hv)
  have hx:∃x,xs[m-1-j]? = some x/\List.getD xs (Int.toNat ((m:Int)-1-j)) t.dflt=x:=by refine⟨xs[m-1-j]'hlen,jj hlen,?_⟩;rw[show Int.toNat ((m:Int)-1-j)=m-1-j by omega];simp[List.getD,hlen]
  obtain⟨x,hx,hxd⟩:=hx;have RA:=e3 xs ((m:Int)-1-j)
  rw[hxd,show inR ((m:Int)-1-j) (List.length xs)=true by
   unfold inR;rw[v7 (show (0:Int)<=(m:Int)-1-j by omega),v7 (show (m:Int)-1-j<(List.length xs:Int) by omega)];rfl,j5]at RA
  refine JK hT hC ?_ l3 1 (λk o hk=>⟨?_,?_⟩) cO (Dh _) RA
  rotate_left
  .rw[mv,Nat.add_comm,vh,List.getElem?_append_left (jw.1 hk).1];exact hk
  .exact bh o (zv _ (kj _ (k9 hk)))
  intro σ3 a3 W3 S3 γ3 gH _ kI;obtain⟨wU,JX,c,JO,JY⟩:=jA7 kI;have wU:=Ao gH wU;have JX:=Ao gH JX;have JZ:VRep S3 W3 ⟨t,x⟩ (tm a3 16):=by have:=gH.slot 16;rw[JO]at this;exact(B3 (np:=(bwE T).np) jwZ JY this).2.1 S3 W3 (.refl _ _) (λy hy=>by simp at hy)
  have Ic:=vA gH;have h11:tm a3 11=yv:=(gH.fix 11 yv rfl).2;have qD:Fr a3:=⟨gH.size,gH.defers,(gH.fix 0 yv rfl).2,(gH.fix 1 z0 rfl).2⟩;obtain⟨fn6,Dk,as6,bo6,hy6,qE⟩:=lG S3 W3 x _ Ic ⟨gH.ext,gH.new,gH.here⟩ hx JZ;have J0:ops[6]? = some o6:=by rw[mv,vh,k5 (by omega),Ap];rfl
  have J1:ops[7]? = some o7:=by rw[mv,vh,k5 (by omega),Ap];rfl
  simp only[wpOpsIn,J0,hw o6 _ (by simp),if_true];refine⟨λ_ _=>trivial,?_⟩
  have aL:(execOp a3.eval o6).run P W3 = .ok (.round l fn6 Dk as6 bo6) W3:=by
   refine jq8 xB JR (l:=l) (by rw[<-Jd];exact h11) ?_;rw[F3];have J2:a3.eval (.tmp 12) = .int .i64 ((m-1-j:Nat):Int):=by rw[show ((m-1-j:Nat):Int)=(m:Int)-1-j by omega];exact wU
   have e16:a3.eval (.tmp 16)=tm a3 16:=rfl;simp only[List.map_toArray,kr,List.map_nil,J2,e16];exact hy6
  rw[show o6.semAt (FR none).round a3.eval=execOp a3.eval o6 from rfl,aL,Oper.uponIn_round];refine⟨λhd=>by simp[FR,Fence.wide]at hd,?_⟩;refine RoundIn.mono ⟨qE.1,λc cs _=>qE.2 c cs (QN _ _)⟩ ?_;have Dl:17<a3.tmps.size:=by rw[qD.1];omega
  have rest:∀(bb:Bool)(W4:World)(S4:aF),(∀g o,S4 g o->g<W4.heap.size)->
    (∀a5 W5,Fr a5->Grew W4 W5->tm a5 18 = .bool (!bb)->tm a5 3 = .int .i64 ((m:Int)-1-j)->(Exit.then ((Code.cond (.tmp 18) .ret .skip).wpIn (FR none) 0 P (Exit.inBlock b1 (Exit.then ((Code.region r2 A2 false).wpIn (FR none) 0 P (Exit.then (λa' W'=>Inv a' W'/\μ a' W'<μ a W) (Exit.inBlock b0 (bodyPost P fn R))))
     (Exit.then (λa' W'=>Inv a' W'/\μ a' W'<μ a W) (Exit.inBlock b0 (bodyPost P fn R)))))) (Exit.inBlock b1 (Exit.then ((Code.region r2 A2 false).wpIn (FR none) 0 P (Exit.then (λa' W'=>Inv a' W'/\μ a' W'<μ a W) (Exit.inBlock b0 (bodyPost P fn R))))
     (Exit.then (λa' W'=>Inv a' W'/\μ a' W'<μ a W) (Exit.inBlock b0 (bodyPost P fn R)))))) .normal a5 W5)->
    wpOpsIn (FR none) 0 P ops (Exit.then ((Code.cond (.tmp 18) .ret .skip).wpIn (FR none) 0 P (Exit.inBlock b1 (Exit.then ((Code.region r2 A2 false).wpIn (FR none) 0 P (Exit.then (λa' W'=>Inv a' W'/\μ a' W'<μ a W) (Exit.inBlock b0 (bodyPost P fn R))))
     (Exit.then (λa' W'=>Inv a' W'/\μ a' W'<μ a W) (Exit.inBlock b0 (bodyPost P fn R)))))) (Exit.inBlock b1 (Exit.then ((Code.region r2 A2 false).wpIn (FR none) 0 P (Exit.then (λa' W'=>Inv a' W'/\μ a' W'<μ a W) (Exit.inBlock b0 (bodyPost P fn R))))
     (Exit.then (λa' W'=>Inv a' W'/\μ a' W'<μ a W) (Exit.inBlock b0 (bodyPost P fn R)))))) [7] (a3.put o6.dst (.bool bb)) W4:=by
   intro bb W4 S4 hS4 kN;rw[h6d];obtain⟨a4,F4⟩:∃a4,a4=a3.put (some 17) (.bool bb):=⟨_,rfl⟩;rw[<-F4];have tw:∀i,tm a4 i=if i=17 then .bool bb else tm a3 i:=λi=>by rw[F4];exact CG Dl _ i
   have xE:Fr a4:=⟨by rw[F4,Iy];exact qD.1,by rw[F4,Iz];exact qD.2.1,by rw[tw];exact qD.2.2.1,by rw[tw];exact qD.2.2.2⟩
   have rQ:Rel (bwE T).N (bwE T).np S4 W4 { blks:=[],val:=λ_=>none,fix:=fx } (slF [(17,.one (.d .bool bb)),(3,intP ((m:Int)-1-j))]) a4 W4 S4 (λ_=>undef):=
    Dg xE.1 xE.2.1 (λ_=>rfl) hS4 (Di (λx hx=>by
     simp only[je,vc,or_false]at hx;rcases hx with rfl|rfl
     .rw[tw,if_pos rfl];exact⟨rfl,λ_=>rfl⟩
     .exact hint (by rw[tw];exact JX))) (kM xE)
   refine JK (rest:=[]) hT hC (λσ5 a5 W5 S5 γ5 nf _ s7=>?_) [o7] 7 (λk o hk=>?_) rQ (Dh _) (e7 bb _)
   .obtain⟨q1,q2⟩:=jA6 s7;exact kN a5 W5 (iX nf) (vA nf) (Ry nf q1) (Ao nf q2)
   .cases k with
    |zero=>simp at hk;subst hk;exact⟨J1,bh _ (by simp)⟩
    |succ k=>simp at hk
  rintro e W4 (⟨rfl,S4,J3⟩|⟨rfl,hx4⟩)
  .refine rest true W4 S4 (fq _ _ _ J3) (λa5 W5 qF F5 J4 RB=>?_);refine wpIn_cond_false (c:= .tmp 18) J4 (wpIn_skip ?_);show (Code.region r2 A2 false).wpIn _ _ _ _ _ _;have J5:=aC _ _ _ _ _ F5 (same J3 F5) J3
   have nf:Rel (bwE T).N (bwE T).np S4 W5 { blks:=[],val:=λ_=>none,fix:=fx } (slF [(3,intP ((m:Int)-1-j))]) a5 W5 S4 (λ_=>undef):=
    Dg qF.1 qF.2.1 (λ_=>rfl) (fq _ _ _ J5) (Di (λx hx=>by
     simp only[ke]at hx;subst hx;exact hint RB)) (kM qF)
   refine wpIn_mono (JN hT nf (Dh _) (e2 _)) ?_
   rintro e a6 W6 ⟨rfl,σ6,S6,γ6,u7,hk6⟩
   have J6:=Ao u7 (Rx hk6);rw[ai (by omega) (by omega)]at J6;refine⟨⟨iX u7,j+1,S4,by omega,aC _ _ _ _ _ (vA u7) (same J5 (vA u7)) J5,?_⟩,?_⟩
   .rw[J6];congr 1;push_cast;omega
   .simp only[μ,J6,h3];omega
  .refine rest false W4 (λ_ _=>False) (λ_ _ h=>h.elim) (λa5 W5 qF F5 J4 RB=>?_);refine wpIn_cond_true (c:= .tmp 18) J4 (wpIn_ret ?_);exact dt qF.2.1 (.inr (xa _ _ F5 hx4))
end
def xF:Code->List (Nat×Array Oper)
 |.seq x y=>xF x++xF y
 |.cond _ x y=>xF x++xF y
 |.block _ c=>xF c
 |.loop c=>xF c
 |.region id ops _=>[(id,ops)]
 |_=>[]
def bwA(fn:Func)(i:Nat):Array Oper:=(((xF (fn.body.getD .skip)).find? λx=>x.1==i).getD (0, #[])).2
def opAt(A:Array Oper)(i:Nat):Oper:=(A[i]?).getD default
def J7(o:Oper):Call:=match o.op with
 |.call c=>c
 |_=>default
theorem jA8{P:Program}{T:Nat->Option TyI}(hT:cB P T){f:Nat}{t:Ty}{fn:Func}(hf:P.funcs[f]? = some fn){A0 A1 A2 A3:Array Oper}
  (hb:fn.body=some ((Code.region 0 A0 false).seq (Code.block 0 ((((Code.region 1 A1 false).seq (Code.cond (.tmp 8) .skip (.exit 0))).seq ((Code.block 1 ((Code.region 3 A3 false).seq (Code.cond (.tmp 18) .ret .skip))).seq (Code.region 2 A2 false))).loop))))
  (hA:A3=(opAt A3 0::((A3.toList.drop 1).take 5++[opAt A3 6,opAt A3 7])).toArray)
  (JP : fn.ntmps = 19) (kJ : fn.results = #[]) (bW : (fn.name == "runtime.NumGoroutine") = false) (Ap : ((A3.toList.drop 1).take 5).length = 5) (dO : (opAt A3 0 :: ((A3.toList.drop 1).take 5 ++ [opAt A3 6, opAt A3 7])).all (fun o => o.guard.isNone) = true)
  (xA:(opAt A3 0).op = .move (.tmp 0))(JQ:(opAt A3 0).dst=some 11)(xB:(opAt A3 6).op = .call (J7 (opAt A3 6)))(JR:(J7 (opAt A3 6)).callee = .value (.tmp 11))(F3:(J7 (opAt A3 6)).args = #[.tmp 12,.tmp 16]/\(opAt A3 6).dst=some 17)
  (e0:∀xs:List t.den,oJ (bwE T) A0 (slF [(1,lstP t xs)]) g3=some (w64 (Int.ofNat (List.length xs)-1)))
  (e1:∀i:Int,oJ (bwE T) A1 (slF [(3,intP i)]) g1=some (decide (i>=0),i))
  (e2:∀i:Int,oJ (bwE T) A2 (slF [(3,intP i)]) g3=some (w64 (i-1)))
  (e3:∀(xs:List t.den)(i:Int),oI (bwE T) ((A3.toList.drop 1).take 5) (slF [(1,lstP t xs),(3,intP i)]) (g16 t)=cond (inR i (List.length xs)) (some (i,List.getD xs (Int.toNat i) t.dflt,i)) none)
  (e7:∀(b:Bool)(i:Int),oI (bwE T) [opAt A3 7] (slF [(17,.one (.d .bool b)),(3,intP i)]) g18=some (!b,i)):BwOK P f t:=by
 rw[hA]at hb;exact jBm hT hf hb JP kJ bW Ap dO xA JQ xB JR F3.1 F3.2 e0 e1 e2 e3 e7
section
variable{S0:aF}{w0:World}{refs:Refs}
def g7(σ:St):Option (Bool×Int):=match σ.sl 7,σ.sl 3 with
 |.one (.one (.d .bool b)),.one (.one (.d (.int .i64) v))=>some (b,v)
 |_,_=>none
theorem Grew.trans{w w' wx:World}(h:Grew w w')(h':Grew w' wx):Grew w wx:=
 ⟨λg hg=>(h'.old g (qk hg h.size)).trans (h.old g hg),qg h.size h'.size,h'.os.trans h.os,h'.tape.trans h.tape,h'.output.trans h.output⟩
end
open Go.RowKit Go.WideShapes Go.ChangeShapes
theorem jv6{P:Program}{f:Nat}{ps:List APat}{ts:List Ty}{F:HL ts->Option Bool}(bH:Con.OK P ⟨f,ps,ts,⟨[.v .bool],[]⟩,[.bool],F⟩)(h:HL ts)(hF:F h=some true)
  (w:World)(S:aF)(vals:List Value)(ha:All2 (mV S w) (o5 ps ts h) vals)(hr:dX (o5 ps ts h) vals=[])(hS:∀g o,S g o->g<w.heap.size)(hu:FW ps ts (o5 ps ts h)=some h) :
  Calls P f vals.toArray w λe w'=>e = .returned (.bool true)/\Below w.heap.size w w':=by
 have:=(bH (o5 ps ts h) Ret some (qA ⟨[.v .bool],[]⟩ [.bool] true) (by
  unfold Con.C;rw[hu];show (F h).bind _=_;rw[hF];rfl)).2
 refine(this w S vals ha (by rw[hr];exact zi) hS).mono ?_
 rintro e w' ⟨ret,cq,v,S',vs,rfl,bH⟩
 simp only[j4]at cq;subst cq;have bq:All2 (oT S' w') [.v ⟨.bool,true⟩] vs:=bH.rep;refine⟨?_,bH.os,bH.tape,bH.output,bH.grow,λk hk=>bH.below k hk (by rw[hr];simp)⟩;rw[bH.val];match vs,bq with
 |[u],bq=>have h1:=bq.1;have h2:u.cells.toList=[.bool true]/\(gL Ty.bool=true->∃cs,u=Value.agg cs)/\(gL Ty.bool=false->One u):=h1;have h3:=zQ (h2.2.2 rfl);rw[h2.1]at h3;simp only[List.cons.injEq,and_true]at h3;rw[<-h3];rfl
 |[],bq=>exact absurd bq (by simp[All2])
 |_::_::_,bq=>exact absurd bq (by simp[All2])
theorem jos{H:Type}{enc:TypeId×Value->H}{P:Program}{f:Func}{s:ChangeSpec}{apart fresh handsOn again:Bool}{W W':World}{args:Array Value}{v:Value}{ds gs:List (DataW H)}{before pa pv:List MemPlace}
  (hW:DataW.Whole enc P f.params.toList s.vars apart W args.toList ds gs before)
  (kJ:∀(b:Nat)(sp:Nat->Bool)(hd:Bool),DataW.TrodAll enc P W' b sp hd f.resultTypes.toList (v.resultList f.resultTypes.size) (s.fn H (ds++gs)).results [])
  (dh:∀sp:Nat->Bool,(∀p∈before,sp p.block=true)->DataW.TrodAll enc P W' 0 sp true f.params.toList args.toList (s.fn H (ds++gs)).args pa)
  (vB:∀sp:Nat->Bool,(∀p∈before,sp p.block=true)->DataW.TrodVars enc P W' sp s.vars (s.fn H (ds++gs)).vars pv)
  (gG:before=pa++pv)(hb:Below W.heap.size W W')
  (bH:∀(j:Nat)(t:TypeId)(r:Value),f.resultTypes[j]? = some t->(v.resultList f.resultTypes.size)[j]? = some r->Value.okWide P W' .any 0 t r) :
  s.post enc P f apart fresh handsOn again W args v W':=by
 have aq:∀p∈before,p.block<W.heap.size:=λp hp=>hW.lt p hp;have hold:∀p∈before,(λb=>decide (b<W.heap.size)) p.block=true:=λp hp=>by simpa using aq p hp
 refine⟨ds,gs,before,[],pa,pv,hW,kJ _ _ _,dh _ hold,vB _ hold,World.keptBut_mono (λp hp=>⟨hp,?_⟩) (hb.frame (· ∈ before)),λ_=>?_⟩
 .rw[gG,jn]at hp;exact Or.inr hp
 .obtain⟨_,_,_,_,_,hz,hn⟩:=hW;refine⟨bH,_,_,([]++pa)++pv,⟨[]++pa,pv,trodAll_append (dh _ (λ_ _=>rfl)) (kJ _ _ _),vB _ (λ_ _=>rfl),rfl,?_,?_⟩,?_⟩
  .intro b off hp;have nW:MemPlace.cell b off∈before:=by rw[gG];simpa using hp
   rw[hb.frozen (aq _ nW)];exact hz b off nW
  .intro ha;have:=hn ha;rw[gG]at this;simpa using this
  .intro p hp _;rw[gG];simpa using hp
open Go.RowKit Go.WideShapes Go.ChangeShapes
def vC(P:Program)(f:TypeId->Ty->Bool):List Field->Nat->Ty->Bool
 |[],_,_=>false
 |[x],off,b=>decide (x.offset=off)&&decide (P.cellsOf x.type=b.size)&&f x.type b
 |x::y::r,off,.pair a b=>decide (x.offset=off)&&decide (P.cellsOf x.type=a.size)&&f x.type a&&vC P f (y::r) (off+a.size) b
 |_,_,_=>false
def nX(P:Program):Nat->TypeId->Ty->Bool
 |0,_,_=>false
 |n+1,t,ty=>match P.underlying t with
  |some (.int k)=>decide (ty = .int k)
  |some .bool=>decide (ty = .bool)
  |some .string=>decide (ty = .str)
  |some (.slice e)=>match ty with
   |.list a=>nX P n e a&&decide (P.cellsOf e=a.size)&&decide (0<a.size)
   |_=>false
  |some (.struct fs)=>decide (P.cellsOf t=ty.size)&&match fs.toList,ty with
   |[x],.wrap a=>vC P (nX P n) [x] 0 a
   |x::y::r,.pair a b=>vC P (nX P n) (x::y::r) 0 (.pair a b)
   |_,_=>false
  |_=>false
def Wf:(t:Ty)->t.den->Prop
 |.int k,n=>(Lit.int k n).wf=true
 |.bool,_=>True
 |.str,s=>s.size<=maxLen
 |.unit,_=>True
 |.wrap a,v=>Wf a v
 |.pair a b,v=>Wf a v.1/\Wf b v.2
 |.list a,xs=>List.length xs<=maxLen/\∀x∈(show List a.den from xs),Wf a x
 |.arr _ _,_=>True
theorem F6{α β:Type}{f:α->Option β}:∀{l:List α}{ys:List β},l.mapM f=some ys->ys.length=l.length/\∀(i:Nat)(x:α),l[i]? = some x->∃y,ys[i]? = some y/\f x=some y
 |[],ys,h=>by
  simp at h;subst h;exact⟨rfl,λi x hx=>by simp at hx⟩
 |a::l,ys,h=>by
  rw[z8]at h;cases ha:f a with
  |none=>simp[ha]at h
  |some y=>
   cases hl:l.mapM f with
   |none=>simp[ha,hl]at h
   |some zs=>
    simp[ha,hl]at h;subst h;obtain⟨h1,h2⟩:=F6 hl;refine⟨by simp[h1],λi x hx=>?_⟩;cases i with
    |zero=>simp at hx;subst hx;exact⟨y,rfl,ha⟩
    |succ i=>simp at hx;obtain⟨z,hz,hf⟩:=h2 i x hx;exact⟨z,by simpa using hz,hf⟩
theorem RC{α β:Type}{f:α->Option β}:∀{l:List α}{ys:List β},ys.length=l.length->(∀(i:Nat)(x:α),l[i]? = some x->f x=ys[i]?)->l.mapM f=some ys
 |[],ys,h,_=>by
  have:ys=[]:=jy (by simpa using h);subst this;rfl
 |a::l,[],h,_=>by simp at h
 |a::l,y::ys,h,hg=>by
  have h0:f a=some y:=by simpa using hg 0 a rfl
  rw[z8,h0,RC (ys:=ys) (by simpa using h) (λi x hx=>by simpa using hg (i+1) x (by simpa using hx))];rfl
theorem F7{α β:Type}{f g:α->Option β}:∀{l:List α}{ys:List β},l.mapM f=some ys->(∀x∈l,∀y,y∈ys->f x=some y->g x=some y)->l.mapM g=some ys
 |[],ys,h,_=>by simpa using h
 |a::l,ys,h,hk=>by
  rw[z8]at h ⊢;cases ha:f a with
  |none=>simp[ha]at h
  |some y=>
   cases hl:l.mapM f with
   |none=>simp[ha,hl]at h
   |some zs=>simp[ha,hl]at h;subst h;rw[hk a (by simp) y (by simp) ha,F7 hl (λx hx z hz hf=>hk x (by simp[hx]) z (by simp[hz]) hf)];rfl
theorem RD{α:Type}{Q:Nat->α->Prop}:∀n,(∀i,i<n->∃x,Q i x)->∃xs:List α,xs.length=n/\∀i x,xs[i]? = some x->Q i x
 |0,_=>⟨[],rfl,λi x h=>by simp at h⟩
 |n+1,h=>by
  obtain⟨xs,hl,hx⟩:=RD n (λi hi=>h i (by omega));obtain⟨x,hq⟩:=h n (by omega);refine⟨xs++[x],by simp[hl],λi y hy=>?_⟩;rcases qv i n with hi|hi
  .rw[List.getElem?_append_left (by omega)]at hy;exact hx i y hy
  .have:i=n:=by have:=(jw.1 hy).1;simp[hl]at this;omega
   subst this;rw[k5 (by omega),hl,Nat.sub_self]at hy;simp at hy;subst hy;exact hq
theorem RE{α β:Type}{R:α->β->Prop}:∀{as:List α}{bs:List β},as.length=bs.length->(∀(i:Nat)(a:α)(b:β),as[i]? = some a->bs[i]? = some b->R a b)->All2 R as bs
 |[],[],_,_=>trivial
 |a::as,b::bs,hl,h=>⟨h 0 a b rfl rfl,RE (by simpa using hl) λi x y hx hy=>h (i+1) x y (by simpa using hx) (by simpa using hy)⟩
 |[],_::_,hl,_=>by simp at hl
 |_::_,[],hl,_=>by simp at hl
theorem RF{m:Nat}:∀{css:List (List Value)},(∀c∈css,c.length=m)->∀{j:Nat}{v:Value},css.flatten[j]? = some v->∃i r c,j=i*m+r/\r<m/\css[i]? = some c/\c[r]? = some v
 |[],_,j,v,h=>by simp at h
 |c::css,hl,j,v,h=>by
  simp only[q7]at h;have hc:=hl c (by simp);rcases qv j c.length with hj|hj
  .rw[List.getElem?_append_left hj]at h;exact⟨0,j,c,by omega,by omega,rfl,h⟩
  .rw[k5 hj]at h;obtain⟨i,r,c',e,hr,hi,hv⟩:=RF (λx hx=>hl x (by simp[hx])) h;exact⟨i+1,r,c',by rw[Nat.add_mul];omega,hr,by simpa using hi,hv⟩
def Ext(W W':World):Prop:=∀(k:Nat) x,W.heap[k]? = some x->W'.heap[k]? = some x
theorem Ext.cell{W W':World}(h:Ext W W'){a:Addr}{v:Value}(hc:W.cell? a=some v):W'.cell? a=some v:=by
 unfold World.cell? at hc ⊢;split at hc
 .rename_i c _ _ hb;rw[h _ _ hb];exact hc
 .simp at hc
theorem Ext.cells{W W':World}(h:Ext W W'){a:Addr}{n:Nat}{cs:List Value}(hc:W.cells? 0 a n=some cs):W'.cells? 0 a n=some cs:=by
 unfold World.cells? at hc ⊢;simp only[kc,if_true]at hc ⊢;exact F7 hc λi _ y _ hf=>h.cell hf
theorem J8{W:World}{a:Addr}{n:Nat}{cs:List Value}(hc:W.cells? 0 a n=some cs):cs.length=n/\∀i v,cs[i]? = some v->W.cell? (a.add i)=some v:=by
 unfold World.cells? at hc;simp only[kc,if_true]at hc;obtain⟨h1,h2⟩:=F6 hc;simp only[List.length_range]at h1;refine⟨h1,λi v hv=>?_⟩;have hi:i<n:=by rw[<-h1];exact(jw.1 hv).1
 obtain⟨y,hy,hf⟩:=h2 i i (by simp[hi]);rw[hv]at hy;simp at hy;subst hy;exact hf
theorem RG{W:World}{a:Addr}{v:Value}(h:W.cell? a=some v):a.block<W.heap.size/\a.spot=none:=by
 unfold World.cell? at h;split at h
 .rename_i c _ _ hb;refine⟨(jm.1 hb).1,?_⟩;split at h
  .simp at h
  .rename_i hs;simpa using hs
 .simp at h
def oldS(W:World):aF:=λg _=>g<W.heap.size
def Dm{H:Type}(enc:TypeId×Value->H)(P:Program)(W:World)(held:Bool)(fuel:Nat)(t:TypeId)(ty:Ty)(cs:List Value)(d:DataW H)(ps:List MemPlace):Prop:=
 cs.length=ty.size/\(∃v:ty.den,Rep (oldS W) W ty v cs/\Wf ty v)/\
  ∀W' sp,Ext W W'->(∀q∈ps,sp q.block=true)->DataW.trod enc P W' 0 sp held fuel t cs=some (d,ps)
section
variable{H:Type}{enc:TypeId×Value->H}{P:Program}{W:World}{held:Bool}
theorem jv9{a:Addr}{n:Nat}(hn:0<n):∃q∈MemPlace.row a n,q.block=a.block:=
 ⟨.cell a.block (a.off+0),ju.2 ⟨0,by simp[hn],rfl⟩,rfl⟩
theorem jrp{n:Nat}{t e:TypeId}{el:Ty}(hu:P.underlying t=some (.slice e))(bZ:P.cellsOf e=el.size)(bP:0<el.size){fuel:Nat}{cs:List Value}{d:DataW H}{ps:List MemPlace}
  (ih:∀(m:Nat)(cs:List Value)(d:DataW H)(ps:List MemPlace),DataW.trod enc P W 0 (λ_=>true) held m e cs=some (d,ps)->Dm enc P W held m e el cs d ps)
  (h:DataW.trod enc P W 0 (λ_=>true) held fuel t cs=some (d,ps)):Dm enc P W held fuel t (.list el) cs d ps:=by
 cases fuel with
 |zero=>simp[DataW.trod]at h
 |succ m=>
  have h':=h;unfold DataW.trod at h;rw[hu]at h;split at h;all_goals (try (rename_i heq _;simp at heq;done))
  all_goals (try (rename_i heq;simp at heq;done))
  .rename_i heq;refine⟨rfl,⟨[],⟨none,0,rfl,jg _,kc _,λ_=>rfl,λb hb=>by simp at hb⟩,⟨kc _,by simp⟩⟩,λW' sp _ _=>?_⟩;unfold DataW.trod;rw[hu];exact h
  .rename_i e' a len cap heq;simp only[j4,TypeDesc.slice.injEq]at heq;subst heq;simp only[kc,qi,if_true]at h;split at h
   .rename_i hc;cases hQ:(List.range len).mapM (λi=>(W.cells? 0 (a.add (i*P.cellsOf e)) (P.cellsOf e)).bind (DataW.trod enc P W 0 (λ_=>true) held m e)) with
    |none=>rw[hQ]at h;simp at h
    |some elems=>
     rw[hQ]at h;simp only[j3]at h;cases F8:(List.range (cap-len)).mapM (λj=>(W.cells? 0 (a.add ((len+j)*P.cellsOf e)) (P.cellsOf e)).bind (DataW.trod enc P W 0 (λ_=>true) held m e)) with
     |none=>rw[F8]at h;simp at h
     |some rest=>
      rw[F8]at h;simp only[kx,j4,j8]at h;obtain⟨rfl,rfl⟩:=h;obtain⟨l1,g1⟩:=F6 hQ;obtain⟨l2,g2⟩:=F6 F8;simp only[List.length_range]at l1 l2
      have one:∀i y,(W.cells? 0 (a.add (i*P.cellsOf e)) (P.cellsOf e)).bind (DataW.trod enc P W 0 (λ_=>true) held m e)=some y->∃c,W.cells? 0 (a.add (i*P.cellsOf e)) (P.cellsOf e)=some c/\Dm enc P W held m e el c y.1 y.2:=by
       intro i y hy;cases hc:W.cells? 0 (a.add (i*P.cellsOf e)) (P.cellsOf e) with
       |none=>rw[hc]at hy;simp at hy
       |some c=>rw[hc]at hy;exact⟨c,rfl,ih m c y.1 y.2 hy⟩
      refine⟨rfl,?_,?_⟩
      .have each:∀i,i<len->∃x:el.den×List Value,W.cells? 0 (a.add (i*P.cellsOf e)) (P.cellsOf e)=some x.2/\Rep (oldS W) W el x.1 x.2/\Wf el x.1:=by intro i hi;obtain⟨y,hy,hf⟩:=g1 i i (by simp[hi]);obtain⟨c,gy,_,⟨v,hv,hw⟩,_⟩:=one i y hf;exact⟨(v,c),gy,hv,hw⟩
       obtain⟨xs,mU,fW⟩:=RD len each;have Dn:∀c∈xs.map (·.2),c.length=P.cellsOf e:=by intro c hc;obtain⟨x,hx,rfl⟩:=ju.1 hc;obtain⟨i,hi⟩:=za.1 hx;exact(J8 (fW i x hi).1).1
       refine⟨xs.map (·.1),?_,?_⟩
       .refine⟨some a,cap,by simp[mU],by simp[mU,hc.1],hc.2,by simp,λb hb=>?_⟩;simp only[j4]at hb;subst hb;have vD:len≠0->a.spot=none:=by intro hl;obtain⟨x,hx⟩:∃x,xs[0]? = some x:=⟨xs[0],jj (by omega)⟩;obtain⟨k1,k2⟩:=J8 (fW 0 x hx).1;obtain⟨v,hv⟩:∃v,x.2[0]? = some v:=⟨x.2[0],jj (by omega)⟩;have:=(RG (k2 0 v hv)).2;simpa[Addr.add]using this
        refine⟨λba=>vD (λh0=>ba (by rw[List.map_eq_nil_iff];exact jy (by omega))),xs.map (·.2),RE (by simp) (λi x c hx hc=>?_),λj v hv=>?_⟩
        .simp only[qm,Option.map_eq_some_iff]at hx hc;obtain⟨y,hy,rfl⟩:=hx;obtain⟨z,hz,rfl⟩:=hc;rw[hy]at hz;simp at hz;subst hz;exact(fW i y hy).2.1
        .obtain⟨i,r,c,hj,hr,mb,pL⟩:=RF Dn hv;simp only[qm,Option.map_eq_some_iff]at mb;obtain⟨x,hx,rfl⟩:=mb;have cT:=(J8 (fW i x hx).1).2 r v pL;have lE:i<len:=by rw[<-mU];exact(jw.1 hx).1
         have hs:=vD (by omega);have wM:(a.add (i*P.cellsOf e)).add r=⟨a.block,a.off+j,none⟩:=by obtain⟨g,o,s⟩:=a;simp only at hs;subst hs;simp only[Addr.add];split<;>split<;>simp<;>omega
         rw[wM]at cT;exact⟨(RG cT).1,cT⟩
       .refine⟨by simp only[kb,mU];omega,λx hx=>?_⟩;obtain⟨y,hy,rfl⟩:=ju.1 hx;obtain⟨i,hi⟩:=za.1 hy;exact(fW i y hi).2.2
      .intro W' sp hE cH
       have keep:∀i y,y∈elems++rest->(W.cells? 0 (a.add (i*P.cellsOf e)) (P.cellsOf e)).bind (DataW.trod enc P W 0 (λ_=>true) held m e)=some y->
         (W'.cells? 0 (a.add (i*P.cellsOf e)) (P.cellsOf e)).bind (DataW.trod enc P W' 0 sp held m e)=some y:=by
        intro i y hy hf;obtain⟨c,gy,_,_,hk⟩:=one i y hf;rw[hE.cells gy];exact hk W' sp hE (λq hq=>cH q (kv _ (zk.2 ⟨y,hy,hq⟩)))
       unfold DataW.trod;rw[hu];simp only[kc,qi];rw[if_pos hc,F7 hQ (λi _ y hy hf=>keep i y (kj _ hy) hf)];simp only[j3]
       have cL:(if sp a.block=true then (List.range (cap-len)).mapM (λj=>(W'.cells? 0 (a.add ((len+j)*P.cellsOf e)) (P.cellsOf e)).bind (DataW.trod enc P W' 0 sp held m e)) else some [])=some rest:=by
        split
        .exact F7 F8 (λj _ y hy hf=>keep (len+j) y (kv _ hy) hf)
        .rename_i hsf;rcases Nat.eq_zero_or_pos ((elems.length+rest.length)*P.cellsOf e) with h0|h0
         .have:rest=[]:=by
           rcases Nat.mul_eq_zero.1 h0 with h|h
           .exact jy (by omega)
           .omega
          rw[this]
         .obtain⟨q,hq,hb⟩:=jv9 (a:=a) h0;have:=cH q (kj _ hq);rw[hb]at this;exact absurd this hsf
       rw[cL];rfl
   .simp at h
  .simp at h
theorem Dp{n m:Nat}(ih:∀(t:TypeId)(ty:Ty),nX P n t ty=true->∀(cs:List Value)(d:DataW H)(ps:List MemPlace),DataW.trod enc P W 0 (λ_=>true) held m t cs=some (d,ps)->Dm enc P W held m t ty cs d ps)(cs:List Value) :
  ∀(fs:List Field)(off:Nat)(ty:Ty)(xs:List (DataW H×List MemPlace)),vC P (nX P n) fs off ty=true->cs.length=off+ty.size->
   fs.mapM (λf=>DataW.trod enc P W 0 (λ_=>true) held m f.type ((cs.drop f.offset).take (P.cellsOf f.type)))=some xs->
   (∃v:ty.den,Rep (oldS W) W ty v (cs.drop off)/\Wf ty v)/\
    ∀W' sp,Ext W W'->(∀q∈xs.flatMap (·.2),sp q.block=true)->fs.mapM (λf=>DataW.trod enc P W' 0 sp held m f.type ((cs.drop f.offset).take (P.cellsOf f.type)))=some xs
 |[],_,_,_,hc,_,_=>by simp[vC]at hc
 |[f],off,ty,xs,hc,hl,hm=>by
  simp only[vC,jb,jo]at hc;obtain⟨⟨ho,hz⟩,hc⟩:=hc;rw[z8]at hm;cases hf:DataW.trod enc P W 0 (λ_=>true) held m f.type ((cs.drop f.offset).take (P.cellsOf f.type)) with
  |none=>simp[hf]at hm
  |some y=>simp[hf]at hm;subst hm;obtain⟨_,hv,hk⟩:=ih f.type ty hc _ y.1 y.2 hf;rw[ho,hz,List.take_of_length_le (by simp;omega)]at hv;refine⟨hv,λW' sp hE cH=>?_⟩;rw[z8,hk W' sp hE (λq hq=>cH q (by simpa using hq))];rfl
 |f::g::r,off,ty,xs,hc,hl,hm=>by
  cases ty with
  |pair a b=>
   simp only[vC,jb,jo]at hc;obtain⟨⟨⟨ho,hz⟩,hc⟩,hr⟩:=hc;rw[z8]at hm;cases hf:DataW.trod enc P W 0 (λ_=>true) held m f.type ((cs.drop f.offset).take (P.cellsOf f.type)) with
   |none=>simp[hf]at hm
   |some y=>
    cases cL:(g::r).mapM (λf=>DataW.trod enc P W 0 (λ_=>true) held m f.type ((cs.drop f.offset).take (P.cellsOf f.type))) with
    |none=>rw[hf,cL]at hm;simp at hm
    |some ys=>
     rw[hf,cL]at hm;simp at hm;subst hm;have kC:cs.length=off+(a.size+b.size):=hl;obtain⟨lG,⟨v,hv,hw⟩,hk⟩:=ih f.type a hc _ y.1 y.2 hf;obtain⟨⟨v2,I0,RH⟩,gq⟩:=Dp ih cs (g::r) (off+a.size) b ys hr (by omega) cL;rw[ho,hz]at hv;refine⟨⟨(v,v2),⟨(cs.drop off).take a.size,cs.drop (off+a.size),?_,hv,I0⟩,hw,RH⟩,λW' sp hE cH=>?_⟩
     .rw[<-List.drop_drop,ki]
     .rw[z8,hk W' sp hE (λq hq=>cH q (by simp[hq])),gq W' sp hE (λq hq=>cH q (by simp at hq ⊢;exact .inr hq))];rfl
  |_=>simp[vC]at hc
theorem RI:∀(n:Nat)(t:TypeId)(ty:Ty),nX P n t ty=true->∀(fuel:Nat)(cs:List Value)(d:DataW H)(ps:List MemPlace),DataW.trod enc P W 0 (λ_=>true) held fuel t cs=some (d,ps)->
  Dm enc P W held fuel t ty cs d ps
 |0,_,_,hc,_,_,_,_,_=>by simp[nX]at hc
 |n+1,t,ty,hc,fuel,cs,d,ps,h=>by
  have ih:=RI n;cases fuel with
  |zero=>simp[DataW.trod]at h
  |succ m=>
  have mP:=hc;unfold nX at hc;split at hc
  .rename_i k hu;have:=q8 hc;subst this;obtain⟨z,rfl,hx,hw⟩:=DataW.trod_int hu h;refine⟨rfl,⟨z,rfl,hw⟩,λW' sp _ _=>?_⟩;simp only[j8]at hx;rw[hx.1,hx.2];exact trod_int_mk m hu hw
  .rename_i hu;have:=q8 hc;subst this;obtain⟨z,rfl,hx⟩:=DataW.trod_bool hu h;refine⟨rfl,⟨z,rfl,trivial⟩,λW' sp _ _=>?_⟩;unfold DataW.trod at h ⊢;rw[hu]at h ⊢;exact h
  .rename_i hu;have:=q8 hc;subst this;obtain⟨z,rfl,hx,hw⟩:=DataW.trod_string hu h;refine⟨rfl,⟨z,rfl,hw⟩,λW' sp _ _=>?_⟩;unfold DataW.trod at h ⊢;rw[hu]at h ⊢;exact h
  .rename_i e hu;split at hc
   .rename_i a;simp only[jb,jo]at hc;exact jrp (n:=n) hu hc.1.2 hc.2 (λm cs d ps h=>ih e a hc.1.1 m cs d ps h) h
   .simp at hc
  .rename_i fs hu;simp only[jb,jo]at hc;obtain⟨bZ,hc⟩:=hc
   have J9:cs.length=P.cellsOf t/\∃xs,fs.toList.mapM (λf=>DataW.trod enc P W 0 (λ_=>true) held m f.type ((cs.drop f.offset).take (P.cellsOf f.type)))=some xs/\d = .agg (xs.map (·.1))/\ps=xs.flatMap (·.2):=by
    obtain⟨xs,m',e1,e2,e3,e4,e5⟩:=DataW.trod_struct hu h;have:m'=m:=by omega
    subst this;simp only[j8]at e2;exact⟨e3,xs,RC (by simpa using e4) (λi x hx=>e5 i x (by simpa using hx)),e2.1,e2.2⟩
   obtain⟨hl,xs,hm,rfl,rfl⟩:=J9
   have mk:∀W' sp,fs.toList.mapM (λf=>DataW.trod enc P W' 0 sp held m f.type ((cs.drop f.offset).take (P.cellsOf f.type)))=some xs->
     DataW.trod enc P W' 0 sp held (m+1) t cs=some (.agg (xs.map (·.1)),xs.flatMap (·.2)):=by
    intro W' sp iL
    exact trod_struct_mk hu hl (by
     first
     |exact iL
     |(intros;exact iL))
   refine⟨by omega,?_,λW' sp hE cH=>?_⟩;all_goals split at hc
   .rename_i x a tx;rw[tx]at hm;obtain⟨⟨v,hv,hw⟩,_⟩:=Dp (λt ty hc cs d ps h=>ih t ty hc m cs d ps h) cs [x] 0 a xs hc (by rw[hl,bZ];simp[Ty.size]) hm;exact⟨v,by simpa[Rep]using hv,hw⟩
   .rename_i x y r a b tx;rw[tx]at hm;obtain⟨⟨v,hv,hw⟩,_⟩:=Dp (λt ty hc cs d ps h=>ih t ty hc m cs d ps h) cs (x::y::r) 0 (.pair a b) xs hc (by omega) hm;exact⟨v,by simpa using hv,hw⟩
   .simp at hc
   .rename_i x a tx;rw[tx]at hm;obtain⟨_,hk⟩:=Dp (λt ty hc cs d ps h=>ih t ty hc m cs d ps h) cs [x] 0 a xs hc (by rw[hl,bZ];simp[Ty.size]) hm;exact mk W' sp (by rw[tx];exact hk W' sp hE cH)
   .rename_i x y r a b tx;rw[tx]at hm;obtain⟨_,hk⟩:=Dp (λt ty hc cs d ps h=>ih t ty hc m cs d ps h) cs (x::y::r) 0 (.pair a b) xs hc (by omega) hm;exact mk W' sp (by rw[tx];exact hk W' sp hE cH)
   .simp at hc
  .simp at hc
end
theorem F9{P:Program}{W:World}{r:Reach}{base:Nat}{t:TypeId}{v:Value}{d:TypeDesc}(hu:P.underlying t=some d)(hd:(∃k,d = .int k)\/d = .bool\/d = .string\/∃e,d = .slice e)(h:Value.okWide P W r base t v):One v:=by
 have hc:Cell.ok P W r base t v:=by unfold Value.okWide at h;rw[hu]at h;rcases hd with⟨k,rfl⟩|rfl|rfl|⟨e,rfl⟩<;>(dsimp only at h;unfold Cell.okWide at h;rw[hu]at h;exact h)
 unfold Cell.ok at hc;rw[hu]at hc;rcases hd with⟨k,rfl⟩|rfl|rfl|⟨e,rfl⟩<;>cases v<;>first|rfl|(exact absurd hc (by simp))
theorem jx0{H:Type}{enc:TypeId×Value->H}{P:Program}{W:World}{n:Nat}{t:TypeId}{ty:Ty}(fg:nX P n t ty=true){r:Reach}{base:Nat}{v:Value}(bH:Value.okWide P W r base t v){d:DataW H}{p:List MemPlace}
  (h:DataW.Trod enc P W 0 (λ_=>true) true t v d p) :
  ∃x:ty.den,mV (oldS W) W (.v ⟨ty,x⟩) v/\Wf ty x/\∀W' sp,Below W.heap.size W W'->(∀q∈p,sp q.block=true)->DataW.Trod enc P W' 0 sp true t v d p:=by
 obtain⟨fuel,h⟩:=h;obtain⟨_,⟨x,hx,hw⟩,hk⟩:=RI n t ty fg fuel _ d p h;refine⟨x,⟨hx,λhm=>?_,λhm=>?_⟩,hw,λW' sp hb cH=>⟨fuel,hk W' sp (λk y hy=>by rw[hb.block k (jm.1 hy).1];exact hy) cH⟩⟩
 .cases n with
  |zero=>simp[nX]at fg
  |succ n=>
   unfold nX at fg;split at fg
   .have:=q8 fg;subst this;simp[gL,Ty.agg]at hm
   .have:=q8 fg;subst this;simp[gL,Ty.agg]at hm
   .have:=q8 fg;subst this;simp[gL,Ty.agg]at hm
   .split at fg
    .simp[gL,Ty.agg]at hm
    .simp at fg
   .rename_i hu;unfold Value.okWide at bH;rw[hu]at bH;obtain⟨cs,dG,_⟩:=bH;exact⟨cs,dG⟩
   .simp at fg
 .cases n with
  |zero=>simp[nX]at fg
  |succ n=>
   unfold nX at fg;split at fg
   .rename_i k hu;exact F9 hu (.inl ⟨k,rfl⟩) bH
   .rename_i hu;exact F9 hu (.inr (.inl rfl)) bH
   .rename_i hu;exact F9 hu (.inr (.inr (.inl rfl))) bH
   .rename_i e hu;exact F9 hu (.inr (.inr (.inr ⟨e,rfl⟩))) bH
   .rename_i hu;simp only[jb]at fg;have h2:=fg.2;split at h2
    .simp[gL,Ty.agg]at hm
    .simp[gL,Ty.agg]at hm
    .simp at h2
   .simp at fg
def OLe{α:Type}(a b:Option α):Prop:=∀r,a=some r->b=some r
theorem OLe.refl{α:Type}(a:Option α):OLe a a:=λ_ h=>h
theorem OLe.none{α:Type}(a:Option α):OLe none a:=λ_ h=>by simp at h
theorem OLe.bind{α β:Type}{a b:Option α}{f g:α->Option β}(h:OLe a b)(h':∀x,OLe (f x) (g x)):OLe (a.bind f) (b.bind g):=by
 intro r hr;cases a with
 |none=>simp at hr
 |some x=>rw[h x rfl];exact h' x r hr
theorem OLe.cond{α:Type}{c:Bool}{a b a' b':Option α}(h:OLe a a')(h':OLe b b'):OLe (cond c a b) (cond c a' b'):=by
 cases c with
 |true=>exact h
 |false=>exact h'
theorem OLe.sumC{α β γ:Type}{x:α ⊕ β}{f f':α->Option γ}{g g':β->Option γ}(h:∀x,OLe (f x) (f' x))(h':∀x,OLe (g x) (g' x)):OLe (sumC x f g) (Lft.sumC x f' g'):=by
 cases x with
 |inl a=>exact h a
 |inr b=>exact h' b
theorem OLe.loopN{α β:Type}{f g:α->Option (α ⊕ β)}(h:∀s,OLe (f s) (g s)):∀(n:Nat)(s:α),OLe (Lft.loopN f n s) (Lft.loopN g n s)
 |0,_=> .none _
 |n+1,s=>by
  intro r hr;simp only[Lft.loopN]at hr ⊢;cases hf:f s with
  |none=>simp[hf]at hr
  |some x=>
   rw[h s x hf];cases x with
   |inl a=>simp only[hf]at hr;exact OLe.loopN h n a r hr
   |inr b=>simpa[hf]using hr
theorem OLe.loop{α β:Type}{f g:α->Option (α ⊕ β)}(n:Nat)(s:α)(h:∀s,OLe (f s) (g s)):OLe (Lft.loopN f n s) (loopOpt g s):=
 λr hr=>Dc (OLe.loopN h n s r hr)
theorem OLe.loopOpt{α β:Type}{f g:α->Option (α ⊕ β)}(s:α)(h:∀s,OLe (f s) (g s)):OLe (Lft.loopOpt f s) (Lft.loopOpt g s):=by
 intro r hr;obtain⟨n,hn⟩:=Dd hr;exact Dc (OLe.loopN h n s r hn)
theorem RJ{α β:Type}{B B':(α->Option β)->α->Option β}(h:∀g g',(∀a,OLe (g a) (g' a))->∀a,OLe (B g a) (B' g' a)):∀n a,OLe (kL B n a) (kL B' n a)
 |0,_=> .none _
 |n+1,a=>h _ _ (RJ h n) a
theorem Ka{α β:Type}{B:(α->Option β)->α->Option β}(h:∀g g',(∀a,OLe (g a) (g' a))->∀a,OLe (B g a) (B g' a)):∀(k n:Nat)(a:α),OLe (kL B n a) (kL B (n+k) a)
 |k,0,a=> .none _
 |k,n+1,a=>by
  rw[show n+1+k=(n+k)+1 by omega];exact h _ _ (Ka h k n) a
theorem OLe.rec{α β:Type}{B B':(α->Option β)->α->Option β}(n:Nat)(a:α)(h:∀g g',(∀a,OLe (g a) (g' a))->∀a,OLe (B g a) (B' g' a))(h':∀g g',(∀a,OLe (g a) (g' a))->∀a,OLe (B' g a) (B' g' a)) :
  OLe (kL B n a) (vz B' a):=by
 intro r hr;have h1:=RJ h n a r hr;refine Ru ⟨n,h1⟩ λm y hy=>?_;have e1:=Ka h' m n a r h1;have e2:=Ka h' n m a y hy;rw[Nat.add_comm m n]at e2;rw[e1]at e2;simpa using e2.symm
theorem oR{α:Type}(a:Option α):OLe a a:=OLe.refl a
theorem oN{α:Type}(a:Option α):OLe none a:=OLe.none a
theorem oB{α β:Type}{a b:Option α}{f g:α->Option β}(h:OLe a b)(h':∀x,OLe (f x) (g x)):OLe (a.bind f) (b.bind g):=OLe.bind h h'
theorem oC{α:Type}{c:Bool}{a b a' b':Option α}(h:OLe a a')(h':OLe b b'):OLe (cond c a b) (cond c a' b'):=OLe.cond h h'
theorem oS{α β γ:Type}{x:α ⊕ β}{f f':α->Option γ}{g g':β->Option γ}(h:∀x,OLe (f x) (f' x))(h':∀x,OLe (g x) (g' x)):OLe (sumC x f g) (Lft.sumC x f' g'):=OLe.sumC h h'
end Go.Lft
