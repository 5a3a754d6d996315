/- MA of arguments and BJ: what is known of them but the data. VC. -/
import Derived.Test.YtjpgjpnfacnmaaaGreatLSLC
import Derived.KernelRfl
import Derived.IntWalk
import Derived.Below
import Derived.ChangeSame
noncomputable section
set_option linter.unusedVariables false
namespace Go.Lft
inductive CPat where
 |v (t:Ty)
 |p (ts:List Ty)
 deriving DecidableEq
inductive LPat where
 |dead|nil
 |d (t:Ty)
 |ol (k:Nat)
 |bp (k c:Nat)
 |ep (k i c:Nat)
 |tl (k:Nat)
 |hd (k:Nat)
 |ip (ts:List Ty)
 |clo (f:Nat) (bF:List CPat)
 deriving DecidableEq
inductive KPat where
 |one (l:LPat)
 |st (ls:List LPat)
 |av (n:Nat) (a:Ty)
 deriving DecidableEq
inductive BPat where
 |free|gone
 |cell (ls:List LPat) (frz:Bool)
 |lst (e:Nat) (a:Ty) (frz:Bool)
 |arr (n:Nat) (a:Ty)
 deriving DecidableEq
inductive IPat where
 |s (c:KPat)
 |b (x:BPat)
 deriving DecidableEq
abbrev iT:Ty:= .int .i64
abbrev sI:IPat:= .s (.one (.d iT))
abbrev sD(t:Ty):IPat:= .s (.one (.d t))
abbrev sO(k:Nat):IPat:= .s (.one (.ol k))
abbrev sB(k c:Nat):IPat:= .s (.one (.bp k c))
abbrev sC(f:Nat)(l:List CPat):IPat:= .s (.one (.clo f l))
inductive APat where
 |v (t:Ty)
 |ref (ts:List Ty)
 |rl (e:Nat) (t:Ty)
 |ip (ts:List Ty)
 |clo (f:Nat) (bF:List CPat)
 |mv (e:Nat) (t:Ty)
 deriving DecidableEq
@[reducible] def HL:List Ty->Type
 |[]=>Unit
 |[t]=>t.den
 |t::t'::ts=>t.den×HL (t'::ts)
def ofHL:(ts:List Ty)->HL ts->List TV
 |[],_=>[]
 |[t],h=>[⟨t,h⟩]
 |t::t'::ts,h=>⟨t,h.1⟩::ofHL (t'::ts) h.2
def toHL:(ts:List Ty)->List TV->Option (HL ts)
 |[],[]=>some ()
 |[t],[x]=>x.to t
 |t::t'::ts,x::xs=>match x.to t with
  |some v=>match toHL (t'::ts) xs with
   |some r=>some (v,r)
   |none=>none
  |none=>none
 |_,_=>none
theorem HN:∀{ts:List Ty}{xs:List TV}{h:HL ts},toHL ts xs=some h->xs=ofHL ts h
 |[],[],_,_=>rfl
 |[],_::_,_,h=>by simp[toHL]at h
 |[_],[],_,h=>by simp[toHL]at h
 |[t],[x],hl,h=>by
  simp only[toHL]at h;rw[ng h];rfl
 |[t],x::y::xs,hl,h=>by simp[toHL]at h
 |_::_::_,[],_,h=>by simp[toHL]at h
 |t::t'::ts,x::xs,hl,h=>by
  simp only[toHL]at h;split at h
  .rename_i v hv;split at h
   .rename_i r hr;simp only[j5]at h;subst h;rw[ng hv,HN hr];rfl
   .simp at h
  .simp at h
def capP:Cap->CPat×List TV
 |.v x=>(.v x.t,[x])
 |.p ls=>(.p (ls.map (·.t)),ls)
def o9:List Cap->List CPat×List TV
 |[]=>([],[])
 |c::cs=>((capP c).1::(o9 cs).1,(capP c).2++(o9 cs).2)
def tv0:TV:=⟨.unit,()⟩
def capF:CPat->List TV->Cap
 |.v _,xs=> .v (xs.headD tv0)
 |.p ts,xs=> .p (xs.take ts.length)
def CPat.n:CPat->Nat
 |.v _=>1
 |.p ts=>ts.length
def BK:List CPat->List TV->List Cap
 |[],_=>[]
 |c::cs,xs=>capF c xs::BK cs (xs.drop c.n)
def BL:List CPat->Nat
 |[]=>0
 |c::cs=>c.n+BL cs
theorem jEb(c:Cap)(r:List TV):capF (capP c).1 ((capP c).2++r)=c/\(capP c).1.n=(capP c).2.length:=by
 cases c with
 |v x=>exact⟨rfl,rfl⟩
 |p ls=>simp[capP,capF,CPat.n]
theorem HO:∀(cs:List Cap)(r:List TV),BK (o9 cs).1 ((o9 cs).2++r)=cs/\BL (o9 cs).1=(o9 cs).2.length
 |[],r=>⟨rfl,rfl⟩
 |c::cs,r=>by
  simp only[o9,BK,BL,jj,jg];have h1:=jEb c ((o9 cs).2++r);have h2:=HO cs r;rw[h1.1,h1.2,yb,h2.1,h2.2];exact⟨rfl,rfl⟩
def tH:Leaf->LPat×List TV
 |.dead=>(.dead,[])
 |.nil=>(.nil,[])
 |.d t v=>(.d t,[⟨t,v⟩])
 |.ol k=>(.ol k,[])
 |.bp k c=>(.bp k c,[])
 |.ep k i c=>(.ep k i c,[])
 |.tl k i=>(.tl k,[⟨.int .i64,(i:Int)⟩])
 |.hd k i=>(.hd k,[⟨.int .i64,(i:Int)⟩])
 |.ip ls=>(.ip (ls.map (·.t)),ls)
 |.clo f bF=>(.clo f (o9 bF).1,(o9 bF).2)
def MB:TV->Nat
 |⟨.int _,v⟩=>Int.toNat v
 |_=>0
def LPat.n:LPat->Nat
 |.d _=>1
 |.tl _=>1
 |.hd _=>1
 |.ip ts=>ts.length
 |.clo _ cs=>BL cs
 |_=>0
def D8:LPat->List TV->Leaf
 |.dead,_=> .dead
 |.nil,_=> .nil
 |.d _,xs=> .d (xs.headD tv0).t (xs.headD tv0).v
 |.ol k,_=> .ol k
 |.bp k c,_=> .bp k c
 |.ep k i c,_=> .ep k i c
 |.tl k,xs=> .tl k (MB (xs.headD tv0))
 |.hd k,xs=> .hd k (MB (xs.headD tv0))
 |.ip ts,xs=> .ip (xs.take ts.length)
 |.clo f cs,xs=> .clo f (BK cs xs)
theorem VD(l:Leaf)(r:List TV):D8 (tH l).1 ((tH l).2++r)=l/\(tH l).1.n=(tH l).2.length:=by
 cases l with
 |ip ls=>simp[tH,D8,LPat.n]
 |clo f cs=>have:=HO cs r;simp only[tH,D8,LPat.n];exact⟨by rw[this.1],this.2⟩
 |_=>exact⟨rfl,rfl⟩
def qZ:List Leaf->List LPat×List TV
 |[]=>([],[])
 |c::cs=>((tH c).1::(qZ cs).1,(tH c).2++(qZ cs).2)
def D9:List LPat->List TV->List Leaf
 |[],_=>[]
 |c::cs,xs=>D8 c xs::D9 cs (xs.drop c.n)
def Ea:List LPat->Nat
 |[]=>0
 |c::cs=>c.n+Ea cs
theorem MC:∀(cs:List Leaf)(r:List TV),D9 (qZ cs).1 ((qZ cs).2++r)=cs/\Ea (qZ cs).1=(qZ cs).2.length
 |[],r=>⟨rfl,rfl⟩
 |c::cs,r=>by
  simp only[qZ,D9,Ea,jj,jg];have h1:=VD c ((qZ cs).2++r);have h2:=MC cs r;rw[h1.1,h1.2,yb,h2.1,h2.2];exact⟨rfl,rfl⟩
def celP:Cel->KPat×List TV
 |.one l=>(.one (tH l).1,(tH l).2)
 |.st ls=>(.st (qZ ls).1,(qZ ls).2)
 |.av n a xs=>(.av n a,[⟨.list a,xs⟩])
def Eb(a:Ty)(xs:List TV):List a.den:=((xs.headD tv0).to (.list a)).getD []
theorem MD(a:Ty)(xs:List a.den)(r:List TV):Eb a (⟨.list a,xs⟩::r)=xs:=by
 simp[Eb,TV.to]
def KPat.n:KPat->Nat
 |.one l=>l.n
 |.st ls=>Ea ls
 |.av _ _=>1
def celF:KPat->List TV->Cel
 |.one l,xs=> .one (D8 l xs)
 |.st ls,xs=> .st (D9 ls xs)
 |.av n a,xs=> .av n a (Eb a xs)
theorem jEc(c:Cel)(r:List TV):celF (celP c).1 ((celP c).2++r)=c/\(celP c).1.n=(celP c).2.length:=by
 cases c with
 |one l=>have:=VD l r;exact⟨by simp only[celP,celF];rw[this.1],this.2⟩
 |st ls=>have:=MC ls r;exact⟨by simp only[celP,celF];rw[this.1],this.2⟩
 |av n a xs=>exact⟨by simp only[celP,celF,zv,jv];rw[MD],rfl⟩
def bsP:BS->BPat×List TV
 |.free=>(.free,[])
 |.gone=>(.gone,[])
 |.live (.cell ls f)=>(.cell (qZ ls).1 f,(qZ ls).2)
 |.live (.lst e a xs f)=>(.lst e a f,[⟨.list a,xs⟩])
 |.live (.arr n a xs)=>(.arr n a,[⟨.list a,xs⟩])
def BPat.n:BPat->Nat
 |.free|.gone=>0
 |.cell ls _=>Ea ls
 |.lst _ _ _=>1
 |.arr _ _=>1
def bsF:BPat->List TV->BS
 |.free,_=> .free
 |.gone,_=> .gone
 |.cell ls f,xs=> .live (.cell (D9 ls xs) f)
 |.lst e a f,xs=> .live (.lst e a (Eb a xs) f)
 |.arr n a,xs=> .live (.arr n a (Eb a xs))
theorem jFz(c:BS)(r:List TV):bsF (bsP c).1 ((bsP c).2++r)=c/\(bsP c).1.n=(bsP c).2.length:=by
 cases c with
 |free=>exact⟨rfl,rfl⟩
 |gone=>exact⟨rfl,rfl⟩
 |live b=>
  cases b with
  |cell ls f=>have:=MC ls r;exact⟨by simp only[bsP,bsF];rw[this.1],this.2⟩
  |lst e a xs f=>exact⟨by simp only[bsP,bsF,zv,jv];rw[MD],rfl⟩
  |arr n a xs=>exact⟨by simp only[bsP,bsF,zv,jv];rw[MD],rfl⟩
def itP:Item->IPat×List TV
 |.s c=>(.s (celP c).1,(celP c).2)
 |.b x=>(.b (bsP x).1,(bsP x).2)
def IPat.n:IPat->Nat
 |.s c=>c.n
 |.b x=>x.n
def itF:IPat->List TV->Item
 |.s c,xs=> .s (celF c xs)
 |.b x,xs=> .b (bsF x xs)
theorem jFA(c:Item)(r:List TV):itF (itP c).1 ((itP c).2++r)=c/\(itP c).1.n=(itP c).2.length:=by
 cases c with
 |s c=>have:=jEc c r;exact⟨by simp only[itP,itF];rw[this.1],this.2⟩
 |b x=>have:=jFz x r;exact⟨by simp only[itP,itF];rw[this.1],this.2⟩
def uU:Snap->List IPat×List TV
 |[]=>([],[])
 |c::cs=>((itP c).1::(uU cs).1,(itP c).2++(uU cs).2)
def HP:List IPat->List TV->Snap
 |[],_=>[]
 |c::cs,xs=>itF c xs::HP cs (xs.drop c.n)
theorem VE:∀(cs:Snap),HP (uU cs).1 (uU cs).2=cs
 |[]=>rfl
 |c::cs=>by
  simp only[uU,HP];have h1:=jFA c (uU cs).2;rw[h1.1,h1.2,yb,VE cs]
def pack(ps:List IPat)(ts:List Ty)(h:HL ts):Snap:=HP ps (ofHL ts h)
def sk(ps:List IPat)(ts:List Ty)(s:Snap):Option (HL ts):=
 if (uU s).1=ps then toHL ts (uU s).2 else none
theorem BM{ps:List IPat}{ts:List Ty}{s:Snap}{h:HL ts}(hs:sk ps ts s=some h):s=pack ps ts h:=by
 unfold sk at hs;split at hs
 .rename_i hp;have:=HN hs;rw[pack,<-this,<-hp,VE]
 .simp at hs
def argP:Arg->APat×List TV
 |.v x=>(.v x.t,[x])
 |.ref ls=>(.ref (ls.map (·.t)),ls)
 |.rl e x=>(.rl e x.t,[x])
 |.ip ls=>(.ip (ls.map (·.t)),ls)
 |.clo f cs=>(.clo f (o9 cs).1,(o9 cs).2)
 |.mv e x=>(.mv e x.t,[x])
def APat.n:APat->Nat
 |.v _=>1
 |.ref ts=>ts.length
 |.rl _ _=>1
 |.ip ts=>ts.length
 |.clo _ cs=>BL cs
 |.mv _ _=>1
def argF:APat->List TV->Arg
 |.v _,xs=> .v (xs.headD tv0)
 |.ref ts,xs=> .ref (xs.take ts.length)
 |.rl e _,xs=> .rl e (xs.headD tv0)
 |.ip ts,xs=> .ip (xs.take ts.length)
 |.clo f cs,xs=> .clo f (BK cs xs)
 |.mv e _,xs=> .mv e (xs.headD tv0)
theorem jEd(c:Arg)(r:List TV):argF (argP c).1 ((argP c).2++r)=c/\(argP c).1.n=(argP c).2.length:=by
 cases c with
 |v x=>exact⟨rfl,rfl⟩
 |rl e x=>exact⟨rfl,rfl⟩
 |mv e x=>exact⟨rfl,rfl⟩
 |ref ls=>simp[argP,argF,APat.n]
 |ip ls=>simp[argP,argF,APat.n]
 |clo f cs=>have:=HO cs r;exact⟨by simp only[argP,argF];rw[this.1],this.2⟩
def uV:List Arg->List APat×List TV
 |[]=>([],[])
 |c::cs=>((argP c).1::(uV cs).1,(argP c).2++(uV cs).2)
def BN:List APat->List TV->List Arg
 |[],_=>[]
 |c::cs,xs=>argF c xs::BN cs (xs.drop c.n)
theorem VF:∀(cs:List Arg),BN (uV cs).1 (uV cs).2=cs
 |[]=>rfl
 |c::cs=>by
  simp only[uV,BN];have h1:=jEd c (uV cs).2;rw[h1.1,h1.2,yb,VF cs]
def ra(ps:List APat)(ts:List Ty)(h:HL ts):List Arg:=BN ps (ofHL ts h)
def HQ(ps:List APat)(ts:List Ty)(s:List Arg):Option (HL ts):=
 if (uV s).1=ps then toHL ts (uV s).2 else none
theorem HR{ps:List APat}{ts:List Ty}{s:List Arg}{h:HL ts}(hs:HQ ps ts s=some h):s=ra ps ts h:=by
 unfold HQ at hs;split at hs
 .rename_i hp;have:=HN hs;rw[ra,<-this,<-hp,VF]
 .simp at hs
theorem VG{α β:Type}{f:α->Option (α ⊕ β)}:∀{n m:Nat}{s:α}{x y:β},loopN f n s=some x->loopN f m s=some y->x=y
 |0,_,_,_,_,h,_=>by simp[loopN]at h
 |_+1,0,_,_,_,_,h=>by simp[loopN]at h
 |n+1,m+1,s,x,y,h,h'=>by
  simp only[loopN]at h h';cases hf:f s with
  |none=>simp[hf]at h
  |some r=>
   cases r with
   |inl s'=>simp only[hf]at h h';exact VG h h'
   |inr z=>simp only[hf,j5]at h h';rw[<-h,<-h']
open Classical in
def loopOpt{α β:Type}(f:α->Option (α ⊕ β))(s:α):Option β:=
 if h:∃x n,loopN f n s=some x then some h.choose else none
theorem Ec{α β:Type}{f:α->Option (α ⊕ β)}{s:α}{n:Nat}{x:β}(h:loopN f n s=some x):loopOpt f s=some x:=by
 unfold loopOpt;have hx:∃x n,loopN f n s=some x:=⟨x,n,h⟩;rw[dif_pos hx];obtain⟨m,hm⟩:=hx.choose_spec;rw[VG hm h]
theorem Ed{α β:Type}{f:α->Option (α ⊕ β)}{s:α}{x:β}(h:loopOpt f s=some x):∃n,loopN f n s=some x:=by
 unfold loopOpt at h;split at h
 .rename_i hx;simp only[j5]at h;obtain⟨m,hm⟩:=hx.choose_spec;exact⟨m,by rw[<-h];exact hm⟩
 .simp at h
theorem jru{α β:Type}{f:α->Option (α ⊕ β)}{s s':α}(h:f s=some (.inl s')):loopOpt f s=loopOpt f s':=by
 cases hq:loopOpt f s' with
 |some x=>obtain⟨n,hn⟩:=Ed hq;exact Ec (n:=n+1) (by simp only[loopN,h];exact hn)
 |none=>
  cases hp:loopOpt f s with
  |none=>rfl
  |some x=>
   obtain⟨n,hn⟩:=Ed hp;cases n with
   |zero=>simp[loopN]at hn
   |succ n=>simp only[loopN,h]at hn;rw[Ec hn]at hq;simp at hq
theorem jtf{α β:Type}{f:α->Option (α ⊕ β)}{s:α}{x:β}(h:f s=some (.inr x)):loopOpt f s=some x:=
 Ec (n:=1) (by simp only[loopN,h])
theorem VH{α β A B:Type}{f:α->Option (α ⊕ β)}{g:A->Option (A ⊕ B)}{p:A->α}{q:B->β}
  (h:∀a r,g a=some r->f (p a)=some (match r with|.inl a'=> .inl (p a')|.inr b=> .inr (q b))):∀{n:Nat}{a:A}{x:B},loopN g n a=some x->loopN f n (p a)=some (q x)
 |0,_,_,hn=>by simp[loopN]at hn
 |n+1,a,x,hn=>by
  simp only[loopN]at hn;cases hg:g a with
  |none=>simp[hg]at hn
  |some r=>
   have:=h a r hg;cases r with
   |inl a'=>simp only[hg]at hn;simp only[loopN,this];exact VH h hn
   |inr b=>simp only[hg,j5]at hn;subst hn;simp only[loopN,this]
def sumC{α β γ:Type}(x:α ⊕ β)(f:α->γ)(g:β->γ):γ:=match x with
 |.inl a=>f a
 |.inr b=>g b
structure XD where
 ex:Ex
 ps:List IPat
 ts:List Ty
@[reducible] def XT:List XD->Type
 |[]=>Empty
 |[x]=>HL x.ts
 |x::y::r=>HL x.ts ⊕ XT (y::r)
def sq:(l:List XD)->XT l->Ex×Snap
 |[],h=>nomatch h
 |[x],h=>(x.ex,pack x.ps x.ts h)
 |x::y::r,h=>match h with
  |.inl a=>(x.ex,pack x.ps x.ts a)
  |.inr b=>sq (y::r) b
def Ee{R:Type}:(l:List XD)->XT l->(Ex->Snap->Option R)->Option R
 |[],_,_=>none
 |[x],h,k=>k x.ex (pack x.ps x.ts h)
 |x::y::r,h,k=>sumC h (λa=>k x.ex (pack x.ps x.ts a)) (λb=>Ee (y::r) b k)
theorem ME{R:Type}:∀(l:List XD)(h:XT l)(k:Ex->Snap->Option R),Ee l h k=k (sq l h).1 (sq l h).2
 |[],h,_=>nomatch h
 |[x],h,k=>rfl
 |x::y::r,h,k=>by
  cases h with
  |inl a=>rfl
  |inr b=>exact ME (y::r) b k
def unX:(l:List XD)->Ex->Snap->Option (XT l)
 |[],_,_=>none
 |[x],e,s=>if e=x.ex then sk x.ps x.ts s else none
 |x::y::r,e,s=>if e=x.ex/\(uU s).1=x.ps then match sk x.ps x.ts s with
   |some a=>some (.inl a)
   |none=>none
  else match unX (y::r) e s with
   |some b=>some (.inr b)
   |none=>none
theorem HS:∀(l:List XD)(e:Ex)(s:Snap)(x:XT l),unX l e s=some x->sq l x=(e,s)
 |[],_,_,_,h=>by simp[unX]at h
 |[x],e,s,h,he=>by
  simp only[unX]at he;split at he
  .rename_i h1;rw[sq,<-BM he,h1]
  .simp at he
 |x::y::r,e,s,h,he=>by
  simp only[unX]at he;split at he
  .rename_i h1;split at he
   .rename_i a ha;simp only[j5]at he;subst he;show (x.ex,pack x.ps x.ts a)=(e,s);rw[<-BM ha,h1.1]
   .simp at he
  .split at he
   .rename_i b hb;simp only[j5]at he;subst he;exact HS (y::r) e s b hb
   .simp at he
structure mN where
 b:Nat
 ps:List IPat
 ts:List Ty
 exits:List XD
 step:HL ts->Option (HL ts ⊕ XT exits)
def uW:List mN->Nat->Snap->(R:Type)->(Ex->Snap->Option R)->Option R
 |[],_,_,_,_=>none
 |d::ds,b,s,R,k=>if d.b=b then match sk d.ps d.ts s with
   |some h=>(loopOpt d.step h).bind λx=>Ee d.exits x k
   |none=>none
  else uW ds b s R k
theorem MF:∀ds:List mN,LFun (uW ds)
 |[]=>λ_ _=>⟨none,λ_ _=>rfl⟩
 |d::ds=>λb s=>by
  simp only[uW];split
  .split
   .rename_i h _;cases hq:loopOpt d.step h with
    |none=>exact⟨none,λ_ _=>rfl⟩
    |some x=>exact⟨some (sq d.exits x),λR k=>ME d.exits x k⟩
   .exact⟨none,λ_ _=>rfl⟩
  .exact MF ds b s
structure MrD where
 b:Nat
 m:Nat
 nm:Nat
 ps:List IPat
 ts:List Ty
 em:Nat
 v:Ty
 G:HL ts->Int->v.den->(R:Type)->(v.den->Option R)->Option R
def mrL:List MrD->Nat->Snap->(R:Type)->(Snap->Option R)->Option R
 |[],_,_,_,_=>none
 |d::ds,b,s,R,k=>if d.b=b then match sk d.ps d.ts s,wa d.em d.v s with
   |some h,some xs=>(qJ (λq z=>d.G h q z d.v.den some) xs).bind λys=>k (gF s d.em d.v ys)
   |_,_=>none
  else mrL ds b s R k
def mrF:List MrD->Nat->Option (Nat×Nat)
 |[],_=>none
 |d::ds,b=>if d.b=b then some (d.m,d.nm) else mrF ds b
theorem MG:∀ds:List MrD,MFun (mrL ds)
 |[]=>λ_ _=>⟨none,λ_ _=>rfl⟩
 |d::ds=>λb s=>by
  simp only[mrL];split
  .split
   .rename_i h xs _ _;cases qJ (λq z=>d.G h q z d.v.den some) xs with
    |none=>exact⟨none,λ_ _=>rfl⟩
    |some ys=>exact⟨some (gF s d.em d.v ys),λ_ _=>rfl⟩
   .exact⟨none,λ_ _=>rfl⟩
  .exact MG ds b s
theorem VI{b m nm:Nat}:∀{ds:List MrD},mrF ds b=some (m,nm)->∃d∈ds,d.b=b/\d.m=m/\d.nm=nm/\∀s R k,mrL ds b s R k=match sk d.ps d.ts s,wa d.em d.v s with
   |some h,some xs=>(qJ (λq z=>d.G h q z d.v.den some) xs).bind λys=>k (gF s d.em d.v ys)
   |_,_=>none
 |[],h=>by simp[mrF]at h
 |d::ds,h=>by
  simp only[mrF]at h;split at h
  .rename_i hb;simp only[j5,j9]at h;refine⟨d,by simp,hb,h.1,h.2,λs R k=>?_⟩;simp only[mrL,hb,if_true]
  .rename_i hb;obtain⟨d',hm,h1,h2,h3,h4⟩:=VI h;refine⟨d',by simp[hm],h1,h2,h3,λs R k=>?_⟩;rw[<-h4];simp only[mrL,hb,zo]
def mrPd(b:Nat)(c:Code):MrP:=(mrP b c).getD ⟨0,0,0,0,0, #[],.skip⟩
structure MH(E:Env)(c:Code)(d:MrD):Prop where
 em:isM d.em=true
 bx:∀h zs,(cJ E.np (E.keep d.b) (gF (pack d.ps d.ts h) d.em d.v zs)).bx d.nm = .live (.lst d.em (.pair (.int .i64) d.v) zs false)
 sl:∀h zs,(cJ E.np (E.keep d.b) (gF (pack d.ps d.ts h) d.em d.v zs)).sl d.m = .one (.one (.ol d.nm))
 step:∀h zs q z (R:Type) (k:Snap->Option R),AP E d.b (mrPd d.b c) d.m (gF (pack d.ps d.ts h) d.em d.v zs) d.v q z k=
  d.G h q z R (λy=>k (gF (pack d.ps d.ts h) d.em d.v (@ea _ _ (Ty.int .i64).keq zs q y)))
theorem jD1(t:Ty)(v:t.den):(TV.mk t v).to t=some v:=by simp[TV.to]
theorem jws(s:Snap)(em:Nat)(v:Ty)(zs:List (Int×v.den)):wa em v (gF s em v zs)=some zs:=by
 unfold wa gF;simp only[y9,vf,Option.some_or,if_true];exact jD1 (.list (.pair (.int .i64) v)) zs
theorem jy9{em:Nat}{v:Ty}{s:Snap}{xs:List (Int×v.den)}(h:wa em v s=some xs):s=gF s em v xs:=by
 unfold wa at h;split at h
 .rename_i e a zs hl;split at h
  .rename_i he;subst he;have:=ng h;cases this;obtain⟨pre,rfl⟩:=List.getLast?_eq_some_iff.1 hl;unfold gF;rw[y8]
  .simp at h
 .simp at h
theorem VJ{α β:Type}{G:α->β->Option β}:∀{xs ys:List (α×β)},qJ G xs=some ys->All2 (λx y=>y.1=x.1/\G x.1 x.2=some y.2) xs ys
 |[],ys,h=>by
  simp only[qJ,j5]at h;subst h;trivial
 |x::r,ys,h=>by
  simp only[qJ]at h;cases hg:G x.1 x.2 with
  |none=>rw[hg]at h;simp at h
  |some z=>
   rw[hg,j4]at h;cases hr:qJ G r with
   |none=>rw[hr]at h;simp at h
   |some r'=>rw[hr,j4,j5]at h;subst h;exact⟨⟨rfl,hg⟩,VJ hr⟩
theorem jD2{E:Env}(hF:CFun E.C)(hz:E.nz=false)(hL:LFun E.L/\MFun E.M){c:Code}{ds:List MrD}{b:Nat}(hm:E.mr=mrF ds)(hM:E.M=mrL ds)(hs:∀d∈ds,d.b=b->MH E c d):MrOK E b c:=by
 intro m nm p hb hp s R k r h;rw[hm]at hb;obtain⟨d,hd,rfl,rfl,rfl,he⟩:=VI hb;have bH:=hs d hd rfl;rw[hM,he]at h;split at h
 case h_2=>simp at h
 rename_i hh xs hu hg;cases hq:qJ (λq z=>d.G hh q z d.v.den some) xs with
 |none=>rw[hq]at h;simp at h
 |some ys=>
 rw[hq,j4]at h;obtain rfl:=BM hu;have hpd:mrPd d.b c=p:=by unfold mrPd;rw[hp];rfl
 refine⟨d.em,d.v,xs,ys,bH.em,jy9 hg,λzs=>⟨bH.bx hh zs,bH.sl hh zs⟩,(VJ hq).mono λx y iw=>⟨iw.1,λzs=>?_⟩,h⟩;obtain⟨o,ho⟩:=jwn hF hz hL d.b p d.m (gF (pack d.ps d.ts hh) d.em d.v []) d.v x.1 x.2;have aM:=λzs R k=>bH.step hh zs x.1 x.2 R k;rw[hpd]at aM
 let inv:Snap->d.v.den:=λs=>match wa d.em d.v s with
  |some ((_,y)::_)=>y
  |_=>d.v.dflt
 have hinv:∀y,inv (gF (pack d.ps d.ts hh) d.em d.v (@ea _ _ (Ty.int .i64).keq [] x.1 y))=y:=λy=>by
  show (match wa d.em d.v _ with
   |some ((_,y)::_)=>y
   |_=>d.v.dflt)=y
  rw[jws];rfl
 have hG:∀(R:Type)(κ:d.v.den->Option R),d.G hh x.1 x.2 R κ=o.bind λs=>κ (inv s):=λR κ=>by
  rw[<-ho];show _=AP E d.b p d.m (gF (pack d.ps d.ts hh) d.em d.v []) d.v x.1 x.2 λs=>κ (inv s);rw[aM];congr 1;funext y;rw[hinv]
 rw[aM,hG];have h2:=iw.2;rw[hG]at h2;cases o with
 |none=>simp at h2
 |some s0=>rw[j4,j5]at h2;rw[j4,h2]
def mrAt(c:Code)(b:Nat):Code:=(((fQ 0 c).find? λx=>Nat.beq x.1 b).getD (0,.skip)).2
def zB(E:Env)(c:Code):List MrD->Prop
 |[]=>True
 |d::ds=>MH E (mrAt c d.b) d/\zB E c ds
theorem zB.get{E:Env}{c:Code}:∀{ds:List MrD},zB E c ds->∀d∈ds,MH E (mrAt c d.b) d
 |[],_,d,h=>by simp at h
 |x::r,hs,d,h=>by
  rcases je.1 h with rfl|h
  .exact hs.1
  .exact zB.get hs.2 d h
theorem VK:∀{l:List (Nat×Code)}{x:Nat×Code},(l.map (·.1)).Nodup->x∈l->l.find? (λy=>Nat.beq y.1 x.1)=some x
 |[],x,_,h=>by simp at h
 |y::r,x,hn,h=>by
  have hc:=qb.1 (show (y.1::r.map (·.1)).Nodup from hn);rcases je.1 h with rfl|h
  .rw[List.find?_cons,Nat.beq_refl]
  .have bk:y.1≠x.1:=λe=>hc.1 (e▸jt.2 ⟨x,h,rfl⟩);rw[List.find?_cons,beqF bk];exact VK hc.2 h
def uk(E:Env)(d:mN)(e:Ex)(σ:St):Option (HL d.ts ⊕ XT d.exits):=
 match e with
 |.normal=>match iP E.np (E.keep d.b) σ with
  |some s=>match sk d.ps d.ts s with
   |some h=>some (.inl h)
   |none=>none
  |none=>none
 |e=>match iP E.np (E.keepX d.b e) σ with
  |some s=>match unX d.exits e s with
   |some x=>some (.inr x)
   |none=>none
  |none=>none
def ukR(E:Env)(d:mN)(ps:Array Nat)(x y:Code)(p:Option (List Item))(e:Ex)(σ:St):Option (HL d.ts ⊕ XT d.exits):=
 match p,e with
 |some q,.normal=>match iP E.np (E.keep d.b) σ with
  |some s=>match sk d.ps d.ts (q++s) with
   |some h=>some (.inl h)
   |none=>none
  |none=>none
 |_,e=>cond (pinK ps x y (E.keepX d.b e)) (match iP E.np (E.keepX d.b e) σ with
  |some s=>match unX d.exits e s with
   |some x=>some (.inr x)
   |none=>none
  |none=>none) none
def jAy(E:Env)(d:mN)(h:HL d.ts):Code->Option (HL d.ts ⊕ XT d.exits)
 |.rangeFunc g ps x y=>CC E d.b g ps x y (pack d.ps d.ts h) (ukR E d ps x y)
 |c=>fV E d.b c (cJ E.np (E.keep d.b) (pack d.ps d.ts h)) (uk E d)
def HT(E:Env)(c:Code)(d:mN):Prop:=∀h,jAy E d h c=d.step h
def outS(d:mN)(r:HL d.ts ⊕ XT d.exits):Snap ⊕ Ex×Snap:=match r with
 |.inl a=> .inl (pack d.ps d.ts a)
 |.inr x=> .inr (sq d.exits x)
theorem jEe{E:Env}(hF:CFun E.C)(hz:E.nz=false)(hL:LFun E.L/\MFun E.M){g:Operand}{ps:Array Nat}{x y:Code}{d:mN}(hs:HT E (.rangeFunc g ps x y) d)(h:HL d.ts)(r:HL d.ts ⊕ XT d.exits):d.step h=some r->
  AO E d.b g ps x y (pack d.ps d.ts h)=some (outS d r):=by
 intro hr;obtain⟨o,ho⟩:=jte hF hz hL d.b g ps x y (pack d.ps d.ts h);rw[<-hs h]at hr;have h1:some r=_:=hr.symm.trans (ho _ (λz=>ukR E d ps x y z.1 z.2.1 z.2.2));cases o with
 |none=>simp at h1
 |some z=>
  obtain⟨p,e,σ⟩:=z;simp only[j4]at h1
  have h2:=ho _ (λz:Option (List Item)×Ex×St=>match z.1,z.2.1 with
   |some q,.normal=>match iP E.np (E.keep d.b) z.2.2 with
    |some s'=>some (Sum.inl (q++s'))
    |none=>none
   |_,e=>cond (pinK ps x y (E.keepX d.b e)) (match iP E.np (E.keepX d.b e) z.2.2 with
    |some s'=>some (Sum.inr (e,s'))
    |none=>none) none)
  have h3:AO E d.b g ps x y (pack d.ps d.ts h)=_:=h2;rw[h3,j4];clear h3 h2 hr ho;dsimp only;have h1:=h1.symm;unfold ukR at h1
  have hx:∀e,(cond (pinK ps x y (E.keepX d.b e)) (match iP E.np (E.keepX d.b e) σ with
    |some s=>match unX d.exits e s with
     |some x=>some (Sum.inr x)
     |none=>none
    |none=>none) none:Option (HL d.ts ⊕ XT d.exits))=some r->(cond (pinK ps x y (E.keepX d.b e)) (match iP E.np (E.keepX d.b e) σ with
    |some s'=>some (Sum.inr (e,s'))
    |none=>none) none:Option (Snap ⊕ Ex×Snap))=some (outS d r):=by
   intro e h1;cases hp:pinK ps x y (E.keepX d.b e) with
   |false=>rw[hp]at h1;simp at h1
   |true=>
    rw[hp,j6]at h1;rw[j6];split at h1
    .rename_i s dC;split at h1
     .rename_i hh hu;simp only[j5]at h1;subst h1;simp only[outS];rw[HS _ _ _ _ hu]
     .simp at h1
    .simp at h1
  cases p with
  |none=>exact hx e h1
  |some q=>
   cases e with
   |normal=>
    dsimp only at h1 ⊢
    split at h1
    .rename_i s dC;split at h1
     .rename_i hh hu;simp only[j5]at h1;subst h1;simp only[outS];rw[<-BM hu]
     .simp at h1
    .simp at h1
   |exit i=>exact hx _ h1
   |ret=>exact hx _ h1
theorem jAz{E:Env}(hF:CFun E.C)(hz:E.nz=false)(hL:LFun E.L/\MFun E.M){c:Code}{d:mN}(hs:∀h,fV E d.b c (cJ E.np (E.keep d.b) (pack d.ps d.ts h)) (uk E d)=d.step h)(h:HL d.ts)(r:HL d.ts ⊕ XT d.exits):d.step h=some r->
  xB E d.b c (pack d.ps d.ts h)=some (match r with|.inl a=> .inl (pack d.ps d.ts a)|.inr x=> .inr (sq d.exits x)):=by
 intro hr;obtain⟨o,ho⟩:=D7 hF hz hL c d.b (cJ E.np (E.keep d.b) (pack d.ps d.ts h));rw[<-hs h]at hr;have h1:some r=_:=hr.symm.trans (ho _ (λz=>uk E d z.1 z.2));cases o with
 |none=>simp at h1
 |some z=>
  obtain⟨e,σ⟩:=z;simp only[j4]at h1
  have h2:=ho _ (λz:Ex×St=>match z.1 with
   |.normal=>match iP E.np (E.keep d.b) z.2 with
    |some s'=>some (Sum.inl s')
    |none=>none
   |e=>match iP E.np (E.keepX d.b e) z.2 with
    |some s'=>some (Sum.inr (e,s'))
    |none=>none)
  have h3:xB E d.b c (pack d.ps d.ts h)=_:=h2;rw[h3,j4];clear h3 h2 hr ho;dsimp only;have h1:=h1.symm;unfold uk at h1;cases e with
  |normal=>
   dsimp only at h1 ⊢
   split at h1
   .rename_i s dC;split at h1
    .rename_i hh hu;simp only[j5]at h1;subst h1;dsimp only;rw[<-BM hu]
    .simp at h1
   .simp at h1
  |exit i=>
   dsimp only at h1 ⊢
   split at h1
   .rename_i s dC;split at h1
    .rename_i hh hu;simp only[j5]at h1;subst h1;dsimp only;rw[HS _ _ _ _ hu]
    .simp at h1
   .simp at h1
  |ret=>
   dsimp only at h1 ⊢
   split at h1
   .rename_i s dC;split at h1
    .rename_i hh hu;simp only[j5]at h1;subst h1;dsimp only;rw[HS _ _ _ _ hu]
    .simp at h1
   .simp at h1
theorem jyb{E:Env}(hF:CFun E.C)(hz:E.nz=false)(hL:LFun E.L/\MFun E.M){c:Code}{d:mN}(hs:HT E c d)
  (he:∀s R k,E.L d.b s R k=match sk d.ps d.ts s with|some h=>(loopOpt d.step h).bind λx=>Ee d.exits x k|none=>none):DD E d.b c:=by
 intro s R k r h;rw[he]at h;split at h
 .rename_i hl hu;cases hq:loopOpt d.step hl with
  |none=>simp[hq]at h
  |some x=>
   rw[hq,j4,ME]at h;obtain⟨n,hn⟩:=Ed hq;refine⟨n,(sq d.exits x).1,(sq d.exits x).2,?_,h⟩;rw[BM hu]
   exact VH (f:=Kq E d.b c) (p:=pack d.ps d.ts) (q:=sq d.exits) (λa r hr=>by
    cases c with
    |rangeFunc g ps x y=>have:=jEe hF hz hL hs a r hr;cases r<;>exact this
    |_=>have:=jAz hF hz hL hs a r hr;cases r<;>exact this) hn
 .simp at h
def lpAt(c:Code)(j:Nat):Code:=((fQ 0 c).getD j (0,.skip)).2
def wY(E:Env)(c:Code):Nat->List mN->Prop
 |_,[]=>True
 |j,d::ds=>HT E (lpAt c j) d/\wY E c (j+1) ds
theorem wY.get{E:Env}{c:Code}:∀{ds:List mN}{i j:Nat}{d:mN},wY E c i ds->ds[j]? = some d->HT E (lpAt c (i+j)) d
 |[],_,_,_,_,h=>by simp at h
 |x::xs,i,0,d,hs,h=>by simp at h;subst h;exact hs.1
 |x::xs,i,j+1,d,hs,h=>by
  have:=wY.get (i:=i+1) (j:=j) hs.2 (by simpa using h);rwa[show i+(j+1)=i+1+j by omega]
theorem VL:∀{ds:List mN}{j:Nat}{d:mN},qF (ds.map (·.b))=true->ds[j]? = some d->∀s R k,uW ds d.b s R k=match sk d.ps d.ts s with|some h=>(loopOpt d.step h).bind λx=>Ee d.exits x k|none=>none
 |[],_,_,_,h=>by simp at h
 |x::xs,0,d,_,h=>by simp at h;subst h;intro s R k;simp only[uW,if_true]
 |x::xs,j+1,d,hn,h=>by
  simp only[ke,qF,jc,kp,qf,kn]at hn;have hm:d∈xs:=kc (by simpa using h);have bk:x.b≠d.b:=λe=>hn.1 (e▸jt.2 ⟨d,hm,rfl⟩);intro s R k;simp only[uW,bk,zo];exact VL (j:=j) hn.2 (by simpa using h) s R k
theorem jAA{E:Env}(hF:CFun E.C)(hz:E.nz=false){c:Code}{ds:List mN}(hE:E.L=uW ds)(hm:(fQ 0 c).map (·.1)=ds.map (·.b))(hn:qF (ds.map (·.b))=true)(hs:wY E c 0 ds){ms:List MrD}(DQ:E.mr=mrF ms)(hM:E.M=mrL ms)(hms:zB E c ms) :
  ∀x∈fQ 0 c,DD E x.1 x.2/\MrOK E x.1 x.2:=by
 intro x hx;have VM:LFun E.L/\MFun E.M:=⟨hE▸MF ds,hM▸MG ms⟩;have fA:((fQ 0 c).map (·.1)).Nodup:=hm▸C0 hn;refine⟨?_,jD2 hF hz VM DQ hM λd hd hb=>?_⟩
 rotate_left
 .have:=hms.get d hd;unfold mrAt at this;rw[hb,VK fA hx]at this;exact this
 obtain⟨j,hj⟩:=zd.1 hx;have wN:(ds.map (·.b))[j]? = some x.1:=by rw[<-hm];simp[hj]
 rw[qi]at wN;cases hd:ds[j]? with
 |none=>simp[hd]at wN
 |some d=>
  simp only[hd,qa,j5]at wN;have h1:=wY.get hs hd;rw[kg]at h1;have h2:lpAt c j=x.2:=by simp[lpAt,List.getD,hj]
  rw[h2]at h1;have:=jyb (E:=E) hF hz VM h1 (λs R k=>by rw[hE];exact VL hn hd s R k);rwa[wN]at this
inductive VPat where
 |v (t:Ty)
 |own (e:Nat) (t:Ty)
 |box (ts:List Ty)
 |hd
 |vn (t:Ty) (ns:List Nat)
 |clo (f:Nat) (bF:List CPat)
 deriving DecidableEq
inductive OPat where
 |ref (ts:List Ty)
 |rl (t:Ty)
 deriving DecidableEq
def rvP:RV->VPat×List TV
 |.v x=>(.v x.t,[x])
 |.own e x=>(.own e x.t,[x])
 |.box ls=>(.box (ls.map (·.t)),ls)
 |.hd n=>(.hd,[⟨.int .i64,(n:Int)⟩])
 |.vn x ns=>(.vn x.t ns,[x])
 |.clo f bF=>(.clo f (o9 bF).1,(o9 bF).2)
def VPat.n:VPat->Nat
 |.v _=>1
 |.own _ _=>1
 |.box ts=>ts.length
 |.hd=>1
 |.vn _ _=>1
 |.clo _ cs=>BL cs
def rvF:VPat->List TV->RV
 |.v _,xs=> .v (xs.headD tv0)
 |.own e _,xs=> .own e (xs.headD tv0)
 |.box ts,xs=> .box (xs.take ts.length)
 |.hd,xs=> .hd (MB (xs.headD tv0))
 |.vn _ ns,xs=> .vn (xs.headD tv0) ns
 |.clo f cs,xs=> .clo f (BK cs xs)
theorem jFB(c:RV)(r:List TV):rvF (rvP c).1 ((rvP c).2++r)=c/\(rvP c).1.n=(rvP c).2.length:=by
 cases c with
 |v x=>exact⟨rfl,rfl⟩
 |own e x=>exact⟨rfl,rfl⟩
 |hd n=>exact⟨rfl,rfl⟩
 |vn x ns=>exact⟨rfl,rfl⟩
 |box ls=>simp[rvP,rvF,VPat.n]
 |clo f cs=>have:=HO cs r;simp only[rvP,rvF,VPat.n];exact⟨by rw[this.1],this.2⟩
def outP:Out->OPat×List TV
 |.ref ls=>(.ref (ls.map (·.t)),ls)
 |.rl x=>(.rl x.t,[x])
def OPat.n:OPat->Nat
 |.ref ts=>ts.length
 |.rl _=>1
def outF:OPat->List TV->Out
 |.ref ts,xs=> .ref (xs.take ts.length)
 |.rl _,xs=> .rl (xs.headD tv0)
theorem jEf(c:Out)(r:List TV):outF (outP c).1 ((outP c).2++r)=c/\(outP c).1.n=(outP c).2.length:=by
 cases c with
 |rl x=>exact⟨rfl,rfl⟩
 |ref ls=>simp[outP,outF,OPat.n]
def rvsP:List RV->List VPat×List TV
 |[]=>([],[])
 |c::cs=>((rvP c).1::(rvsP cs).1,(rvP c).2++(rvsP cs).2)
def rvsF:List VPat->List TV->List RV
 |[],_=>[]
 |c::cs,xs=>rvF c xs::rvsF cs (xs.drop c.n)
def rvsN:List VPat->Nat
 |[]=>0
 |c::cs=>c.n+rvsN cs
theorem MI:∀(cs:List RV)(r:List TV),rvsF (rvsP cs).1 ((rvsP cs).2++r)=cs/\rvsN (rvsP cs).1=(rvsP cs).2.length
 |[],r=>⟨rfl,rfl⟩
 |c::cs,r=>by
  simp only[rvsP,rvsF,rvsN,jj,jg];have h1:=jFB c ((rvsP cs).2++r);have h2:=MI cs r;rw[h1.1,h1.2,yb,h2.1,h2.2];exact⟨rfl,rfl⟩
def wZ:List Out->List OPat×List TV
 |[]=>([],[])
 |c::cs=>((outP c).1::(wZ cs).1,(outP c).2++(wZ cs).2)
def HU:List OPat->List TV->List Out
 |[],_=>[]
 |c::cs,xs=>outF c xs::HU cs (xs.drop c.n)
theorem VN:∀(cs:List Out)(r:List TV),HU (wZ cs).1 ((wZ cs).2++r)=cs
 |[],r=>rfl
 |c::cs,r=>by
  simp only[wZ,HU,jj];have h1:=jEf c ((wZ cs).2++r);rw[h1.1,h1.2,yb,VN cs r]
structure RPat where
 vs:List VPat
 os:List OPat
 deriving DecidableEq
def jmp(rp:RPat)(ts:List Ty)(h:HL ts):Ret:=⟨rvsF rp.vs (ofHL ts h),HU rp.os ((ofHL ts h).drop (rvsN rp.vs))⟩
def HV(rp:RPat)(ts:List Ty)(r:Ret):Option (HL ts):=
 if (rvsP r.vals).1=rp.vs/\(wZ r.outs).1=rp.os then toHL ts ((rvsP r.vals).2++(wZ r.outs).2) else none
theorem jwt{rp:RPat}{ts:List Ty}{r:Ret}{h:HL ts}(hs:HV rp ts r=some h):r=jmp rp ts h:=by
 unfold HV at hs;split at hs
 .rename_i hp;have:=HN hs;unfold jmp;rw[<-this,<-hp.1,<-hp.2,(MI r.vals _).1,(MI r.vals []).2,yb];have h2:=VN r.outs [];rw[qm]at h2;rw[h2]
 .simp at hs
structure Con where
 f:Nat
 ps:List APat
 ts:List Ty
 rp:RPat
 rs:List Ty
 F:HL ts->Option (HL rs)
def Con.C(c:Con)(args:List Arg)(R:Type)(k:Ret->Option R):Option R:=
 match HQ c.ps c.ts args with
 |some h=>(c.F h).bind λx=>k (jmp c.rp c.rs x)
 |none=>none
def Con.OK(P:Program)(c:Con):Prop:=FnOK P c.f c.C
def conC:List Con->Nat->List Arg->(R:Type)->(Ret->Option R)->Option R
 |[],_,_,_,_=>none
 |c::cs,f,args,R,k=>if c.f=f then (if (uV args).1=c.ps then c.C args R k else conC cs f args R k) else conC cs f args R k
theorem MJ{P:Program}{f:Nat}:FnOK P f (λ_ _ _=>none):=by
 intro args R k r h;simp at h
def Ef(P:Program):List Con->Prop
 |[]=>True
 |c::cs=>c.OK P/\Ef P cs
theorem MK{P:Program}:∀cs:List Con,Ef P cs->jJ P (conC cs)
 |[],_,_=>MJ
 |c::cs,h,f=>by
  have ih:=MK cs h.2 f;intro args R k r hk;simp only[conC]at hk;split at hk
  .rename_i hf;subst hf;split at hk
   .exact h.1 args R k r hk
   .exact ih args R k r hk
  .exact ih args R k r hk
theorem ML:∀cs:List Con,CFun (conC cs)
 |[]=>λ_ _=>⟨none,λ_ _=>rfl⟩
 |c::cs=>λf args=>by
  have ih:=ML cs f args;simp only[conC];split
  .split
   .unfold Con.C;split
    .rename_i h _;cases hq:c.F h with
     |none=>exact⟨none,λ_ _=>rfl⟩
     |some x=>exact⟨some (jmp c.rp c.rs x),λ_ _=>rfl⟩
    .exact⟨none,λ_ _=>rfl⟩
   .exact ih
  .exact ih
def MM:List (Nat×Keep)->Nat->Keep
 |[],_=>⟨[],[],[],[]⟩
 |x::r,b=>if x.1=b then x.2 else MM r b
def MN:List (Nat×Ex×Keep)->Nat->Ex->Keep
 |[],_,_=>⟨[],[],[],[]⟩
 |x::r,b,e=>if x.1=b/\x.2.1=e then x.2.2 else MN r b e
def MO:List (Nat×List Bool)->Nat->List Bool
 |[],_=>[]
 |x::r,b=>if x.1=b then x.2 else MO r b
def dwL:List (Nat×List (List Nat))->Nat->List (List Nat)
 |[],_=>[]
 |x::r,b=>if x.1=b then x.2 else dwL r b
def bwL:List (Nat×(Bool×Ty))->Nat->Option (Bool×Ty)
 |[],_=>none
 |x::r,f=>if x.1=f then some x.2 else bwL r f
def HW(P:Program):List (Nat×(Bool×Ty))->Prop
 |[]=>True
 |x::r=>BwK P x.1 x.2/\HW P r
theorem VO{P:Program}:∀{l:List (Nat×(Bool×Ty))},HW P l->∀f t,bwL l f=some t->BwK P f t
 |[],_,f,t,h=>by simp[bwL]at h
 |x::r,hl,f,t,h=>by
  simp only[bwL]at h;split at h
  .rename_i e;simp only[j5]at h;rw[<-e,<-h];exact hl.1
  .exact VO hl.2 f t h
structure FnD where
 N:Nat
 np:Nat
 cs:List Con:=[]
 ds:List mN:=[]
 modes:List (Nat×List Bool):=[]
 keep:List (Nat×Keep):=[]
 keepX:List (Nat×Ex×Keep):=[]
 ro:List Bool:=[]
 dw:List (Nat×List (List Nat)):=[]
 hd:Bool:=false
 ns:List Nat:=[]
 bw:List (Nat×(Bool×Ty)):=[]
 ks:List Nat:=[]
 ms:List MrD:=[]
 mvf:List Nat:=[]
def FnD.env(d:FnD)(T:List (Option TyI)):Env:=⟨⟨d.N,λ_=>false⟩,d.np,tab T,conC d.cs,MO d.modes,uW d.ds,MM d.keep,MN d.keepX,d.ro,dwL d.dw,false,d.hd,d.ns,bwL d.bw,λi=>d.ks.contains i,λf=>d.mvf.contains f,mrF d.ms,mrL d.ms⟩
theorem jEg{P:Program}{T:List (Option TyI)}(hT:cO P (tab T))(gQ:P.follows .mixedOrders=true)(d:FnD)(jY:Con)(fn:Func)(c:Code)(hf:P.funcs[jY.f]? = some fn)(hb:fn.body=some c)
  (hN : fn.ntmps = d.N) (sj : d.np ≤ d.N) (cb : (fn.name == "runtime.NumGoroutine") = false) (dE : Ef P d.cs) (hm : (fQ 0 c).map (·.1) = d.ds.map (·.b)) (hn : qF (d.ds.map (·.b)) = true)
  (hs:wY (d.env T) c 0 d.ds)(hF:∀h,tY (d.env T) fn (ra jY.ps jY.ts h) (HV jY.rp jY.rs)=jY.F h)(iC:HW P d.bw:=by trivial)(hms:zB (d.env T) c d.ms:=by trivial):jY.OK P:=by
 have hC:jJ P (d.env T).C:=MK d.cs dE;have sr:CFun (d.env T).C:=ML d.cs;have hL:LFun (d.env T).L/\MFun (d.env T).M:=⟨MF d.ds,MG d.ms⟩;have pB:=Vw (E:=d.env T) hT hC sr gQ hf hb hN rfl (VO iC) sj cb (jAA sr rfl rfl hm hn hs rfl rfl hms);intro args R k r hk;unfold Con.C at hk;split at hk
 .rename_i h hu;rw[HR hu];cases hq:jY.F h with
  |none=>simp[hq]at hk
  |some x=>
   rw[hq,j4]at hk;refine pB _ R k r ?_;obtain⟨o,ho⟩:=jwo sr rfl hL fn (ra jY.ps jY.ts h);have h1:some x=_:=((hF h).trans hq).symm.trans (ho _ _);cases o with
   |none=>simp at h1
   |some ret=>rw[j4]at h1;show tY (d.env T) fn (ra jY.ps jY.ts h) k=some r;refine(ho _ _).trans ?_;rw[j4,jwt h1.symm];exact hk
 .simp at hk
theorem cOf{P:Program}{T:List (Option TyI)}(hT:cO P (tab T))(gQ:P.follows .mixedOrders=true)(d:FnD)(jY:Con){fn:Func}(hf:P.funcs[jY.f]? = some fn)(dE:Ef P d.cs)
  (hs:wY (d.env T) (fn.body.getD .skip) 0 d.ds)(iC:HW P d.bw:=by trivial)(hb:fn.body=some (fn.body.getD .skip):=by kernel_rfl)(hN:fn.ntmps=d.N:=by kernel_rfl)
  (sj : Nat.ble d.np d.N = true := by kernel_rfl) (cb : (fn.name == "runtime.NumGoroutine") = false := by kernel_rfl) (hm : (fQ 0 (fn.body.getD .skip)).map (·.1) = d.ds.map (·.b) := by kernel_rfl)
  (hn:qF (d.ds.map (·.b))=true:=by kernel_rfl)(hF:∀h,tY (d.env T) fn (ra jY.ps jY.ts h) (HV jY.rp jY.rs)=jY.F h:=by intro h;kernel_rfl)(hms:zB (d.env T) (fn.body.getD .skip) d.ms:=by trivial):jY.OK P:=
 jEg hT gQ d jY fn _ hf hb hN (qq sj) cb dE hm hn hs hF iC hms
def lU{α β:Type}(B:(α->Option β)->α->Option β):Nat->α->Option β
 |0,_=>none
 |n+1,a=>B (lU B n) a
open Classical in
def w6{α β:Type}(B:(α->Option β)->α->Option β)(a:α):Option β:=
 if h:∃x n,lU B n a=some x then some h.choose else none
theorem jyh{α β:Type}{B:(α->Option β)->α->Option β}{a:α}{x:β}(h:w6 B a=some x):∃n,lU B n a=some x:=by
 unfold w6 at h;split at h
 .rename_i hx;simp only[j5]at h;obtain⟨m,hm⟩:=hx.choose_spec;exact⟨m,by rw[<-h];exact hm⟩
 .simp at h
theorem VP{α β:Type}{B:(α->Option β)->α->Option β}{a:α}{x:β}(h1:∃n,lU B n a=some x)(h2:∀n y,lU B n a=some y->y=x):w6 B a=some x:=by
 obtain⟨n,hn⟩:=h1;have hx:∃x n,lU B n a=some x:=⟨x,n,hn⟩;unfold w6;rw[dif_pos hx];obtain⟨m,hm⟩:=hx.choose_spec;rw[h2 m _ hm]
theorem jEh{P:Program}{f:Nat}{ps:List APat}{ts:List Ty}{rp:RPat}{rs:List Ty}{B:(HL ts->Option (HL rs))->HL ts->Option (HL rs)}
  (fI:∀g,Con.OK P ⟨f,ps,ts,rp,rs,g⟩->Con.OK P ⟨f,ps,ts,rp,rs,B g⟩):Con.OK P ⟨f,ps,ts,rp,rs,w6 B⟩:=by
 have all:∀n,Con.OK P ⟨f,ps,ts,rp,rs,lU B n⟩:=by
  intro n;induction n with
  |zero=>
   intro args R k r hk;unfold Con.C at hk;split at hk
   .simp[lU]at hk
   .simp at hk
  |succ n ih=>exact fI _ ih
 intro args R k r hk;unfold Con.C at hk;split at hk
 .rename_i h hu;cases hq:w6 B h with
  |none=>simp[hq]at hk
  |some x=>obtain⟨n,hn⟩:=jyh hq;refine all n args R k r ?_;unfold Con.C;rw[hu];dsimp only;rw[hn];dsimp only at hk;rw[hq]at hk;exact hk
 .simp at hk
def FnD.envN(d:FnD)(T:List (Option TyI)):Env:=⟨⟨d.N,λ_=>false⟩,d.np,tab T,conC d.cs,MO d.modes,uW d.ds,MM d.keep,MN d.keepX,d.ro,dwL d.dw,true,d.hd,d.ns,λ_=>none,λ_=>false,λ_=>false,λ_=>none,λ_ _ _ _=>none⟩
theorem jyi{α R:Type}(xs:List α)(K:List α->Option R){r:R}(h:(cond (decide (([]:List α).length+xs.length<=aN)) (some (([]:List α)++xs)) none).bind K=some r) :
  xx (List.isEmpty xs) (K []) (cond (decide (([]:List α).length+xs.length<=aN)) (K (([]:List α)++xs)) none)=some r:=by
 cases hd:decide (([]:List α).length+xs.length<=aN) with
 |false=>rw[hd]at h;simp at h
 |true=>
  rw[hd]at h;simp only[j6,j4]at h ⊢;cases xs with
  |nil=>simp only[qm]at h ⊢;rw[jsO];exact h
  |cons x r=>exact h
theorem VQ{P:Program}{T:List (Option TyI)}(hT:cO P (tab T))(gQ:P.follows .mixedOrders=true)(d:FnD)(f:Nat)(a:Ty)(e:Nat)(fn:Func)(c:Code)(hf:P.funcs[f]? = some fn)(hb:fn.body=some c)
  (hN : fn.ntmps = d.N) (sj : d.np ≤ d.N) (cb : (fn.name == "runtime.NumGoroutine") = false) (dE : Ef P d.cs) (hl : fQ 0 c = [])
  (hF:∀(h:List a.den)(R:Type)(k:Ret->Option R),tY (d.envN T) fn [.v ⟨.list a,h⟩] k=xx (List.isEmpty h) (k ⟨[.own e ⟨.list a,([]:List a.den)⟩],[]⟩)
   (cond (decide (([]:List a.den).length+List.length h<=aN)) (k ⟨[.own e ⟨.list a,([]:List a.den)++h⟩],[]⟩) none)) :
  Con.OK P ⟨f,[.v (.list a)],[.list a],⟨[.own e (.list a)],[]⟩,[.list a],λh=>cond (decide (([]:List a.den).length+List.length h<=aN)) (some (([]:List a.den)++h)) none⟩:=by
 have hC:jJ P (d.envN T).C:=MK d.cs dE;have sr:CFun (d.envN T).C:=ML d.cs;have pB:=Vw (E:=d.envN T) hT hC sr gQ hf hb hN rfl (λf t h=>by simp[FnD.envN]at h) sj cb (by rw[hl];simp);intro args R k r hk;unfold Con.C at hk;split at hk
 .rename_i h hu;rw[HR hu];refine pB _ R k r ?_;refine(hF h R k).trans ?_;exact jyi (α:=a.den) h (λx=>k ⟨[.own e ⟨.list a,x⟩],[]⟩) hk
 .simp at hk
def w64(x:Int):Int:=IntKind.wrap .i64 x
class LP where
 lp:{α β:Type}->(α->Option (α ⊕ β))->α->Option β
 rp:{α β:Type}->((α->Option β)->α->Option β)->α->Option β
noncomputable instance realLP:LP:=⟨loopOpt,w6⟩
abbrev il(N:Nat):LP:=⟨λf a=>loopN f N a,λB a=>lU B N a⟩
theorem im{x:Int}(h1 : -9223372036854775808<=x)(h2:x<=9223372036854775807):w64 x=x:=IntWalk.i64_in x ⟨h1,h2⟩
def lpK{α β:Type}(r:Option (α ⊕ β))(f:α->Option β):Option β:=match r with
 |none=>none
 |some (.inl s)=>f s
 |some (.inr x)=>some x
theorem aK{α β:Type}(s:α)(f:α->Option β):lpK (some (.inl s)) f=f s:=rfl
theorem aW{α β:Type}(x:β)(f:α->Option β):lpK (some (.inr x)) f=some x:=rfl
theorem MP{α β γ:Type}(x:α)(f:α->γ)(g:β->γ):sumC (.inl x) f g=f x:=rfl
theorem nw{α β γ:Type}(x:β)(f:α->γ)(g:β->γ):sumC (.inr x) f g=g x:=rfl
theorem bh{α β:Type}(f:α->Option (α ⊕ β))(s:α):loopOpt f s=lpK (f s) (loopOpt f):=by
 cases h:f s with
 |none=>
  cases hq:loopOpt f s with
  |none=>rfl
  |some x=>obtain⟨n,hn⟩:=Ed hq;cases n<;>simp[loopN,h]at hn
 |some r=>
  cases r with
  |inl s'=>exact jru h
  |inr x=>exact jtf h
section
variable{S0:aP}{w0:World}{refs:Refs}
theorem MQ{P:Program}{E:Env}(hT:cO P E.T)(hC:jJ P E.C){ops:Array Oper}{R:Type}{k:St->Option R}{r:R}{Q:Exit->Go.Act->World->Prop}{n:Nat}{rest:List Nat}
  (hn:∀σ' a' w' S' γ',Rel E.N E.np S0 w0 refs σ' a' w' S' γ'->dp σ'->k σ'=some r->wpOpsIn (FR none) n P ops Q rest a' w') :
  ∀(l:List Oper)(i:Nat){σ:St}{a:Go.Act}{w:World}{S:aP}{γ:Nat->Value},(∀j o,l[j]? = some o->ops[i+j]? = some o/\o.guard=none)->Rel E.N E.np S0 w0 refs σ a w S γ->dp σ->mZ E l σ k=some r->
   wpOpsIn (FR none) n P ops Q (List.range' i l.length++rest) a w
 |[],i,σ,a,w,S,γ,hl,hR,hc,h=>hn _ _ _ _ _ hR hc h
 |o::l,i,σ,a,w,S,γ,hl,hR,hc,h=>by
  simp only[mZ]at h;split at h
  .rename_i hd;obtain⟨ho,hg⟩:=hl 0 o rfl;have hw:Region.wanted o (yielded ops a.tmps)=true:=by simp[Region.wanted,hg]
   simp only[jm,zu,zv,wpOpsIn,show ops[i]? = some o from ho,hw,if_true];refine Hy (.inl rfl) (λ_ _ h=>h) (Br hT hC hR (act:=[]) (λg hg=>by simp at hg) (p:=false) (λ_=>hc) hd h (λσ' a' w' S' γ' bY dq hk=>?_));exact MQ hT hC hn l (i+1) (λj o' hj=>by rw[show i+1+j=i+(j+1) by omega];exact hl (j+1) o' (by simpa using hj)) bY (dq rfl) hk
  .simp at h
theorem Eg{N:NT}{np:Nat}{fx:Nat->Option Value}{σ:St}{a:Go.Act}{W:World}{S:aP}(bU:a.tmps.size=N.n)(hd:a.defers=[])(bg:∀k,σ.bx k = .free)(hS:∀g o,S g o->g<W.heap.size)
  (rZ:∀i,iH S W (λ_=>undef) σ.bx (tm a) (σ.sl i) (tm a i))(MR:∀i v,fx i=some v->N.pin i=true/\tm a i=v):Rel N np S W { blks:=[],val:=λ_=>none,fix:=fx } σ a W S (λ_=>undef):=
 ⟨bU,hd,rZ,λk b h=>by rw[bg]at h;simp at h,λk b g h=>by rw[bg]at h;simp at h,λk k' b b' g _ h=>by rw[bg]at h;simp at h,λ_ _ h=>h,λ_ _ h=> .inl h,hS,λ_ _ _=>rfl,js _,rfl,rfl,rfl,
  λk v h=>by simp at h,λg o h=>by simp at h,MR⟩
theorem w7{N:NT}{np:Nat}{fx:Nat->Option Value}{σ:St}{a:Go.Act}{w:World}{S:aP}{γ:Nat->Value}(hR:Rel N np S0 w0 { blks:=[],val:=λ_=>none,fix:=fx } σ a w S γ):Grew w0 w:=
 ⟨λg hg=>hR.below g hg (λh=>by have h:g∈([]:List Nat):=h;simp at h),hR.grow,hR.os,hR.tape,hR.output⟩
theorem jrz{P:Program}{a:Go.Act}{w:World}{o:Oper}{cl:Call}(ho:o.op = .call cl){x:Operand}(hc:cl.callee = .value x){l:Nat}(hx:a.eval x = .func (.yield l) #[] #[]){nx:Next}{w':World}
  (hy:(Instr.yield l (cl.args.map a.eval)).run P w = .ok nx w'):(execOp a.eval o).run P w = .ok nx w':=by
 simp[execOp,ho,resolve,hc,Deferred.ofValue,hx,invoke,hy]
end
section
variable{S0:aP}{w0:World}{refs:Refs}
def bwE(T:Nat->Option TyI):Env:=
 { N:=⟨19,λi=>i==0||(i==1||i==11)⟩,np:=0,T:=T,C:=λ_ _ _ _=>none,modes:=λ_=>[],L:=λ_ _ _ _=>none,keep:=λ_=>⟨[],[],[],[]⟩,keepX:=λ_ _=>⟨[],[],[],[]⟩,ro:=[] }
def slF(l:List (Nat×Cel)):St:={ sl:=λj=>match l.find? (λx=>x.1==j) with|some x=> .one x.2|none=> .one (.one .dead),bx:=λ_=> .free }
def g3(σ:St):Option Int:=match σ.sl 3 with
 |.one (.one (.d (.int .i64) v))=>some v
 |_=>none
def g1(σ:St):Option (Bool×Int):=match σ.sl 8,σ.sl 3 with
 |.one (.one (.d .bool b)),.one (.one (.d (.int .i64) v))=>some (b,v)
 |_,_=>none
def g18(σ:St):Option (Bool×Int):=match σ.sl 18,σ.sl 3 with
 |.one (.one (.d .bool b)),.one (.one (.d (.int .i64) v))=>some (b,v)
 |_,_=>none
def g16(t:Ty)(σ:St):Option (Int×t.den×Int):=match σ.sl 12,σ.sl 16,σ.sl 3 with
 |.one (.one (.d (.int .i64) u)),.one c,.one (.one (.d (.int .i64) v))=>match qC (λ_=> .gone) t c with
  |some (x,[])=>some (u,x,v)
  |_=>none
 |_,_,_=>none
def lstP(t:Ty)(xs:List t.den):Cel:= .one (.ip [⟨.list t,xs⟩])
def intP(i:Int):Cel:= .one (.d (.int .i64) i)
theorem Eh(l:List (Nat×Cel)):dp (slF l):=λi=>by
 simp only[slF];split<;>rfl
theorem jAD{np:Nat}{σ:St}:RdF np σ (λ_=> .gone):=⟨λ_=> .inr rfl,λk e a xs f h=>by simp at h⟩
theorem Ei{S:aP}{W:World}{γ:Nat->Value}{l:List (Nat×Cel)}{MS:Nat->Value}(h:∀x∈l,cd S W γ (λ_=> .free) x.2 (MS x.1))(i:Nat):iH S W γ (λ_=> .free) MS ((slF l).sl i) (MS i):=by
 simp only[slF];split
 .rename_i x hx;have:=h x (List.mem_of_find?_eq_some hx);have e:=List.find?_some hx;simp only[vj]at e;rw[<-e];exact this
 .exact⟨trivial,λh=>absurd rfl h⟩
theorem MT{P:Program}{T:Nat->Option TyI}(hT:cO P T){sb n:Nat}{A:Array Oper}{σ:St}{fx:Nat->Option Value}{a:Go.Act}{w:World}{S:aP}{γ:Nat->Value}{R:Type}{k:St->Option R}{r:R}
  (hR:Rel (bwE T).N (bwE T).np S0 w0 { blks:=[],val:=λ_=>none,fix:=fx } σ a w S γ)(hc:dp σ)(h:qG (bwE T) A σ k=some r) :
  (Code.region sb A false).wpIn (FR none) n P (λe a' w'=>e = .normal/\∃σ' S' γ',Rel (bwE T).N (bwE T).np S0 w0 { blks:=[],val:=λ_=>none,fix:=fx } σ' a' w' S' γ'/\k σ'=some r) a w:=
 wpIn_region (uM (.inl rfl) (by rintro⟨a,w,h,_⟩;cases h) _ _ _ (Uo hT (λf=>MJ) hR hc (λσ' a' w' S' γ' bY _ hk=>⟨rfl,σ',S',γ',bY,hk⟩) h))
theorem VR{σ:St}{v:Int}(h:g3 σ=some v):σ.sl 3 = .one (.one (.d (.int .i64) v)):=by
 unfold g3 at h;split at h
 .rename_i u hu;simp only[j5]at h;subst h;exact hu
 .simp at h
theorem jFC{σ:St}{b:Bool}{v:Int}(h:g1 σ=some (b,v)):σ.sl 8 = .one (.one (.d .bool b))/\σ.sl 3 = .one (.one (.d (.int .i64) v)):=by
 unfold g1 at h;split at h
 .rename_i hb hu;simp only[j5,j9]at h;obtain⟨rfl,rfl⟩:=h;exact⟨hb,hu⟩
 .simp at h
theorem jEj{σ:St}{b:Bool}{v:Int}(h:g18 σ=some (b,v)):σ.sl 18 = .one (.one (.d .bool b))/\σ.sl 3 = .one (.one (.d (.int .i64) v)):=by
 unfold g18 at h;split at h
 .rename_i hb hu;simp only[j5,j9]at h;obtain⟨rfl,rfl⟩:=h;exact⟨hb,hu⟩
 .simp at h
theorem jEk{t:Ty}{σ:St}{i:Int}{x:t.den}{v:Int}(h:g16 t σ=some (i,x,v)):σ.sl 12 = .one (.one (.d (.int .i64) i))/\σ.sl 3 = .one (.one (.d (.int .i64) v))/\∃c,σ.sl 16 = .one c/\qC (λ_=> .gone) t c=some (x,[]):=by
 unfold g16 at h;split at h
 .rename_i c _ xU MU h3;split at h
  .rename_i hx;simp only[j5,j9]at h;obtain⟨rfl,rfl,rfl⟩:=h;exact⟨xU,h3,c,MU,hx⟩
  .simp at h
 .simp at h
theorem BO{N:NT}{np:Nat}{σ:St}{a:Go.Act}{w:World}{S:aP}{γ:Nat->Value}(hR:Rel N np S0 w0 refs σ a w S γ){s:Nat}{v:Int}(h:σ.sl s = .one (.one (.d (.int .i64) v))):tm a s = .int .i64 v:=by
 have:=hR.slot s;rw[h]at this;have h1:[a.tmps.getD s undef]=[Value.int .i64 v]:=this.1;simpa[tm]using h1
theorem VS{N:NT}{np:Nat}{σ:St}{a:Go.Act}{w:World}{S:aP}{γ:Nat->Value}(hR:Rel N np S0 w0 refs σ a w S γ){s:Nat}{v:Bool}(h:σ.sl s = .one (.one (.d .bool v))):tm a s = .bool v:=by
 have:=hR.slot s;rw[h]at this;have h1:[a.tmps.getD s undef]=[Value.bool v]:=this.1;simpa[tm]using h1
theorem jFD{P:Program}{T:Nat->Option TyI}(hT:cO P T){f:Nat}{t:Ty}{fn:Func}(hf:P.funcs[f]? = some fn){r0 b0 r1 b1 r3 r2:Nat}{A0 A1 A2:Array Oper}{o0 o6 o7:Oper}{l3:List Oper}{cl:Call}
  (hb:fn.body=some ((Code.region r0 A0 false).seq (Code.block b0 ((((Code.region r1 A1 false).seq (Code.cond (.tmp 8) .skip (.exit b0))).seq ((Code.block b1 ((Code.region r3 (o0::(l3++[o6,o7])).toArray false).seq (Code.cond (.tmp 18) .ret .skip))).seq (Code.region r2 A2 false))).loop))))
  (MV : fn.ntmps = 19) (mM : fn.results = #[]) (cb : (fn.name == "runtime.NumGoroutine") = false) (wX : l3.length = 5) (ct : (o0 :: (l3 ++ [o6, o7])).all (fun o => o.guard.isNone) = true)
  (zC:o0.op = .move (.tmp 0))(MW:o0.dst=some 11)(zD:o6.op = .call cl)(MX:cl.callee = .value (.tmp 11))(HX:cl.args = #[.tmp 12,.tmp 16])(h6d:o6.dst=some 17)
  (e0:∀xs:List t.den,qG (bwE T) A0 (slF [(1,lstP t xs)]) g3=some (w64 (Int.ofNat (List.length xs)-1)))
  (e1:∀i:Int,qG (bwE T) A1 (slF [(3,intP i)]) g1=some (decide (i>=0),i))
  (e2:∀i:Int,qG (bwE T) A2 (slF [(3,intP i)]) g3=some (w64 (i-1)))
  (e3:∀(xs:List t.den)(i:Int),mZ (bwE T) l3 (slF [(1,lstP t xs),(3,intP i)]) (g16 t)=cond (inR i (List.length xs)) (some (i,List.getD xs (Int.toNat i) t.dflt,i)) none)
  (e7:∀(b:Bool)(i:Int),mZ (bwE T) [o7] (slF [(17,.one (.d .bool b)),(3,intP i)]) g18=some (!b,i)):BwOK P f t:=by
 refine⟨⟨fn,hf,by rw[hb];rfl,cb⟩,?_⟩;intro cv m l J Jx W S aM yx gf hY om tG;have hC:jJ P (bwE T).C:=λf=>MJ;obtain⟨S0,h9,hm,hS0,pb⟩:=om
 obtain⟨z0,rb⟩:∃z0,cv = #[z0]:=by
  have:=pb.length;obtain⟨cl⟩:=cv;match cl,this with
  |[z],_=>exact⟨z,rfl⟩
 subst rb;refine callsIn_of_wp hf hb trivial ?_;rw[MV];obtain⟨yv,VT⟩:∃yv,yv=Value.func (.yield l) #[] #[]:=⟨_,rfl⟩;obtain⟨R,hR⟩:∃R:Ending->World->Prop,R=λe W'=>(∃v,e = .returned v)/\((∃S',J m S' W')\/Jx W'):=⟨_,rfl⟩;rw[<-VT,<-hR];let fx:Nat->Option Value:=λi=>if i=0 then some yv else if i=1 then some z0 else none
 let Fr:Go.Act->Prop:=λa=>a.tmps.size=19/\a.defers=[]/\tm a 0=yv/\tm a 1=z0
 let Inv:Go.Act->World->Prop:=λa W=>Fr a/\∃j S,j<=m/\J j S W/\tm a 3 = .int .i64 ((m:Int)-1-j)
 let μ:Go.Act->World->Nat:=λa W=>match tm a 3 with
  |.int _ v=>(v+1).toNat
  |_=>0
 have dY:∀{a:Go.Act}{W':World},a.defers=[]->((∃S',J m S' W')\/Jx W')->a.defers=[]/\∃v,(results fn a.tmps).run P W' = .ok v W'/\R (.returned v) W':=by intro a W' hd h;exact⟨hd,_,results_none mM _ _ _,by rw[hR];exact⟨⟨_,rfl⟩,h⟩⟩
 have ir:∀{σ:St}{a:Go.Act}{w w0:World}{S S0:aP}{γ:Nat->Value},Rel (bwE T).N (bwE T).np S0 w0 { blks:=[],val:=λ_=>none,fix:=fx } σ a w S γ->Fr a:=λhR=>
  ⟨hR.size,hR.defers,(hR.fix 0 yv rfl).2,(hR.fix 1 z0 rfl).2⟩
 have mO:∀{a:Go.Act},Fr a->∀i v,fx i=some v->(bwE T).N.pin i=true/\tm a i=v:=by
  intro a ha i v hv;simp only[fx]at hv;split at hv
  .rename_i e;subst e;simp only[j5]at hv;subst hv;exact⟨rfl,ha.2.2.1⟩
  .split at hv
   .rename_i _ e;subst e;simp only[j5]at hv;subst hv;exact⟨rfl,ha.2.2.2⟩
   .simp at hv
 have same:∀{j:Nat}{S:aP}{W W':World},J j S W->Grew W W'->Bt S W S W':=λhJ hg=>⟨λ_ _ h=>h,λ_ _ h=> .inl h,λg o h=>qv (gf _ _ _ hJ g o h) hg.size⟩
 have hmlt:m<=9223372036854775807:=by
  obtain⟨g,o,cs,_,au,_⟩:=pb.1;match cs,au with
  |[z],au=>obtain⟨ad,cap,_,h1,h2,_⟩:=au.1;simp only[maxLen]at h2;have h1:List.length h9<=cap:=h1;omega
 obtain⟨a0,BI⟩:∃a0:Go.Act,a0={ tmps:=#[yv] ++ #[z0]++Array.replicate (19-(#[yv] ++ #[z0]).size) undef,defers:=[] }:=⟨_,rfl⟩;rw[<-BI]
 have uX:Fr a0:=by
  subst BI;refine⟨?_,rfl,?_,?_⟩
  .simp
  .simp[tm]
  .simp[tm]
 have om:Rel (bwE T).N (bwE T).np S0 W { blks:=[],val:=λ_=>none,fix:=fx } (slF [(1,lstP t h9)]) a0 W S0 (λ_=>undef):=
  Eg uX.1 uX.2.1 (λ_=>rfl) hS0 (Ei (λx hx=>by
   simp only[kr]at hx;subst hx;rw[uX.2.2.2];exact⟨pb.1,λ_=>by obtain⟨g,o,cs,hu,_⟩:=pb.1;rw[hu];rfl⟩)) (mO uX)
 refine wpIn_seq (wpIn_mono (MT hT om (Eh _) (e0 h9)) ?_)
 rintro e a W1 ⟨rfl,σ1,S1,γ1,bE,dJ⟩
 show (Code.block b0 _).wpIn _ _ _ _ _ _;have h3:=BO bE (VR dJ);refine wpIn_block (wpIn_loop Inv μ ⟨ir bE,0,S,kf _,aM _ _ _ _ _ (w7 bE) (same tG (w7 bE)) tG,?_⟩ ?_)
 .rw[h3,hm,im (by simp;omega) (by simp;omega)];simp
 .rintro a W ⟨MY,j,S,wN,hJ,h3⟩
  have hint:∀{a:Go.Act}{W:World}{S:aP}{v:Int},tm a 3 = .int .i64 v->cd S W (λ_=>undef) (λ_=> .free) (intP v) (tm a 3):=λh=>by rw[h];exact⟨rfl,λ_=>rfl⟩
  have hRs:Rel (bwE T).N (bwE T).np S W { blks:=[],val:=λ_=>none,fix:=fx } (slF [(3,intP ((m:Int)-1-j))]) a W S (λ_=>undef):=
   Eg MY.1 MY.2.1 (λ_=>rfl) (gf _ _ _ hJ) (Ei (λx hx=>by
    simp only[kr]at hx;subst hx;exact hint h3)) (mO MY)
  refine wpIn_seq (wpIn_seq (wpIn_mono (MT hT hRs (Eh _) (e1 _)) ?_))
  rintro e a1 W1 ⟨rfl,σ1,S1,γ1,bE,dJ⟩
  obtain⟨h8,M0⟩:=jFC dJ;have M0:=BO bE M0;have h8:a1.eval (.tmp 8) = .bool (decide ((m:Int)-1-j>=0)):=VS bE h8;have M1:=aM _ _ _ _ _ (w7 bE) (same hJ (w7 bE)) hJ;have oo:=ir bE;show (Code.cond _ _ _).wpIn _ _ _ _ _ _;by_cases bJ:(m:Int)-1-j>=0
  case neg=>
   rw[decide_eq_false bJ]at h8;refine wpIn_cond_false h8 (wpIn_exit ?_);show Exit.inBlock b0 (bodyPost P fn R) (.exit b0) a1 W1;simp only[Exit.inBlock,if_true];have hj:j=m:=by omega
   subst hj;exact dY oo.2.1 (.inl ⟨S,M1⟩)
  case pos=>
  rw[yq bJ]at h8;refine wpIn_cond_true h8 (wpIn_skip ?_);show (Code.seq _ _).wpIn _ _ _ _ _ _;have M3:j<m:=by omega
  obtain⟨xs,dh,hlen,nS⟩:=hY j S W1 M3 M1;refine wpIn_seq (wpIn_block (wpIn_seq (wpIn_region ?_)));obtain⟨ops,oe⟩:∃ops,ops=(o0::(l3++[o6,o7])).toArray:=⟨_,rfl⟩;rw[<-oe];have pE:∀k,ops[k]? = (o0::(l3++[o6,o7]))[k]? := λk=>by rw[oe];exact List.getElem?_toArray
  have aR:∀o∈o0::(l3++[o6,o7]),o.guard=none:=λo ho=>by have:=jy.1 ct o ho;simpa using this
  have bU:ops.size=8:=by rw[oe];simp[wX]
  have hw:∀(o:Oper)(a:Go.Act),o∈o0::(l3++[o6,o7])->Region.wanted o (yielded ops a.tmps)=true:=λo a ho=>by simp[Region.wanted,aR o ho]
  rw[bU,show List.range 8=0::(List.range' 1 l3.length++[6,7]) by rw[wX];rfl];have M4:ops[0]? = some o0:=by rw[pE];rfl
  simp only[wpOpsIn,M4,hw o0 _ (v2 ..),if_true];refine Hy (.inl rfl) (λ_ _ h=>h) ?_;unfold Oper.wp;rw[show (execOp a1.eval o0).run P W1 = .ok (.value (a1.eval (.tmp 0))) W1 by simp[execOp,zC,go_sem],Oper.upon_value,MW];have tI:a1.eval (.tmp 0)=yv:=oo.2.2.1;rw[tI];have Ej:11<a1.tmps.size:=by rw[oo.1];omega
  obtain⟨a2,wh⟩:∃a2,a2=a1.put (some 11) yv:=⟨_,rfl⟩;rw[<-wh];have uY:∀i,tm a2 i=if i=11 then yv else tm a1 i:=λi=>by rw[wh];exact oa Ej yv i
  have uZ:Fr a2:=⟨by rw[wh,qT];exact oo.1,by rw[wh,wF];exact oo.2.1,by rw[uY];exact oo.2.2.1,by rw[uY];exact oo.2.2.2⟩;let VU:Nat->Option Value:=λi=>if i=11 then some yv else fx i
  have cH:Rel (bwE T).N (bwE T).np S W1 { blks:=[],val:=λ_=>none,fix:=VU } (slF [(1,lstP t xs),(3,intP ((m:Int)-1-j))]) a2 W1 S (λ_=>undef):=
   Eg uZ.1 uZ.2.1 (λ_=>rfl) (gf _ _ _ M1) (Ei (λx hx=>by
    simp only[je,zw,or_false]at hx;rcases hx with rfl|rfl
    .rw[uZ.2.2.2];exact⟨dh.1,λ_=>by obtain⟨g,o,cs,hu,_⟩:=dh.1;rw[hu];rfl⟩
    .exact hint (by rw[uY];exact M0))) (λi v hv=>by
     simp only[VU]at hv;split at hv
     .rename_i e;subst e;simp only[j5]at hv;subst hv;exact⟨rfl,by rw[uY,if_pos rfl]⟩
     .exact mO uZ i v hv)
  have hx:∃x,xs[m-1-j]? = some x/\List.getD xs (Int.toNat ((m:Int)-1-j)) t.dflt=x:=by refine⟨xs[m-1-j]'hlen,jk hlen,?_⟩;rw[show Int.toNat ((m:Int)-1-j)=m-1-j by omega];simp[List.getD,hlen]
  obtain⟨x,hx,hxd⟩:=hx;have VV:=e3 xs ((m:Int)-1-j)
  rw[hxd,show inR ((m:Int)-1-j) (List.length xs)=true by
   unfold inR;rw[yq (show (0:Int)<=(m:Int)-1-j by omega),yq (show (m:Int)-1-j<(List.length xs:Int) by omega)];rfl,j6]at VV
  refine MQ hT hC ?_ l3 1 (λk o hk=>⟨?_,?_⟩) cH (Eh _) VV
  rotate_left
  .rw[pE,Nat.add_comm,yj,List.getElem?_append_left (jx.1 hk).1];exact hk
  .exact aR o (qr _ (jz _ (kc hk)))
  intro σ3 a3 W3 S3 γ3 gj _ lT;obtain⟨xU,M5,c,MU,M6⟩:=jEk lT;have xU:=BO gj xU;have M5:=BO gj M5;have M7:VRep S3 W3 ⟨t,x⟩ (tm a3 16):=by have:=gj.slot 16;rw[MU]at this;exact(CL (np:=(bwE T).np) jAD gj.box M6 this).2.1 S3 W3 (.refl _ _) (λy hy=>by simp at hy)
  have Hf:=w7 gj;have h11:tm a3 11=yv:=(gj.fix 11 yv rfl).2;have su:Fr a3:=⟨gj.size,gj.defers,(gj.fix 0 yv rfl).2,(gj.fix 1 z0 rfl).2⟩;obtain⟨fn6,Ek,as6,bo6,hy6,sv⟩:=nS S3 W3 x _ Hf ⟨gj.ext,λg o h=>(gj.new g o h).imp id λh=>h.nil rfl,gj.here⟩ hx M7;have M8:ops[6]? = some o6:=by rw[pE,yj,kj (by omega),wX];rfl
  have M9:ops[7]? = some o7:=by rw[pE,yj,kj (by omega),wX];rfl
  simp only[wpOpsIn,M8,hw o6 _ (by simp),if_true];refine⟨λ_ _=>trivial,?_⟩
  have aL:(execOp a3.eval o6).run P W3 = .ok (.round l fn6 Ek as6 bo6) W3:=by
   refine jrz zD MX (l:=l) (by rw[<-VT];exact h11) ?_;rw[HX];have Na:a3.eval (.tmp 12) = .int .i64 ((m-1-j:Nat):Int):=by rw[show ((m-1-j:Nat):Int)=(m:Int)-1-j by omega];exact xU
   have e16:a3.eval (.tmp 16)=tm a3 16:=rfl;simp only[List.map_toArray,ke,List.map_nil,Na,e16];exact hy6
  rw[show o6.semAt (FR none).round a3.eval=execOp a3.eval o6 from rfl,aL,Oper.uponIn_round];refine⟨λhd=>by simp[FR,Fence.wide]at hd,?_⟩;refine RoundIn.mono ⟨sv.1,λc cs _=>sv.2 c cs (UR _ _)⟩ ?_;have El:17<a3.tmps.size:=by rw[su.1];omega
  have rest:∀(bb:Bool)(W4:World)(S4:aP),(∀g o,S4 g o->g<W4.heap.size)->
    (∀a5 W5,Fr a5->Grew W4 W5->tm a5 18 = .bool (!bb)->tm a5 3 = .int .i64 ((m:Int)-1-j)->(Exit.then ((Code.cond (.tmp 18) .ret .skip).wpIn (FR none) 0 P (Exit.inBlock b1 (Exit.then ((Code.region r2 A2 false).wpIn (FR none) 0 P (Exit.then (λa' W'=>Inv a' W'/\μ a' W'<μ a W) (Exit.inBlock b0 (bodyPost P fn R))))
     (Exit.then (λa' W'=>Inv a' W'/\μ a' W'<μ a W) (Exit.inBlock b0 (bodyPost P fn R)))))) (Exit.inBlock b1 (Exit.then ((Code.region r2 A2 false).wpIn (FR none) 0 P (Exit.then (λa' W'=>Inv a' W'/\μ a' W'<μ a W) (Exit.inBlock b0 (bodyPost P fn R))))
     (Exit.then (λa' W'=>Inv a' W'/\μ a' W'<μ a W) (Exit.inBlock b0 (bodyPost P fn R)))))) .normal a5 W5)->
    wpOpsIn (FR none) 0 P ops (Exit.then ((Code.cond (.tmp 18) .ret .skip).wpIn (FR none) 0 P (Exit.inBlock b1 (Exit.then ((Code.region r2 A2 false).wpIn (FR none) 0 P (Exit.then (λa' W'=>Inv a' W'/\μ a' W'<μ a W) (Exit.inBlock b0 (bodyPost P fn R))))
     (Exit.then (λa' W'=>Inv a' W'/\μ a' W'<μ a W) (Exit.inBlock b0 (bodyPost P fn R)))))) (Exit.inBlock b1 (Exit.then ((Code.region r2 A2 false).wpIn (FR none) 0 P (Exit.then (λa' W'=>Inv a' W'/\μ a' W'<μ a W) (Exit.inBlock b0 (bodyPost P fn R))))
     (Exit.then (λa' W'=>Inv a' W'/\μ a' W'<μ a W) (Exit.inBlock b0 (bodyPost P fn R)))))) [7] (a3.put o6.dst (.bool bb)) W4:=by
   intro bb W4 S4 hS4 gR;rw[h6d];obtain⟨a4,HY⟩:∃a4,a4=a3.put (some 17) (.bool bb):=⟨_,rfl⟩;rw[<-HY];have u5:∀i,tm a4 i=if i=17 then .bool bb else tm a3 i:=λi=>by rw[HY];exact oa El _ i
   have zF:Fr a4:=⟨by rw[HY,qT];exact su.1,by rw[HY,wF];exact su.2.1,by rw[u5];exact su.2.2.1,by rw[u5];exact su.2.2.2⟩
   have nr:Rel (bwE T).N (bwE T).np S4 W4 { blks:=[],val:=λ_=>none,fix:=fx } (slF [(17,.one (.d .bool bb)),(3,intP ((m:Int)-1-j))]) a4 W4 S4 (λ_=>undef):=
    Eg zF.1 zF.2.1 (λ_=>rfl) hS4 (Ei (λx hx=>by
     simp only[je,zw,or_false]at hx;rcases hx with rfl|rfl
     .rw[u5,if_pos rfl];exact⟨rfl,λ_=>rfl⟩
     .exact hint (by rw[u5];exact M5))) (mO zF)
   refine MQ (rest:=[]) hT hC (λσ5 a5 W5 S5 γ5 nu _ kV=>?_) [o7] 7 (λk o hk=>?_) nr (Eh _) (e7 bb _)
   .obtain⟨q1,q2⟩:=jEj kV;exact gR a5 W5 (ir nu) (w7 nu) (VS nu q1) (BO nu q2)
   .cases k with
    |zero=>simp at hk;subst hk;exact⟨M9,aR _ (by simp)⟩
    |succ k=>simp at hk
  rintro e W4 (⟨rfl,S4,Nb⟩|⟨rfl,hx4⟩)
  .refine rest true W4 S4 (gf _ _ _ Nb) (λa5 W5 sw HZ Nc VW=>?_);refine wpIn_cond_false (c:= .tmp 18) Nc (wpIn_skip ?_);show (Code.region r2 A2 false).wpIn _ _ _ _ _ _;have Nd:=aM _ _ _ _ _ HZ (same Nb HZ) Nb
   have nu:Rel (bwE T).N (bwE T).np S4 W5 { blks:=[],val:=λ_=>none,fix:=fx } (slF [(3,intP ((m:Int)-1-j))]) a5 W5 S4 (λ_=>undef):=
    Eg sw.1 sw.2.1 (λ_=>rfl) (gf _ _ _ Nd) (Ei (λx hx=>by
     simp only[kr]at hx;subst hx;exact hint VW)) (mO sw)
   refine wpIn_mono (MT hT nu (Eh _) (e2 _)) ?_
   rintro e a6 W6 ⟨rfl,σ6,S6,γ6,pM,hk6⟩
   have w8:=BO pM (VR hk6);rw[im (by omega) (by omega)]at w8;refine⟨⟨ir pM,j+1,S4,by omega,aM _ _ _ _ _ (w7 pM) (same Nd (w7 pM)) Nd,?_⟩,?_⟩
   .rw[w8];congr 1;push_cast;omega
   .simp only[μ,w8,h3];omega
  .refine rest false W4 (λ_ _=>False) (λ_ _ h=>h.elim) (λa5 W5 sw HZ Nc VW=>?_);refine wpIn_cond_true (c:= .tmp 18) Nc (wpIn_ret ?_);exact dY sw.2.1 (.inr (yx _ _ HZ hx4))
end
def zG:Code->List (Nat×Array Oper)
 |.seq x y=>zG x++zG y
 |.cond _ x y=>zG x++zG y
 |.block _ c=>zG c
 |.loop c=>zG c
 |.region id ops _=>[(id,ops)]
 |_=>[]
def bwA(fn:Func)(i:Nat):Array Oper:=(((zG (fn.body.getD .skip)).find? λx=>x.1==i).getD (0, #[])).2
def opAt(A:Array Oper)(i:Nat):Oper:=(A[i]?).getD default
def Nf(o:Oper):Call:=match o.op with
 |.call c=>c
 |_=>default
theorem jEl{P:Program}{T:Nat->Option TyI}(hT:cO P T){f:Nat}{t:Ty}{fn:Func}(hf:P.funcs[f]? = some fn){A0 A1 A2 A3:Array Oper}
  (hb:fn.body=some ((Code.region 0 A0 false).seq (Code.block 0 ((((Code.region 1 A1 false).seq (Code.cond (.tmp 8) .skip (.exit 0))).seq ((Code.block 1 ((Code.region 3 A3 false).seq (Code.cond (.tmp 18) .ret .skip))).seq (Code.region 2 A2 false))).loop))))
  (hA:A3=(opAt A3 0::((A3.toList.drop 1).take 5++[opAt A3 6,opAt A3 7])).toArray)
  (MV : fn.ntmps = 19) (mM : fn.results = #[]) (cb : (fn.name == "runtime.NumGoroutine") = false) (wX : ((A3.toList.drop 1).take 5).length = 5) (ct : (opAt A3 0 :: ((A3.toList.drop 1).take 5 ++ [opAt A3 6, opAt A3 7])).all (fun o => o.guard.isNone) = true)
  (zC:(opAt A3 0).op = .move (.tmp 0))(MW:(opAt A3 0).dst=some 11)(zD:(opAt A3 6).op = .call (Nf (opAt A3 6)))(MX:(Nf (opAt A3 6)).callee = .value (.tmp 11))(HX:(Nf (opAt A3 6)).args = #[.tmp 12,.tmp 16]/\(opAt A3 6).dst=some 17)
  (e0:∀xs:List t.den,qG (bwE T) A0 (slF [(1,lstP t xs)]) g3=some (w64 (Int.ofNat (List.length xs)-1)))
  (e1:∀i:Int,qG (bwE T) A1 (slF [(3,intP i)]) g1=some (decide (i>=0),i))
  (e2:∀i:Int,qG (bwE T) A2 (slF [(3,intP i)]) g3=some (w64 (i-1)))
  (e3:∀(xs:List t.den)(i:Int),mZ (bwE T) ((A3.toList.drop 1).take 5) (slF [(1,lstP t xs),(3,intP i)]) (g16 t)=cond (inR i (List.length xs)) (some (i,List.getD xs (Int.toNat i) t.dflt,i)) none)
  (e7:∀(b:Bool)(i:Int),mZ (bwE T) [opAt A3 7] (slF [(17,.one (.d .bool b)),(3,intP i)]) g18=some (!b,i)):BwOK P f t:=by
 rw[hA]at hb;exact jFD hT hf hb MV mM cb wX ct zC MW zD MX HX.1 HX.2 e0 e1 e2 e3 e7
open Go.RowKit Go.WideShapes Go.ChangeShapes
theorem jyl{P:Program}{f:Nat}{ps:List APat}{ts:List Ty}{F:HL ts->Option Bool}(bH:Con.OK P ⟨f,ps,ts,⟨[.v .bool],[]⟩,[.bool],F⟩)(h:HL ts)(hF:F h=some true)
  (w:World)(S:aP)(vals:List Value)(ha:All2 (oT S w) (ra ps ts h) vals)(hr:eI (ra ps ts h) vals=[])(hS:∀g o,S g o->g<w.heap.size)(hu:HQ ps ts (ra ps ts h)=some h) :
  Calls P f vals.toArray w λe w'=>e = .returned (.bool true)/\Below w.heap.size w w':=by
 have:=(bH (ra ps ts h) Ret some (jmp ⟨[.v .bool],[]⟩ [.bool] true) (by
  unfold Con.C;rw[hu];show (F h).bind _=_;rw[hF];rfl)).2
 refine(this w S vals ha (by rw[hr];exact v6) hS).mono ?_
 rintro e w' ⟨ret,cW,v,S',vs,rfl,bH⟩
 simp only[j5]at cW;subst cW;have bS:All2 (qQ S' w') [.v ⟨.bool,true⟩] vs:=bH.rep;refine⟨?_,bH.os,bH.tape,bH.output,bH.grow,λk hk=>bH.below k hk (by rw[hr];simp)⟩;rw[bH.val];match vs,bS with
 |[u],bS=>have h1:=bS.1;have h2:u.cells.toList=[.bool true]/\(jS Ty.bool=true->∃cs,u=Value.agg cs)/\(jS Ty.bool=false->One u):=h1;have h3:=AY (h2.2.2 rfl);rw[h2.1]at h3;simp only[List.cons.injEq,and_true]at h3;rw[<-h3];rfl
 |[],bS=>exact absurd bS (by simp[All2])
 |_::_::_,bS=>exact absurd bS (by simp[All2])
theorem jps{H:Type}{enc:TypeId×Value->H}{P:Program}{f:Func}{s:ChangeSpec}{apart fresh handsOn again:Bool}{W W':World}{args:Array Value}{v:Value}{ds gs:List (DataW H)}{before pa pv:List MemPlace}
  (hW:DataW.Whole enc P f.params.toList s.vars apart W args.toList ds gs before)
  (mM:∀(b:Nat)(sp:Nat->Bool)(hd:Bool),DataW.TrodAll enc P W' b sp hd f.resultTypes.toList (v.resultList f.resultTypes.size) (s.fn H (ds++gs)).results [])
  (fi:∀sp:Nat->Bool,(∀p∈before,sp p.block=true)->DataW.TrodAll enc P W' 0 sp true f.params.toList args.toList (s.fn H (ds++gs)).args pa)
  (w9:∀sp:Nat->Bool,(∀p∈before,sp p.block=true)->DataW.TrodVars enc P W' sp s.vars (s.fn H (ds++gs)).vars pv)
  (hP:before=pa++pv)(hb:Below W.heap.size W W')
  (bH:∀(j:Nat)(t:TypeId)(r:Value),f.resultTypes[j]? = some t->(v.resultList f.resultTypes.size)[j]? = some r->Value.okWide P W' .any 0 t r) :
  s.post enc P f apart fresh handsOn again W args v W':=by
 have ak:∀p∈before,p.block<W.heap.size:=λp hp=>hW.lt p hp;have hold:∀p∈before,(λb=>decide (b<W.heap.size)) p.block=true:=λp hp=>by simpa using ak p hp
 refine⟨ds,gs,before,[],pa,pv,hW,mM _ _ _,fi _ hold,w9 _ hold,World.keptBut_mono (λp hp=>⟨hp,?_⟩) (hb.frame (· ∈ before)),λ_=>?_⟩
 .rw[hP,jn]at hp;exact Or.inr hp
 .obtain⟨_,_,_,_,_,hz,hn⟩:=hW;refine⟨bH,_,_,([]++pa)++pv,⟨[]++pa,pv,trodAll_append (fi _ (λ_ _=>rfl)) (mM _ _ _),w9 _ (λ_ _=>rfl),rfl,?_,?_⟩,?_⟩
  .intro b off hp;have gM:MemPlace.cell b off∈before:=by rw[hP];simpa using hp
   rw[hb.frozen (ak _ gM)];exact hz b off gM
  .intro ha;have:=hn ha;rw[hP]at this;simpa using this
  .intro p hp _;rw[hP];simpa using hp
open Go.RowKit Go.WideShapes Go.ChangeShapes
def u6(P:Program):Nat->TypeId->Ty->Bool
 |0,_,_=>false
 |n+1,t,ty=>match P.underlying t with
  |some (.int k)=>decide (ty = .int k)
  |some .bool=>decide (ty = .bool)
  |some .string=>decide (ty = .str)
  |some (.slice e)=>match ty with
   |.list a=>u6 P n e a&&decide (P.cellsOf e=a.size)&&decide (0<a.size)
   |_=>false
  |_=>false
def Wf:(t:Ty)->t.den->Prop
 |.int k,n=>(Lit.int k n).wf=true
 |.bool,_=>True
 |.str,s=>s.size<=maxLen
 |.unit,_=>True
 |.wrap a,v=>Wf a v
 |.pair a b,v=>Wf a v.1/\Wf b v.2
 |.list a,xs=>List.length xs<=maxLen/\∀x∈(show List a.den from xs),Wf a x
 |.arr _ _,_=>True
theorem H0{α β:Type}{f:α->Option β}:∀{l:List α}{ys:List β},l.mapM f=some ys->ys.length=l.length/\∀(i:Nat)(x:α),l[i]? = some x->∃y,ys[i]? = some y/\f x=some y
 |[],ys,h=>by
  simp at h;subst h;exact⟨rfl,λi x hx=>by simp at hx⟩
 |a::l,ys,h=>by
  rw[List.mapM_cons]at h;cases ha:f a with
  |none=>simp[ha]at h
  |some y=>
   cases hl:l.mapM f with
   |none=>simp[ha,hl]at h
   |some zs=>
    simp[ha,hl]at h;subst h;obtain⟨h1,h2⟩:=H0 hl;refine⟨by simp[h1],λi x hx=>?_⟩;cases i with
    |zero=>simp at hx;subst hx;exact⟨y,rfl,ha⟩
    |succ i=>simp at hx;obtain⟨z,hz,hf⟩:=h2 i x hx;exact⟨z,by simpa using hz,hf⟩
theorem H2{α β:Type}{f g:α->Option β}:∀{l:List α}{ys:List β},l.mapM f=some ys->(∀x∈l,∀y,y∈ys->f x=some y->g x=some y)->l.mapM g=some ys
 |[],ys,h,_=>by simpa using h
 |a::l,ys,h,hk=>by
  rw[List.mapM_cons]at h ⊢;cases ha:f a with
  |none=>simp[ha]at h
  |some y=>
   cases hl:l.mapM f with
   |none=>simp[ha,hl]at h
   |some zs=>simp[ha,hl]at h;subst h;rw[hk a (by simp) y (by simp) ha,H2 hl (λx hx z hz hf=>hk x (by simp[hx]) z (by simp[hz]) hf)];rfl
theorem VX{α:Type}{Q:Nat->α->Prop}:∀n,(∀i,i<n->∃x,Q i x)->∃xs:List α,xs.length=n/\∀i x,xs[i]? = some x->Q i x
 |0,_=>⟨[],rfl,λi x h=>by simp at h⟩
 |n+1,h=>by
  obtain⟨xs,hl,hx⟩:=VX n (λi hi=>h i (by omega));obtain⟨x,hq⟩:=h n (by omega);refine⟨xs++[x],by simp[hl],λi y hy=>?_⟩;rcases qx i n with hi|hi
  .rw[List.getElem?_append_left (by omega)]at hy;exact hx i y hy
  .have:i=n:=by have:=(jx.1 hy).1;simp[hl]at this;omega
   subst this;rw[kj (by omega),hl,Nat.sub_self]at hy;simp at hy;subst hy;exact hq
theorem VY{α β:Type}{R:α->β->Prop}:∀{as:List α}{bs:List β},as.length=bs.length->(∀(i:Nat)(a:α)(b:β),as[i]? = some a->bs[i]? = some b->R a b)->All2 R as bs
 |[],[],_,_=>trivial
 |a::as,b::bs,hl,h=>⟨h 0 a b rfl rfl,VY (by simpa using hl) λi x y hx hy=>h (i+1) x y (by simpa using hx) (by simpa using hy)⟩
 |[],_::_,hl,_=>by simp at hl
 |_::_,[],hl,_=>by simp at hl
theorem VZ{m:Nat}:∀{css:List (List Value)},(∀c∈css,c.length=m)->∀{j:Nat}{v:Value},css.flatten[j]? = some v->∃i r c,j=i*m+r/\r<m/\css[i]? = some c/\c[r]? = some v
 |[],_,j,v,h=>by simp at h
 |c::css,hl,j,v,h=>by
  simp only[kx]at h;have hc:=hl c (by simp);rcases qx j c.length with hj|hj
  .rw[List.getElem?_append_left hj]at h;exact⟨0,j,c,by omega,by omega,rfl,h⟩
  .rw[kj hj]at h;obtain⟨i,r,c',e,hr,hi,hv⟩:=VZ (λx hx=>hl x (by simp[hx])) h;exact⟨i+1,r,c',by rw[Nat.add_mul];omega,hr,by simpa using hi,hv⟩
def Ext(W W':World):Prop:=∀(k:Nat) x,W.heap[k]? = some x->W'.heap[k]? = some x
theorem Ext.cell{W W':World}(h:Ext W W'){a:Addr}{v:Value}(hc:W.cell? a=some v):W'.cell? a=some v:=by
 unfold World.cell? at hc ⊢;split at hc
 .rename_i c _ _ hb;rw[h _ _ hb];exact hc
 .simp at hc
theorem Ext.cells{W W':World}(h:Ext W W'){a:Addr}{n:Nat}{cs:List Value}(hc:W.cells? 0 a n=some cs):W'.cells? 0 a n=some cs:=by
 unfold World.cells? at hc ⊢;simp only[kf,if_true]at hc ⊢;exact H2 hc λi _ y _ hf=>h.cell hf
theorem Ng{W:World}{a:Addr}{n:Nat}{cs:List Value}(hc:W.cells? 0 a n=some cs):cs.length=n/\∀i v,cs[i]? = some v->W.cell? (a.add i)=some v:=by
 unfold World.cells? at hc;simp only[kf,if_true]at hc;obtain⟨h1,h2⟩:=H0 hc;simp only[List.length_range]at h1;refine⟨h1,λi v hv=>?_⟩;have hi:i<n:=by rw[<-h1];exact(jx.1 hv).1
 obtain⟨y,hy,hf⟩:=h2 i i (by simp[hi]);rw[hv]at hy;simp at hy;subst hy;exact hf
theorem V0{W:World}{a:Addr}{v:Value}(h:W.cell? a=some v):a.block<W.heap.size/\a.spot=none:=by
 unfold World.cell? at h;split at h
 .rename_i c _ _ hb;refine⟨(ji.1 hb).1,?_⟩;split at h
  .simp at h
  .rename_i hs;simpa using hs
 .simp at h
def oldS(W:World):aP:=λg _=>g<W.heap.size
def H3{H:Type}(enc:TypeId×Value->H)(P:Program)(W:World)(held:Bool)(fuel:Nat)(t:TypeId)(ty:Ty)(cs:List Value)(d:DataW H)(ps:List MemPlace):Prop:=
 cs.length=ty.size/\(∃v:ty.den,Rep (oldS W) W ty v cs/\Wf ty v)/\
  ∀W' sp,Ext W W'->(∀q∈ps,sp q.block=true)->DataW.trod enc P W' 0 sp held fuel t cs=some (d,ps)
section
variable{H:Type}{enc:TypeId×Value->H}{P:Program}{W:World}{held:Bool}
theorem jyn{a:Addr}{n:Nat}(hn:0<n):∃q∈MemPlace.row a n,q.block=a.block:=
 ⟨.cell a.block (a.off+0),jt.2 ⟨0,by simp[hn],rfl⟩,rfl⟩
theorem jtj{n:Nat}{t e:TypeId}{el:Ty}(hu:P.underlying t=some (.slice e))(bU:P.cellsOf e=el.size)(bJ:0<el.size){fuel:Nat}{cs:List Value}{d:DataW H}{ps:List MemPlace}
  (ih:∀(m:Nat)(cs:List Value)(d:DataW H)(ps:List MemPlace),DataW.trod enc P W 0 (λ_=>true) held m e cs=some (d,ps)->H3 enc P W held m e el cs d ps)
  (h:DataW.trod enc P W 0 (λ_=>true) held fuel t cs=some (d,ps)):H3 enc P W held fuel t (.list el) cs d ps:=by
 cases fuel with
 |zero=>simp[DataW.trod]at h
 |succ m=>
  have h':=h;unfold DataW.trod at h;rw[hu]at h;split at h;all_goals (try (rename_i heq _;simp at heq;done))
  all_goals (try (rename_i heq;simp at heq;done))
  .rename_i heq;refine⟨rfl,⟨[],⟨none,0,rfl,js _,kf _,λ_=>rfl,λb hb=>by simp at hb⟩,⟨kf _,by simp⟩⟩,λW' sp _ _=>?_⟩;unfold DataW.trod;rw[hu];exact h
  .rename_i e' a len cap heq;simp only[j5,TypeDesc.slice.injEq]at heq;subst heq;simp only[kf,qj,if_true]at h;split at h
   .rename_i hc;cases eX:(List.range len).mapM (λi=>(W.cells? 0 (a.add (i*P.cellsOf e)) (P.cellsOf e)).bind (DataW.trod enc P W 0 (λ_=>true) held m e)) with
    |none=>rw[eX]at h;simp at h
    |some elems=>
     rw[eX]at h;simp only[j4]at h;cases H4:(List.range (cap-len)).mapM (λj=>(W.cells? 0 (a.add ((len+j)*P.cellsOf e)) (P.cellsOf e)).bind (DataW.trod enc P W 0 (λ_=>true) held m e)) with
     |none=>rw[H4]at h;simp at h
     |some rest=>
      rw[H4]at h;simp only[qa,j5,j9]at h;obtain⟨rfl,rfl⟩:=h;obtain⟨l1,g1⟩:=H0 eX;obtain⟨l2,g2⟩:=H0 H4;simp only[List.length_range]at l1 l2
      have one:∀i y,(W.cells? 0 (a.add (i*P.cellsOf e)) (P.cellsOf e)).bind (DataW.trod enc P W 0 (λ_=>true) held m e)=some y->∃c,W.cells? 0 (a.add (i*P.cellsOf e)) (P.cellsOf e)=some c/\H3 enc P W held m e el c y.1 y.2:=by
       intro i y hy;cases hc:W.cells? 0 (a.add (i*P.cellsOf e)) (P.cellsOf e) with
       |none=>rw[hc]at hy;simp at hy
       |some c=>rw[hc]at hy;exact⟨c,rfl,ih m c y.1 y.2 hy⟩
      refine⟨rfl,?_,?_⟩
      .have each:∀i,i<len->∃x:el.den×List Value,W.cells? 0 (a.add (i*P.cellsOf e)) (P.cellsOf e)=some x.2/\Rep (oldS W) W el x.1 x.2/\Wf el x.1:=by intro i hi;obtain⟨y,hy,hf⟩:=g1 i i (by simp[hi]);obtain⟨c,eG,_,⟨v,hv,hw⟩,_⟩:=one i y hf;exact⟨(v,c),eG,hv,hw⟩
       obtain⟨xs,ni,gz⟩:=VX len each;have Em:∀c∈xs.map (·.2),c.length=P.cellsOf e:=by intro c hc;obtain⟨x,hx,rfl⟩:=jt.1 hc;obtain⟨i,hi⟩:=zd.1 hx;exact(Ng (gz i x hi).1).1
       refine⟨xs.map (·.1),?_,?_⟩
       .refine⟨some a,cap,by simp[ni],by simp[ni,hc.1],hc.2,by simp,λb hb=>?_⟩;simp only[j5]at hb;subst hb;have xa:len≠0->a.spot=none:=by intro hl;obtain⟨x,hx⟩:∃x,xs[0]? = some x:=⟨xs[0],jk (by omega)⟩;obtain⟨k1,k2⟩:=Ng (gz 0 x hx).1;obtain⟨v,hv⟩:∃v,x.2[0]? = some v:=⟨x.2[0],jk (by omega)⟩;have:=(V0 (k2 0 v hv)).2;simpa[Addr.add]using this
        refine⟨λbk=>xa (λh0=>bk (by rw[List.map_eq_nil_iff];exact kb (by omega))),xs.map (·.2),VY (by simp) (λi x c hx hc=>?_),λj v hv=>?_⟩
        .simp only[qi,Option.map_eq_some_iff]at hx hc;obtain⟨y,hy,rfl⟩:=hx;obtain⟨z,hz,rfl⟩:=hc;rw[hy]at hz;simp at hz;subst hz;exact(gz i y hy).2.1
        .obtain⟨i,r,c,hj,hr,nO,tz⟩:=VZ Em hv;simp only[qi,Option.map_eq_some_iff]at nO;obtain⟨x,hx,rfl⟩:=nO;have dK:=(Ng (gz i x hx).1).2 r v tz;have kZ:i<len:=by rw[<-ni];exact(jx.1 hx).1
         have hs:=xa (by omega);have xQ:(a.add (i*P.cellsOf e)).add r=⟨a.block,a.off+j,none⟩:=by obtain⟨g,o,s⟩:=a;simp only at hs;subst hs;simp only[Addr.add];split<;>split<;>simp<;>omega
         rw[xQ]at dK;exact⟨(V0 dK).1,dK⟩
       .refine⟨by simp only[k5,ni];omega,λx hx=>?_⟩;obtain⟨y,hy,rfl⟩:=jt.1 hx;obtain⟨i,hi⟩:=zd.1 hy;exact(gz i y hi).2.2
      .intro W' sp hE dQ
       have keep:∀i y,y∈elems++rest->(W.cells? 0 (a.add (i*P.cellsOf e)) (P.cellsOf e)).bind (DataW.trod enc P W 0 (λ_=>true) held m e)=some y->
         (W'.cells? 0 (a.add (i*P.cellsOf e)) (P.cellsOf e)).bind (DataW.trod enc P W' 0 sp held m e)=some y:=by
        intro i y hy hf;obtain⟨c,eG,_,_,hk⟩:=one i y hf;rw[hE.cells eG];exact hk W' sp hE (λq hq=>dQ q (k7 _ (qo.2 ⟨y,hy,hq⟩)))
       unfold DataW.trod;rw[hu];simp only[kf,qj];rw[if_pos hc,H2 eX (λi _ y hy hf=>keep i y (jz _ hy) hf)];simp only[j4]
       have eQ:(if sp a.block=true then (List.range (cap-len)).mapM (λj=>(W'.cells? 0 (a.add ((len+j)*P.cellsOf e)) (P.cellsOf e)).bind (DataW.trod enc P W' 0 sp held m e)) else some [])=some rest:=by
        split
        .exact H2 H4 (λj _ y hy hf=>keep (len+j) y (k7 _ hy) hf)
        .rename_i hsf;rcases Nat.eq_zero_or_pos ((elems.length+rest.length)*P.cellsOf e) with h0|h0
         .have:rest=[]:=by
           rcases Nat.mul_eq_zero.1 h0 with h|h
           .exact kb (by omega)
           .omega
          rw[this]
         .obtain⟨q,hq,hb⟩:=jyn (a:=a) h0;have:=dQ q (jz _ hq);rw[hb]at this;exact absurd this hsf
       rw[eQ];rfl
   .simp at h
  .simp at h
theorem V1:∀(n:Nat)(t:TypeId)(ty:Ty),u6 P n t ty=true->∀(fuel:Nat)(cs:List Value)(d:DataW H)(ps:List MemPlace),DataW.trod enc P W 0 (λ_=>true) held fuel t cs=some (d,ps)->
  H3 enc P W held fuel t ty cs d ps
 |0,_,_,hc,_,_,_,_,_=>by simp[u6]at hc
 |n+1,t,ty,hc,fuel,cs,d,ps,h=>by
  have ih:=V1 n;cases fuel with
  |zero=>simp[DataW.trod]at h
  |succ m=>
  have iS:=hc;unfold u6 at hc;split at hc
  .rename_i k hu;have:=kz hc;subst this;obtain⟨z,rfl,hx,hw⟩:=DataW.trod_int hu h;refine⟨rfl,⟨z,rfl,hw⟩,λW' sp _ _=>?_⟩;simp only[j9]at hx;rw[hx.1,hx.2];exact trod_int_mk m hu hw
  .rename_i hu;have:=kz hc;subst this;obtain⟨z,rfl,hx⟩:=DataW.trod_bool hu h;refine⟨rfl,⟨z,rfl,trivial⟩,λW' sp _ _=>?_⟩;unfold DataW.trod at h ⊢;rw[hu]at h ⊢;exact h
  .rename_i hu;have:=kz hc;subst this;obtain⟨z,rfl,hx,hw⟩:=DataW.trod_string hu h;refine⟨rfl,⟨z,rfl,hw⟩,λW' sp _ _=>?_⟩;unfold DataW.trod at h ⊢;rw[hu]at h ⊢;exact h
  .rename_i e hu;split at hc
   .rename_i a;simp only[jc,jo]at hc;exact jtj (n:=n) hu hc.1.2 hc.2 (λm cs d ps h=>ih e a hc.1.1 m cs d ps h) h
   .simp at hc
  .simp at hc
end
theorem H5{P:Program}{W:World}{r:Reach}{base:Nat}{t:TypeId}{v:Value}{d:TypeDesc}(hu:P.underlying t=some d)(hd:(∃k,d = .int k)\/d = .bool\/d = .string\/∃e,d = .slice e)(h:Value.okWide P W r base t v):One v:=by
 have hc:Cell.ok P W r base t v:=by unfold Value.okWide at h;rw[hu]at h;rcases hd with⟨k,rfl⟩|rfl|rfl|⟨e,rfl⟩<;>(dsimp only at h;unfold Cell.okWide at h;rw[hu]at h;exact h)
 unfold Cell.ok at hc;rw[hu]at hc;rcases hd with⟨k,rfl⟩|rfl|rfl|⟨e,rfl⟩<;>cases v<;>first|rfl|(exact absurd hc (by simp))
theorem jAF{H:Type}{enc:TypeId×Value->H}{P:Program}{W:World}{n:Nat}{t:TypeId}{ty:Ty}(gS:u6 P n t ty=true){r:Reach}{base:Nat}{v:Value}(bH:Value.okWide P W r base t v){d:DataW H}{p:List MemPlace}
  (h:DataW.Trod enc P W 0 (λ_=>true) true t v d p) :
  ∃x:ty.den,oT (oldS W) W (.v ⟨ty,x⟩) v/\Wf ty x/\∀W' sp,Below W.heap.size W W'->(∀q∈p,sp q.block=true)->DataW.Trod enc P W' 0 sp true t v d p:=by
 obtain⟨fuel,h⟩:=h;obtain⟨_,⟨x,hx,hw⟩,hk⟩:=V1 n t ty gS fuel _ d p h;refine⟨x,⟨hx,λhm=>?_,λhm=>?_⟩,hw,λW' sp hb dQ=>⟨fuel,hk W' sp (λk y hy=>by rw[hb.block k (ji.1 hy).1];exact hy) dQ⟩⟩
 .cases n with
  |zero=>simp[u6]at gS
  |succ n=>
   unfold u6 at gS;split at gS
   .have:=kz gS;subst this;simp[jS,Ty.agg]at hm
   .have:=kz gS;subst this;simp[jS,Ty.agg]at hm
   .have:=kz gS;subst this;simp[jS,Ty.agg]at hm
   .split at gS
    .simp[jS,Ty.agg]at hm
    .simp at gS
   .simp at gS
 .cases n with
  |zero=>simp[u6]at gS
  |succ n=>
   unfold u6 at gS;split at gS
   .rename_i k hu;exact H5 hu (.inl ⟨k,rfl⟩) bH
   .rename_i hu;exact H5 hu (.inr (.inl rfl)) bH
   .rename_i hu;exact H5 hu (.inr (.inr (.inl rfl))) bH
   .rename_i e hu;exact H5 hu (.inr (.inr (.inr ⟨e,rfl⟩))) bH
   .simp at gS
def OLe{α:Type}(a b:Option α):Prop:=∀r,a=some r->b=some r
theorem OLe.refl{α:Type}(a:Option α):OLe a a:=λ_ h=>h
theorem OLe.none{α:Type}(a:Option α):OLe none a:=λ_ h=>by simp at h
theorem OLe.bind{α β:Type}{a b:Option α}{f g:α->Option β}(h:OLe a b)(h':∀x,OLe (f x) (g x)):OLe (a.bind f) (b.bind g):=by
 intro r hr;cases a with
 |none=>simp at hr
 |some x=>rw[h x rfl];exact h' x r hr
theorem OLe.cond{α:Type}{c:Bool}{a b a' b':Option α}(h:OLe a a')(h':OLe b b'):OLe (cond c a b) (cond c a' b'):=by
 cases c with
 |true=>exact h
 |false=>exact h'
theorem OLe.sumC{α β γ:Type}{x:α ⊕ β}{f f':α->Option γ}{g g':β->Option γ}(h:∀x,OLe (f x) (f' x))(h':∀x,OLe (g x) (g' x)):OLe (sumC x f g) (Lft.sumC x f' g'):=by
 cases x with
 |inl a=>exact h a
 |inr b=>exact h' b
theorem OLe.loopN{α β:Type}{f g:α->Option (α ⊕ β)}(h:∀s,OLe (f s) (g s)):∀(n:Nat)(s:α),OLe (Lft.loopN f n s) (Lft.loopN g n s)
 |0,_=> .none _
 |n+1,s=>by
  intro r hr;simp only[Lft.loopN]at hr ⊢;cases hf:f s with
  |none=>simp[hf]at hr
  |some x=>
   rw[h s x hf];cases x with
   |inl a=>simp only[hf]at hr;exact OLe.loopN h n a r hr
   |inr b=>simpa[hf]using hr
theorem OLe.loop{α β:Type}{f g:α->Option (α ⊕ β)}(n:Nat)(s:α)(h:∀s,OLe (f s) (g s)):OLe (Lft.loopN f n s) (loopOpt g s):=
 λr hr=>Ec (OLe.loopN h n s r hr)
theorem OLe.loopOpt{α β:Type}{f g:α->Option (α ⊕ β)}(s:α)(h:∀s,OLe (f s) (g s)):OLe (Lft.loopOpt f s) (Lft.loopOpt g s):=by
 intro r hr;obtain⟨n,hn⟩:=Ed hr;exact Ec (OLe.loopN h n s r hn)
theorem V2{α β:Type}{B B':(α->Option β)->α->Option β}(h:∀g g',(∀a,OLe (g a) (g' a))->∀a,OLe (B g a) (B' g' a)):∀n a,OLe (lU B n a) (lU B' n a)
 |0,_=> .none _
 |n+1,a=>h _ _ (V2 h n) a
theorem Nh{α β:Type}{B:(α->Option β)->α->Option β}(h:∀g g',(∀a,OLe (g a) (g' a))->∀a,OLe (B g a) (B g' a)):∀(k n:Nat)(a:α),OLe (lU B n a) (lU B (n+k) a)
 |k,0,a=> .none _
 |k,n+1,a=>by
  rw[show n+1+k=(n+k)+1 by omega];exact h _ _ (Nh h k n) a
theorem OLe.rec{α β:Type}{B B':(α->Option β)->α->Option β}(n:Nat)(a:α)(h:∀g g',(∀a,OLe (g a) (g' a))->∀a,OLe (B g a) (B' g' a))(h':∀g g',(∀a,OLe (g a) (g' a))->∀a,OLe (B' g a) (B' g' a)) :
  OLe (lU B n a) (w6 B' a):=by
 intro r hr;have h1:=V2 h n a r hr;refine VP ⟨n,h1⟩ λm y hy=>?_;have e1:=Nh h' m n a r h1;have e2:=Nh h' n m a y hy;rw[Nat.add_comm m n]at e2;rw[e1]at e2;simpa using e2.symm
theorem oR{α:Type}(a:Option α):OLe a a:=OLe.refl a
theorem oN{α:Type}(a:Option α):OLe none a:=OLe.none a
theorem oB{α β:Type}{a b:Option α}{f g:α->Option β}(h:OLe a b)(h':∀x,OLe (f x) (g x)):OLe (a.bind f) (b.bind g):=OLe.bind h h'
theorem oC{α:Type}{c:Bool}{a b a' b':Option α}(h:OLe a a')(h':OLe b b'):OLe (cond c a b) (cond c a' b'):=OLe.cond h h'
theorem oS{α β γ:Type}{x:α ⊕ β}{f f':α->Option γ}{g g':β->Option γ}(h:∀x,OLe (f x) (f' x))(h':∀x,OLe (g x) (g' x)):OLe (sumC x f g) (Lft.sumC x f' g'):=OLe.sumC h h'
end Go.Lft
