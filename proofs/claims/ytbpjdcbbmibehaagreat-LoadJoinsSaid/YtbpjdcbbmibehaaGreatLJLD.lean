/- Lq of arguments and AV: what is known of them but the data. TD. -/
import Derived.Test.YtbpjdcbbmibehaaGreatLJLC
import Derived.KernelRfl
import Derived.IntWalk
import Derived.Below
import Derived.ChangeSame
noncomputable section
set_option linter.unusedVariables false
namespace Go.Lft
inductive CPat where
 |v (t:Ty)
 |p (ts:List Ty)
 deriving DecidableEq
inductive LPat where
 |dead|nil
 |d (t:Ty)
 |ol (k:Nat)
 |bp (k c:Nat)
 |ep (k i c:Nat)
 |tl (k:Nat)
 |hd (k:Nat)
 |s1 (k:Nat)
 |ip (ts:List Ty)
 |clo (f:Nat) (caps:List CPat)
 |clr (f:Nat) (ks:List Nat)
 deriving DecidableEq
inductive KPat where
 |one (l:LPat)
 |st (ls:List LPat)
 |av (n:Nat) (a:Ty)
 deriving DecidableEq
inductive BPat where
 |free|gone
 |cell (ls:List LPat) (frz:Bool)
 |lst (e:Nat) (a:Ty) (frz:Bool)
 |arr (n:Nat) (a:Ty)
 deriving DecidableEq
inductive IPat where
 |s (c:KPat)
 |b (x:BPat)
 deriving DecidableEq
abbrev iT:Ty:= .int .i64
abbrev sI:IPat:= .s (.one (.d iT))
inductive APat where
 |v (t:Ty)
 |ref (ts:List Ty)
 |rl (e:Nat) (t:Ty)
 |ip (ts:List Ty)
 |clo (f:Nat) (caps:List CPat)
 |mv (e:Nat) (t:Ty)
 deriving DecidableEq
@[reducible] def HL:List Ty->Type
 |[]=>Unit
 |[t]=>t.den
 |t::t'::ts=>t.den×HL (t'::ts)
def ofHL:(ts:List Ty)->HL ts->List TV
 |[],_=>[]
 |[t],h=>[⟨t,h⟩]
 |t::t'::ts,h=>⟨t,h.1⟩::ofHL (t'::ts) h.2
def toHL:(ts:List Ty)->List TV->Option (HL ts)
 |[],[]=>some ()
 |[t],[x]=>x.to t
 |t::t'::ts,x::xs=>match x.to t with
  |some v=>match toHL (t'::ts) xs with
   |some r=>some (v,r)
   |none=>none
  |none=>none
 |_,_=>none
theorem GX:∀{ts:List Ty}{xs:List TV}{h:HL ts},toHL ts xs=some h->xs=ofHL ts h
 |[],[],_,_=>rfl
 |[],_::_,_,h=>by simp[toHL]at h
 |[_],[],_,h=>by simp[toHL]at h
 |[t],[x],hl,h=>by
  simp only[toHL]at h;rw[lL h];rfl
 |[t],x::y::xs,hl,h=>by simp[toHL]at h
 |_::_::_,[],_,h=>by simp[toHL]at h
 |t::t'::ts,x::xs,hl,h=>by
  simp only[toHL]at h;split at h
  .rename_i v hv;split at h
   .rename_i r hr;simp only[j4]at h;subst h;rw[lL hv,GX hr];rfl
   .simp at h
  .simp at h
def capP:Cap->CPat×List TV
 |.v x=>(.v x.t,[x])
 |.p ls=>(.p (ls.map (·.t)),ls)
def ox:List Cap->List CPat×List TV
 |[]=>([],[])
 |c::cs=>((capP c).1::(ox cs).1,(capP c).2++(ox cs).2)
def tv0:TV:=⟨.unit,()⟩
def capF:CPat->List TV->Cap
 |.v _,xs=> .v (xs.headD tv0)
 |.p ts,xs=> .p (xs.take ts.length)
def CPat.n:CPat->Nat
 |.v _=>1
 |.p ts=>ts.length
def AW:List CPat->List TV->List Cap
 |[],_=>[]
 |c::cs,xs=>capF c xs::AW cs (xs.drop c.n)
def AX:List CPat->Nat
 |[]=>0
 |c::cs=>c.n+AX cs
theorem jyi(c:Cap)(r:List TV):capF (capP c).1 ((capP c).2++r)=c/\(capP c).1.n=(capP c).2.length:=by
 cases c with
 |v x=>exact⟨rfl,rfl⟩
 |p ls=>simp[capP,capF,CPat.n]
theorem GY:∀(cs:List Cap)(r:List TV),AW (ox cs).1 ((ox cs).2++r)=cs/\AX (ox cs).1=(ox cs).2.length
 |[],r=>⟨rfl,rfl⟩
 |c::cs,r=>by
  simp only[ox,AW,AX,jg,jf];have h1:=jyi c ((ox cs).2++r);have h2:=GY cs r;rw[h1.1,h1.2,vd,h2.1,h2.2];exact⟨rfl,rfl⟩
def sN:Leaf->LPat×List TV
 |.dead=>(.dead,[])
 |.nil=>(.nil,[])
 |.d t v=>(.d t,[⟨t,v⟩])
 |.ol k=>(.ol k,[])
 |.bp k c=>(.bp k c,[])
 |.ep k i c=>(.ep k i c,[])
 |.tl k i=>(.tl k,[⟨.int .i64,(i:Int)⟩])
 |.hd k i=>(.hd k,[⟨.int .i64,(i:Int)⟩])
 |.s1 k=>(.s1 k,[])
 |.ip ls=>(.ip (ls.map (·.t)),ls)
 |.clo f caps=>(.clo f (ox caps).1,(ox caps).2)
 |.clr f ks=>(.clr f ks,[])
def Lr:TV->Nat
 |⟨.int _,v⟩=>Int.toNat v
 |_=>0
def LPat.n:LPat->Nat
 |.d _=>1
 |.tl _=>1
 |.hd _=>1
 |.ip ts=>ts.length
 |.clo _ cs=>AX cs
 |_=>0
def Dt:LPat->List TV->Leaf
 |.dead,_=> .dead
 |.nil,_=> .nil
 |.d _,xs=> .d (xs.headD tv0).t (xs.headD tv0).v
 |.ol k,_=> .ol k
 |.bp k c,_=> .bp k c
 |.ep k i c,_=> .ep k i c
 |.tl k,xs=> .tl k (Lr (xs.headD tv0))
 |.hd k,xs=> .hd k (Lr (xs.headD tv0))
 |.s1 k,_=> .s1 k
 |.ip ts,xs=> .ip (xs.take ts.length)
 |.clo f cs,xs=> .clo f (AW cs xs)
 |.clr f ks,_=> .clr f ks
theorem TE(l:Leaf)(r:List TV):Dt (sN l).1 ((sN l).2++r)=l/\(sN l).1.n=(sN l).2.length:=by
 cases l with
 |ip ls=>simp[sN,Dt,LPat.n]
 |clo f cs=>have:=GY cs r;simp only[sN,Dt,LPat.n];exact⟨by rw[this.1],this.2⟩
 |_=>exact⟨rfl,rfl⟩
def pX:List Leaf->List LPat×List TV
 |[]=>([],[])
 |c::cs=>((sN c).1::(pX cs).1,(sN c).2++(pX cs).2)
def Du:List LPat->List TV->List Leaf
 |[],_=>[]
 |c::cs,xs=>Dt c xs::Du cs (xs.drop c.n)
def Dv:List LPat->Nat
 |[]=>0
 |c::cs=>c.n+Dv cs
theorem Ls:∀(cs:List Leaf)(r:List TV),Du (pX cs).1 ((pX cs).2++r)=cs/\Dv (pX cs).1=(pX cs).2.length
 |[],r=>⟨rfl,rfl⟩
 |c::cs,r=>by
  simp only[pX,Du,Dv,jg,jf];have h1:=TE c ((pX cs).2++r);have h2:=Ls cs r;rw[h1.1,h1.2,vd,h2.1,h2.2];exact⟨rfl,rfl⟩
def celP:Cel->KPat×List TV
 |.one l=>(.one (sN l).1,(sN l).2)
 |.st ls=>(.st (pX ls).1,(pX ls).2)
 |.av n a xs=>(.av n a,[⟨.list a,xs⟩])
def Dw(a:Ty)(xs:List TV):List a.den:=((xs.headD tv0).to (.list a)).getD []
theorem Lt(a:Ty)(xs:List a.den)(r:List TV):Dw a (⟨.list a,xs⟩::r)=xs:=by
 simp[Dw,TV.to]
def KPat.n:KPat->Nat
 |.one l=>l.n
 |.st ls=>Dv ls
 |.av _ _=>1
def celF:KPat->List TV->Cel
 |.one l,xs=> .one (Dt l xs)
 |.st ls,xs=> .st (Du ls xs)
 |.av n a,xs=> .av n a (Dw a xs)
theorem jyj(c:Cel)(r:List TV):celF (celP c).1 ((celP c).2++r)=c/\(celP c).1.n=(celP c).2.length:=by
 cases c with
 |one l=>have:=TE l r;exact⟨by simp only[celP,celF];rw[this.1],this.2⟩
 |st ls=>have:=Ls ls r;exact⟨by simp only[celP,celF];rw[this.1],this.2⟩
 |av n a xs=>exact⟨by simp only[celP,celF,zb,js];rw[Lt],rfl⟩
def bsP:BS->BPat×List TV
 |.free=>(.free,[])
 |.gone=>(.gone,[])
 |.live (.cell ls f)=>(.cell (pX ls).1 f,(pX ls).2)
 |.live (.lst e a xs f)=>(.lst e a f,[⟨.list a,xs⟩])
 |.live (.arr n a xs)=>(.arr n a,[⟨.list a,xs⟩])
def BPat.n:BPat->Nat
 |.free|.gone=>0
 |.cell ls _=>Dv ls
 |.lst _ _ _=>1
 |.arr _ _=>1
def bsF:BPat->List TV->BS
 |.free,_=> .free
 |.gone,_=> .gone
 |.cell ls f,xs=> .live (.cell (Du ls xs) f)
 |.lst e a f,xs=> .live (.lst e a (Dw a xs) f)
 |.arr n a,xs=> .live (.arr n a (Dw a xs))
theorem jzu(c:BS)(r:List TV):bsF (bsP c).1 ((bsP c).2++r)=c/\(bsP c).1.n=(bsP c).2.length:=by
 cases c with
 |free=>exact⟨rfl,rfl⟩
 |gone=>exact⟨rfl,rfl⟩
 |live b=>
  cases b with
  |cell ls f=>have:=Ls ls r;exact⟨by simp only[bsP,bsF];rw[this.1],this.2⟩
  |lst e a xs f=>exact⟨by simp only[bsP,bsF,zb,js];rw[Lt],rfl⟩
  |arr n a xs=>exact⟨by simp only[bsP,bsF,zb,js];rw[Lt],rfl⟩
def itP:Item->IPat×List TV
 |.s c=>(.s (celP c).1,(celP c).2)
 |.b x=>(.b (bsP x).1,(bsP x).2)
def IPat.n:IPat->Nat
 |.s c=>c.n
 |.b x=>x.n
def itF:IPat->List TV->Item
 |.s c,xs=> .s (celF c xs)
 |.b x,xs=> .b (bsF x xs)
theorem TF(c:Item)(r:List TV):itF (itP c).1 ((itP c).2++r)=c/\(itP c).1.n=(itP c).2.length:=by
 cases c with
 |s c=>have:=jyj c r;exact⟨by simp only[itP,itF];rw[this.1],this.2⟩
 |b x=>have:=jzu x r;exact⟨by simp only[itP,itF];rw[this.1],this.2⟩
def mb:Snap->List IPat×List TV
 |[]=>([],[])
 |c::cs=>((itP c).1::(mb cs).1,(itP c).2++(mb cs).2)
def yt:List IPat->List TV->Snap
 |[],_=>[]
 |c::cs,xs=>itF c xs::yt cs (xs.drop c.n)
theorem TG:∀(cs:Snap),yt (mb cs).1 (mb cs).2=cs
 |[]=>rfl
 |c::cs=>by
  simp only[mb,yt];have h1:=TF c (mb cs).2;rw[h1.1,h1.2,vd,TG cs]
def pack(ps:List IPat)(ts:List Ty)(h:HL ts):Snap:=yt ps (ofHL ts h)
def rJ(ps:List IPat)(ts:List Ty)(s:Snap):Option (HL ts):=
 if (mb s).1=ps then toHL ts (mb s).2 else none
theorem AY{ps:List IPat}{ts:List Ty}{s:Snap}{h:HL ts}(hs:rJ ps ts s=some h):s=pack ps ts h:=by
 unfold rJ at hs;split at hs
 .rename_i hp;have:=GX hs;rw[pack,<-this,<-hp,TG]
 .simp at hs
def argP:Arg->APat×List TV
 |.v x=>(.v x.t,[x])
 |.ref ls=>(.ref (ls.map (·.t)),ls)
 |.rl e x=>(.rl e x.t,[x])
 |.ip ls=>(.ip (ls.map (·.t)),ls)
 |.clo f cs=>(.clo f (ox cs).1,(ox cs).2)
 |.mv e x=>(.mv e x.t,[x])
def APat.n:APat->Nat
 |.v _=>1
 |.ref ts=>ts.length
 |.rl _ _=>1
 |.ip ts=>ts.length
 |.clo _ cs=>AX cs
 |.mv _ _=>1
def argF:APat->List TV->Arg
 |.v _,xs=> .v (xs.headD tv0)
 |.ref ts,xs=> .ref (xs.take ts.length)
 |.rl e _,xs=> .rl e (xs.headD tv0)
 |.ip ts,xs=> .ip (xs.take ts.length)
 |.clo f cs,xs=> .clo f (AW cs xs)
 |.mv e _,xs=> .mv e (xs.headD tv0)
theorem jyl(c:Arg)(r:List TV):argF (argP c).1 ((argP c).2++r)=c/\(argP c).1.n=(argP c).2.length:=by
 cases c with
 |v x=>exact⟨rfl,rfl⟩
 |rl e x=>exact⟨rfl,rfl⟩
 |mv e x=>exact⟨rfl,rfl⟩
 |ref ls=>simp[argP,argF,APat.n]
 |ip ls=>simp[argP,argF,APat.n]
 |clo f cs=>have:=GY cs r;exact⟨by simp only[argP,argF];rw[this.1],this.2⟩
def ui:List Arg->List APat×List TV
 |[]=>([],[])
 |c::cs=>((argP c).1::(ui cs).1,(argP c).2++(ui cs).2)
def AZ:List APat->List TV->List Arg
 |[],_=>[]
 |c::cs,xs=>argF c xs::AZ cs (xs.drop c.n)
theorem TH:∀(cs:List Arg),AZ (ui cs).1 (ui cs).2=cs
 |[]=>rfl
 |c::cs=>by
  simp only[ui,AZ];have h1:=jyl c (ui cs).2;rw[h1.1,h1.2,vd,TH cs]
def pY(ps:List APat)(ts:List Ty)(h:HL ts):List Arg:=AZ ps (ofHL ts h)
def GZ(ps:List APat)(ts:List Ty)(s:List Arg):Option (HL ts):=
 if (ui s).1=ps then toHL ts (ui s).2 else none
theorem G0{ps:List APat}{ts:List Ty}{s:List Arg}{h:HL ts}(hs:GZ ps ts s=some h):s=pY ps ts h:=by
 unfold GZ at hs;split at hs
 .rename_i hp;have:=GX hs;rw[pY,<-this,<-hp,TH]
 .simp at hs
theorem TI{α β:Type}{f:α->Option (α ⊕ β)}:∀{n m:Nat}{s:α}{x y:β},loopN f n s=some x->loopN f m s=some y->x=y
 |0,_,_,_,_,h,_=>by simp[loopN]at h
 |_+1,0,_,_,_,_,h=>by simp[loopN]at h
 |n+1,m+1,s,x,y,h,h'=>by
  simp only[loopN]at h h';cases hf:f s with
  |none=>simp[hf]at h
  |some r=>
   cases r with
   |inl s'=>simp only[hf]at h h';exact TI h h'
   |inr z=>simp only[hf,j4]at h h';rw[<-h,<-h']
open Classical in
def loopOpt{α β:Type}(f:α->Option (α ⊕ β))(s:α):Option β:=
 if h:∃x n,loopN f n s=some x then some h.choose else none
theorem Dx{α β:Type}{f:α->Option (α ⊕ β)}{s:α}{n:Nat}{x:β}(h:loopN f n s=some x):loopOpt f s=some x:=by
 unfold loopOpt;have hx:∃x n,loopN f n s=some x:=⟨x,n,h⟩;rw[dif_pos hx];obtain⟨m,hm⟩:=hx.choose_spec;rw[TI hm h]
theorem Dy{α β:Type}{f:α->Option (α ⊕ β)}{s:α}{x:β}(h:loopOpt f s=some x):∃n,loopN f n s=some x:=by
 unfold loopOpt at h;split at h
 .rename_i hx;simp only[j4]at h;obtain⟨m,hm⟩:=hx.choose_spec;exact⟨m,by rw[<-h];exact hm⟩
 .simp at h
theorem jnQ{α β:Type}{f:α->Option (α ⊕ β)}{s s':α}(h:f s=some (.inl s')):loopOpt f s=loopOpt f s':=by
 cases hq:loopOpt f s' with
 |some x=>obtain⟨n,hn⟩:=Dy hq;exact Dx (n:=n+1) (by simp only[loopN,h];exact hn)
 |none=>
  cases hp:loopOpt f s with
  |none=>rfl
  |some x=>
   obtain⟨n,hn⟩:=Dy hp;cases n with
   |zero=>simp[loopN]at hn
   |succ n=>simp only[loopN,h]at hn;rw[Dx hn]at hq;simp at hq
theorem jpm{α β:Type}{f:α->Option (α ⊕ β)}{s:α}{x:β}(h:f s=some (.inr x)):loopOpt f s=some x:=
 Dx (n:=1) (by simp only[loopN,h])
theorem TJ{α β A B:Type}{f:α->Option (α ⊕ β)}{g:A->Option (A ⊕ B)}{p:A->α}{q:B->β}
  (h:∀a r,g a=some r->f (p a)=some (match r with|.inl a'=> .inl (p a')|.inr b=> .inr (q b))):∀{n:Nat}{a:A}{x:B},loopN g n a=some x->loopN f n (p a)=some (q x)
 |0,_,_,hn=>by simp[loopN]at hn
 |n+1,a,x,hn=>by
  simp only[loopN]at hn;cases hg:g a with
  |none=>simp[hg]at hn
  |some r=>
   have:=h a r hg;cases r with
   |inl a'=>simp only[hg]at hn;simp only[loopN,this];exact TJ h hn
   |inr b=>simp only[hg,j4]at hn;subst hn;simp only[loopN,this]
def sumC{α β γ:Type}(x:α ⊕ β)(f:α->γ)(g:β->γ):γ:=match x with
 |.inl a=>f a
 |.inr b=>g b
structure XD where
 ex:Ex
 ps:List IPat
 ts:List Ty
@[reducible] def XT:List XD->Type
 |[]=>Empty
 |[x]=>HL x.ts
 |x::y::r=>HL x.ts ⊕ XT (y::r)
def rK:(l:List XD)->XT l->Ex×Snap
 |[],h=>nomatch h
 |[x],h=>(x.ex,pack x.ps x.ts h)
 |x::y::r,h=>match h with
  |.inl a=>(x.ex,pack x.ps x.ts a)
  |.inr b=>rK (y::r) b
def Dz{R:Type}:(l:List XD)->XT l->(Ex->Snap->Option R)->Option R
 |[],_,_=>none
 |[x],h,k=>k x.ex (pack x.ps x.ts h)
 |x::y::r,h,k=>sumC h (λa=>k x.ex (pack x.ps x.ts a)) (λb=>Dz (y::r) b k)
theorem Lu{R:Type}:∀(l:List XD)(h:XT l)(k:Ex->Snap->Option R),Dz l h k=k (rK l h).1 (rK l h).2
 |[],h,_=>nomatch h
 |[x],h,k=>rfl
 |x::y::r,h,k=>by
  cases h with
  |inl a=>rfl
  |inr b=>exact Lu (y::r) b k
def unX:(l:List XD)->Ex->Snap->Option (XT l)
 |[],_,_=>none
 |[x],e,s=>if e=x.ex then rJ x.ps x.ts s else none
 |x::y::r,e,s=>if e=x.ex/\(mb s).1=x.ps then match rJ x.ps x.ts s with
   |some a=>some (.inl a)
   |none=>none
  else match unX (y::r) e s with
   |some b=>some (.inr b)
   |none=>none
theorem G1:∀(l:List XD)(e:Ex)(s:Snap)(x:XT l),unX l e s=some x->rK l x=(e,s)
 |[],_,_,_,h=>by simp[unX]at h
 |[x],e,s,h,he=>by
  simp only[unX]at he;split at he
  .rename_i h1;rw[rK,<-AY he,h1]
  .simp at he
 |x::y::r,e,s,h,he=>by
  simp only[unX]at he;split at he
  .rename_i h1;split at he
   .rename_i a ha;simp only[j4]at he;subst he;show (x.ex,pack x.ps x.ts a)=(e,s);rw[<-AY ha,h1.1]
   .simp at he
  .split at he
   .rename_i b hb;simp only[j4]at he;subst he;exact G1 (y::r) e s b hb
   .simp at he
structure mc where
 b:Nat
 ps:List IPat
 ts:List Ty
 exits:List XD
 step:HL ts->Option (HL ts ⊕ XT exits)
def uj:List mc->Nat->Snap->(R:Type)->(Ex->Snap->Option R)->Option R
 |[],_,_,_,_=>none
 |d::ds,b,s,R,k=>if d.b=b then match rJ d.ps d.ts s with
   |some h=>(loopOpt d.step h).bind λx=>Dz d.exits x k
   |none=>none
  else uj ds b s R k
theorem Lv:∀ds:List mc,LFun (uj ds)
 |[]=>λ_ _=>⟨none,λ_ _=>rfl⟩
 |d::ds=>λb s=>by
  simp only[uj];split
  .split
   .rename_i h _;cases hq:loopOpt d.step h with
    |none=>exact⟨none,λ_ _=>rfl⟩
    |some x=>exact⟨some (rK d.exits x),λR k=>Lu d.exits x k⟩
   .exact⟨none,λ_ _=>rfl⟩
  .exact Lv ds b s
structure MrD where
 b:Nat
 m:Nat
 nm:Nat
 ps:List IPat
 ts:List Ty
 em:Nat
 v:Ty
 G:HL ts->Int->v.den->(R:Type)->(v.den->Option R)->Option R
def mrL:List MrD->Nat->Snap->(R:Type)->(Snap->Option R)->Option R
 |[],_,_,_,_=>none
 |d::ds,b,s,R,k=>if d.b=b then match rJ d.ps d.ts s,uX d.em d.v s with
   |some h,some xs=>(pI (λq z=>d.G h q z d.v.den some) xs).bind λys=>k (gv s d.em d.v ys)
   |_,_=>none
  else mrL ds b s R k
def mrF:List MrD->Nat->Option (Nat×Nat)
 |[],_=>none
 |d::ds,b=>if d.b=b then some (d.m,d.nm) else mrF ds b
theorem Lw:∀ds:List MrD,MFun (mrL ds)
 |[]=>λ_ _=>⟨none,λ_ _=>rfl⟩
 |d::ds=>λb s=>by
  simp only[mrL];split
  .split
   .rename_i h xs _ _;cases pI (λq z=>d.G h q z d.v.den some) xs with
    |none=>exact⟨none,λ_ _=>rfl⟩
    |some ys=>exact⟨some (gv s d.em d.v ys),λ_ _=>rfl⟩
   .exact⟨none,λ_ _=>rfl⟩
  .exact Lw ds b s
theorem TK{b m nm:Nat}:∀{ds:List MrD},mrF ds b=some (m,nm)->∃d∈ds,d.b=b/\d.m=m/\d.nm=nm/\∀s R k,mrL ds b s R k=match rJ d.ps d.ts s,uX d.em d.v s with
   |some h,some xs=>(pI (λq z=>d.G h q z d.v.den some) xs).bind λys=>k (gv s d.em d.v ys)
   |_,_=>none
 |[],h=>by simp[mrF]at h
 |d::ds,h=>by
  simp only[mrF]at h;split at h
  .rename_i hb;simp only[j4,j8]at h;refine⟨d,by simp,hb,h.1,h.2,λs R k=>?_⟩;simp only[mrL,hb,if_true]
  .rename_i hb;obtain⟨d',hm,h1,h2,h3,h4⟩:=TK h;refine⟨d',by simp[hm],h1,h2,h3,λs R k=>?_⟩;rw[<-h4];simp only[mrL,hb,z6]
def mrPd(b:Nat)(c:Code):MrP:=(mrP b c).getD ⟨0,0,0,0,0, #[],.skip⟩
structure Lx(E:Env)(c:Code)(d:MrD):Prop where
 em:isM d.em=true
 bx:∀h zs,(cw E.np (E.keep d.b) (gv (pack d.ps d.ts h) d.em d.v zs)).bx d.nm = .live (.lst d.em (.pair (.int .i64) d.v) zs false)
 sl:∀h zs,(cw E.np (E.keep d.b) (gv (pack d.ps d.ts h) d.em d.v zs)).sl d.m = .one (.one (.ol d.nm))
 step:∀h zs q z (R:Type) (k:Snap->Option R),Ac E d.b (mrPd d.b c) d.m (gv (pack d.ps d.ts h) d.em d.v zs) d.v q z k=
  d.G h q z R (λy=>k (gv (pack d.ps d.ts h) d.em d.v (@dO _ _ (Ty.int .i64).keq zs q y)))
theorem jxf(t:Ty)(v:t.den):(TV.mk t v).to t=some v:=by simp[TV.to]
theorem jrJ(s:Snap)(em:Nat)(v:Ty)(zs:List (Int×v.den)):uX em v (gv s em v zs)=some zs:=by
 unfold uX gv;simp only[List.getLast?_append,yb,Option.some_or,if_true];exact jxf (.list (.pair (.int .i64) v)) zs
theorem jti{em:Nat}{v:Ty}{s:Snap}{xs:List (Int×v.den)}(h:uX em v s=some xs):s=gv s em v xs:=by
 unfold uX at h;split at h
 .rename_i e a zs hl;split at h
  .rename_i he;subst he;have:=lL h;cases this;obtain⟨pre,rfl⟩:=List.getLast?_eq_some_iff.1 hl;unfold gv;rw[List.dropLast_concat]
  .simp at h
 .simp at h
theorem TL{α β:Type}{G:α->β->Option β}:∀{xs ys:List (α×β)},pI G xs=some ys->All2 (λx y=>y.1=x.1/\G x.1 x.2=some y.2) xs ys
 |[],ys,h=>by
  simp only[pI,j4]at h;subst h;trivial
 |x::r,ys,h=>by
  simp only[pI]at h;cases hg:G x.1 x.2 with
  |none=>rw[hg]at h;simp at h
  |some z=>
   rw[hg,j3]at h;cases hr:pI G r with
   |none=>rw[hr]at h;simp at h
   |some r'=>rw[hr,j3,j4]at h;subst h;exact⟨⟨rfl,hg⟩,TL hr⟩
theorem jxg{E:Env}(hF:CFun E.C)(hz:E.nz=false)(hL:LFun E.L/\MFun E.M){c:Code}{ds:List MrD}{b:Nat}(hm:E.mr=mrF ds)(hM:E.M=mrL ds)(hs:∀d∈ds,d.b=b->Lx E c d):MrOK E b c:=by
 intro m nm p hb hp s R k r h;rw[hm]at hb;obtain⟨d,hd,rfl,rfl,rfl,he⟩:=TK hb;have bz:=hs d hd rfl;rw[hM,he]at h;split at h
 case h_2=>simp at h
 rename_i hh xs hu hg;cases hq:pI (λq z=>d.G hh q z d.v.den some) xs with
 |none=>rw[hq]at h;simp at h
 |some ys=>
 rw[hq,j3]at h;obtain rfl:=AY hu;have hpd:mrPd d.b c=p:=by unfold mrPd;rw[hp];rfl
 refine⟨d.em,d.v,xs,ys,bz.em,jti hg,λzs=>⟨bz.bx hh zs,bz.sl hh zs⟩,(TL hq).mono λx y ud=>⟨ud.1,λzs=>?_⟩,h⟩;obtain⟨o,ho⟩:=jrE hF hz hL d.b p d.m (gv (pack d.ps d.ts hh) d.em d.v []) d.v x.1 x.2;have au:=λzs R k=>bz.step hh zs x.1 x.2 R k;rw[hpd]at au
 let inv:Snap->d.v.den:=λs=>match uX d.em d.v s with
  |some ((_,y)::_)=>y
  |_=>d.v.dflt
 have hinv:∀y,inv (gv (pack d.ps d.ts hh) d.em d.v (@dO _ _ (Ty.int .i64).keq [] x.1 y))=y:=λy=>by
  show (match uX d.em d.v _ with
   |some ((_,y)::_)=>y
   |_=>d.v.dflt)=y
  rw[jrJ];rfl
 have hG:∀(R:Type)(κ:d.v.den->Option R),d.G hh x.1 x.2 R κ=o.bind λs=>κ (inv s):=λR κ=>by
  rw[<-ho];show _=Ac E d.b p d.m (gv (pack d.ps d.ts hh) d.em d.v []) d.v x.1 x.2 λs=>κ (inv s);rw[au];congr 1;funext y;rw[hinv]
 rw[au,hG];have h2:=ud.2;rw[hG]at h2;cases o with
 |none=>simp at h2
 |some s0=>rw[j3,j4]at h2;rw[j3,h2]
def mrAt(c:Code)(b:Nat):Code:=(((fq 0 c).find? λx=>Nat.beq x.1 b).getD (0,.skip)).2
def yu(E:Env)(c:Code):List MrD->Prop
 |[]=>True
 |d::ds=>Lx E (mrAt c d.b) d/\yu E c ds
theorem yu.get{E:Env}{c:Code}:∀{ds:List MrD},yu E c ds->∀d∈ds,Lx E (mrAt c d.b) d
 |[],_,d,h=>by simp at h
 |x::r,hs,d,h=>by
  rcases jc.1 h with rfl|h
  .exact hs.1
  .exact yu.get hs.2 d h
theorem TM:∀{l:List (Nat×Code)}{x:Nat×Code},(l.map (·.1)).Nodup->x∈l->l.find? (λy=>Nat.beq y.1 x.1)=some x
 |[],x,_,h=>by simp at h
 |y::r,x,hn,h=>by
  have hc:=q8.1 (show (y.1::r.map (·.1)).Nodup from hn);rcases jc.1 h with rfl|h
  .rw[List.find?_cons,Nat.beq_refl]
  .have aN:y.1≠x.1:=λe=>hc.1 (e▸jn.2 ⟨x,h,rfl⟩);rw[List.find?_cons,beqF aN];exact TM hc.2 h
def uk(E:Env)(d:mc)(e:Ex)(σ:St):Option (HL d.ts ⊕ XT d.exits):=
 match e with
 |.normal=>match iv E.np (E.keep d.b) σ with
  |some s=>match rJ d.ps d.ts s with
   |some h=>some (.inl h)
   |none=>none
  |none=>none
 |e=>match iv E.np (E.keepX d.b e) σ with
  |some s=>match unX d.exits e s with
   |some x=>some (.inr x)
   |none=>none
  |none=>none
def ukR(E:Env)(d:mc)(ps:Array Nat)(x y:Code)(p:Option (List Item))(e:Ex)(σ:St):Option (HL d.ts ⊕ XT d.exits):=
 match p,e with
 |some q,.normal=>match iv E.np (E.keep d.b) σ with
  |some s=>match rJ d.ps d.ts (q++s) with
   |some h=>some (.inl h)
   |none=>none
  |none=>none
 |_,e=>cond (pinK ps x y (E.keepX d.b e)) (match iv E.np (E.keepX d.b e) σ with
  |some s=>match unX d.exits e s with
   |some x=>some (.inr x)
   |none=>none
  |none=>none) none
def jvh(E:Env)(d:mc)(h:HL d.ts):Code->Option (HL d.ts ⊕ XT d.exits)
 |.rangeFunc g ps x y=>BU E d.b g ps x y (pack d.ps d.ts h) (ukR E d ps x y)
 |c=>fa E d.b c (cw E.np (E.keep d.b) (pack d.ps d.ts h)) (uk E d)
def G2(E:Env)(c:Code)(d:mc):Prop:=∀h,jvh E d h c=d.step h
def outS(d:mc)(r:HL d.ts ⊕ XT d.exits):Snap ⊕ Ex×Snap:=match r with
 |.inl a=> .inl (pack d.ps d.ts a)
 |.inr x=> .inr (rK d.exits x)
theorem jym{E:Env}(hF:CFun E.C)(hz:E.nz=false)(hL:LFun E.L/\MFun E.M){g:Operand}{ps:Array Nat}{x y:Code}{d:mc}(hs:G2 E (.rangeFunc g ps x y) d)(h:HL d.ts)(r:HL d.ts ⊕ XT d.exits):d.step h=some r->
  Ab E d.b g ps x y (pack d.ps d.ts h)=some (outS d r):=by
 intro hr;obtain⟨o,ho⟩:=jpk hF hz hL d.b g ps x y (pack d.ps d.ts h);rw[<-hs h]at hr;have h1:some r=_:=hr.symm.trans (ho _ (λz=>ukR E d ps x y z.1 z.2.1 z.2.2));cases o with
 |none=>simp at h1
 |some z=>
  obtain⟨p,e,σ⟩:=z;simp only[j3]at h1
  have h2:=ho _ (λz:Option (List Item)×Ex×St=>match z.1,z.2.1 with
   |some q,.normal=>match iv E.np (E.keep d.b) z.2.2 with
    |some s'=>some (Sum.inl (q++s'))
    |none=>none
   |_,e=>cond (pinK ps x y (E.keepX d.b e)) (match iv E.np (E.keepX d.b e) z.2.2 with
    |some s'=>some (Sum.inr (e,s'))
    |none=>none) none)
  have h3:Ab E d.b g ps x y (pack d.ps d.ts h)=_:=h2;rw[h3,j3];clear h3 h2 hr ho;dsimp only;have h1:=h1.symm;unfold ukR at h1
  have hx:∀e,(cond (pinK ps x y (E.keepX d.b e)) (match iv E.np (E.keepX d.b e) σ with
    |some s=>match unX d.exits e s with
     |some x=>some (Sum.inr x)
     |none=>none
    |none=>none) none:Option (HL d.ts ⊕ XT d.exits))=some r->(cond (pinK ps x y (E.keepX d.b e)) (match iv E.np (E.keepX d.b e) σ with
    |some s'=>some (Sum.inr (e,s'))
    |none=>none) none:Option (Snap ⊕ Ex×Snap))=some (outS d r):=by
   intro e h1;cases hp:pinK ps x y (E.keepX d.b e) with
   |false=>rw[hp]at h1;simp at h1
   |true=>
    rw[hp,j5]at h1;rw[j5];split at h1
    .rename_i s dP;split at h1
     .rename_i hh hu;simp only[j4]at h1;subst h1;simp only[outS];rw[G1 _ _ _ _ hu]
     .simp at h1
    .simp at h1
  cases p with
  |none=>exact hx e h1
  |some q=>
   cases e with
   |normal=>
    dsimp only at h1 ⊢
    split at h1
    .rename_i s dP;split at h1
     .rename_i hh hu;simp only[j4]at h1;subst h1;simp only[outS];rw[<-AY hu]
     .simp at h1
    .simp at h1
   |exit i=>exact hx _ h1
   |ret=>exact hx _ h1
theorem jvi{E:Env}(hF:CFun E.C)(hz:E.nz=false)(hL:LFun E.L/\MFun E.M){c:Code}{d:mc}(hs:∀h,fa E d.b c (cw E.np (E.keep d.b) (pack d.ps d.ts h)) (uk E d)=d.step h)(h:HL d.ts)(r:HL d.ts ⊕ XT d.exits):d.step h=some r->
  w8 E d.b c (pack d.ps d.ts h)=some (match r with|.inl a=> .inl (pack d.ps d.ts a)|.inr x=> .inr (rK d.exits x)):=by
 intro hr;obtain⟨o,ho⟩:=Ds hF hz hL c d.b (cw E.np (E.keep d.b) (pack d.ps d.ts h));rw[<-hs h]at hr;have h1:some r=_:=hr.symm.trans (ho _ (λz=>uk E d z.1 z.2));cases o with
 |none=>simp at h1
 |some z=>
  obtain⟨e,σ⟩:=z;simp only[j3]at h1
  have h2:=ho _ (λz:Ex×St=>match z.1 with
   |.normal=>match iv E.np (E.keep d.b) z.2 with
    |some s'=>some (Sum.inl s')
    |none=>none
   |e=>match iv E.np (E.keepX d.b e) z.2 with
    |some s'=>some (Sum.inr (e,s'))
    |none=>none)
  have h3:w8 E d.b c (pack d.ps d.ts h)=_:=h2;rw[h3,j3];clear h3 h2 hr ho;dsimp only;have h1:=h1.symm;unfold uk at h1;cases e with
  |normal=>
   dsimp only at h1 ⊢
   split at h1
   .rename_i s dP;split at h1
    .rename_i hh hu;simp only[j4]at h1;subst h1;dsimp only;rw[<-AY hu]
    .simp at h1
   .simp at h1
  |exit i=>
   dsimp only at h1 ⊢
   split at h1
   .rename_i s dP;split at h1
    .rename_i hh hu;simp only[j4]at h1;subst h1;dsimp only;rw[G1 _ _ _ _ hu]
    .simp at h1
   .simp at h1
  |ret=>
   dsimp only at h1 ⊢
   split at h1
   .rename_i s dP;split at h1
    .rename_i hh hu;simp only[j4]at h1;subst h1;dsimp only;rw[G1 _ _ _ _ hu]
    .simp at h1
   .simp at h1
theorem jtk{E:Env}(hF:CFun E.C)(hz:E.nz=false)(hL:LFun E.L/\MFun E.M){c:Code}{d:mc}(hs:G2 E c d)
  (he:∀s R k,E.L d.b s R k=match rJ d.ps d.ts s with|some h=>(loopOpt d.step h).bind λx=>Dz d.exits x k|none=>none):CY E d.b c:=by
 intro s R k r h;rw[he]at h;split at h
 .rename_i hl hu;cases hq:loopOpt d.step hl with
  |none=>simp[hq]at h
  |some x=>
   rw[hq,j3,Lu]at h;obtain⟨n,hn⟩:=Dy hq;refine⟨n,(rK d.exits x).1,(rK d.exits x).2,?_,h⟩;rw[AY hu]
   exact TJ (f:=I3 E d.b c) (p:=pack d.ps d.ts) (q:=rK d.exits) (λa r hr=>by
    cases c with
    |rangeFunc g ps x y=>have:=jym hF hz hL hs a r hr;cases r<;>exact this
    |_=>have:=jvi hF hz hL hs a r hr;cases r<;>exact this) hn
 .simp at h
def lpAt(c:Code)(j:Nat):Code:=((fq 0 c).getD j (0,.skip)).2
def wu(E:Env)(c:Code):Nat->List mc->Prop
 |_,[]=>True
 |j,d::ds=>G2 E (lpAt c j) d/\wu E c (j+1) ds
theorem wu.get{E:Env}{c:Code}:∀{ds:List mc}{i j:Nat}{d:mc},wu E c i ds->ds[j]? = some d->G2 E (lpAt c (i+j)) d
 |[],_,_,_,_,h=>by simp at h
 |x::xs,i,0,d,hs,h=>by simp at h;subst h;exact hs.1
 |x::xs,i,j+1,d,hs,h=>by
  have:=wu.get (i:=i+1) (j:=j) hs.2 (by simpa using h);rwa[show i+(j+1)=i+1+j by omega]
theorem TN:∀{ds:List mc}{j:Nat}{d:mc},oa (ds.map (·.b))=true->ds[j]? = some d->∀s R k,uj ds d.b s R k=match rJ d.ps d.ts s with|some h=>(loopOpt d.step h).bind λx=>Dz d.exits x k|none=>none
 |[],_,_,_,h=>by simp at h
 |x::xs,0,d,_,h=>by simp at h;subst h;intro s R k;simp only[uj,if_true]
 |x::xs,j+1,d,hn,h=>by
  simp only[jz,oa,ja,kr,qb,kj]at hn;have hm:d∈xs:=jy (by simpa using h);have aN:x.b≠d.b:=λe=>hn.1 (e▸jn.2 ⟨d,hm,rfl⟩);intro s R k;simp only[uj,aN,z6];exact TN (j:=j) hn.2 (by simpa using h) s R k
theorem jvj{E:Env}(hF:CFun E.C)(hz:E.nz=false){c:Code}{ds:List mc}(hE:E.L=uj ds)(hm:(fq 0 c).map (·.1)=ds.map (·.b))(hn:oa (ds.map (·.b))=true)(hs:wu E c 0 ds){ms:List MrD}(Db:E.mr=mrF ms)(hM:E.M=mrL ms)(hms:yu E c ms) :
  ∀x∈fq 0 c,CY E x.1 x.2/\MrOK E x.1 x.2:=by
 intro x hx;have TO:LFun E.L/\MFun E.M:=⟨hE▸Lv ds,hM▸Lw ms⟩;have dv:((fq 0 c).map (·.1)).Nodup:=hm▸xu hn;refine⟨?_,jxg hF hz TO Db hM λd hd hb=>?_⟩
 rotate_left
 .have:=hms.get d hd;unfold mrAt at this;rw[hb,TM dv hx]at this;exact this
 obtain⟨j,hj⟩:=qy.1 hx;have wa:(ds.map (·.b))[j]? = some x.1:=by rw[<-hm];simp[hj]
 rw[qf]at wa;cases hd:ds[j]? with
 |none=>simp[hd]at wa
 |some d=>
  simp only[hd,ko,j4]at wa;have h1:=wu.get hs hd;rw[k9]at h1;have h2:lpAt c j=x.2:=by simp[lpAt,List.getD,hj]
  rw[h2]at h1;have:=jtk (E:=E) hF hz TO h1 (λs R k=>by rw[hE];exact TN hn hd s R k);rwa[wa]at this
inductive VPat where
 |v (t:Ty)
 |own (e:Nat) (t:Ty)
 |box (ts:List Ty)
 |hd
 |vn (t:Ty) (ns:List Nat)
 |clo (f:Nat) (caps:List CPat)
 |so (ls:List (Option Nat×Ty))
 |raw (ns:List Nat) (ps:List IPat)
 deriving DecidableEq
inductive OPat where
 |ref (ts:List Ty)
 |rl (t:Ty)
 deriving DecidableEq
def rlP:RL->(Option Nat×Ty)×TV
 |.d x=>((none,x.t),x)
 |.own e x=>((some e,x.t),x)
def rlsF:List (Option Nat×Ty)->List TV->List RL
 |[],_=>[]
 |(none,_)::ps,xs=> .d (xs.headD tv0)::rlsF ps xs.tail
 |(some e,_)::ps,xs=> .own e (xs.headD tv0)::rlsF ps xs.tail
theorem Ly:∀(ls:List RL)(r:List TV),rlsF (ls.map λl=>(rlP l).1) ((ls.map λl=>(rlP l).2)++r)=ls
 |[],r=>rfl
 |.d x::ls,r=>by
  have:=Ly ls r;show RL.d _::rlsF _ (_++r)=_;rw[this];rfl
 |.own e x::ls,r=>by
  have:=Ly ls r;show RL.own e _::rlsF _ (_++r)=_;rw[this];rfl
def G3:List IPat->Nat
 |[]=>0
 |c::cs=>c.n+G3 cs
theorem Lz:∀(cs:Snap)(r:List TV),yt (mb cs).1 ((mb cs).2++r)=cs/\G3 (mb cs).1=(mb cs).2.length
 |[],r=>⟨rfl,rfl⟩
 |c::cs,r=>by
  simp only[mb,yt,G3,jg,jf];have h1:=TF c ((mb cs).2++r);have h2:=Lz cs r;rw[h1.1,h1.2,vd,h2.1,h2.2];exact⟨rfl,rfl⟩
def rvP:RV->VPat×List TV
 |.v x=>(.v x.t,[x])
 |.own e x=>(.own e x.t,[x])
 |.box ls=>(.box (ls.map (·.t)),ls)
 |.hd n=>(.hd,[⟨.int .i64,(n:Int)⟩])
 |.vn x ns=>(.vn x.t ns,[x])
 |.clo f caps=>(.clo f (ox caps).1,(ox caps).2)
 |.so ls=>(.so (ls.map λl=>(rlP l).1),ls.map λl=>(rlP l).2)
 |.raw ns s=>(.raw ns (mb s).1,(mb s).2)
def VPat.n:VPat->Nat
 |.v _=>1
 |.own _ _=>1
 |.box ts=>ts.length
 |.hd=>1
 |.vn _ _=>1
 |.clo _ cs=>AX cs
 |.so ls=>ls.length
 |.raw _ ps=>G3 ps
def rvF:VPat->List TV->RV
 |.v _,xs=> .v (xs.headD tv0)
 |.own e _,xs=> .own e (xs.headD tv0)
 |.box ts,xs=> .box (xs.take ts.length)
 |.hd,xs=> .hd (Lr (xs.headD tv0))
 |.vn _ ns,xs=> .vn (xs.headD tv0) ns
 |.clo f cs,xs=> .clo f (AW cs xs)
 |.so ls,xs=> .so (rlsF ls xs)
 |.raw ns ps,xs=> .raw ns (yt ps xs)
theorem jzv(c:RV)(r:List TV):rvF (rvP c).1 ((rvP c).2++r)=c/\(rvP c).1.n=(rvP c).2.length:=by
 cases c with
 |v x=>exact⟨rfl,rfl⟩
 |own e x=>exact⟨rfl,rfl⟩
 |hd n=>exact⟨rfl,rfl⟩
 |vn x ns=>exact⟨rfl,rfl⟩
 |box ls=>simp[rvP,rvF,VPat.n]
 |clo f cs=>have:=GY cs r;simp only[rvP,rvF,VPat.n];exact⟨by rw[this.1],this.2⟩
 |so ls=>exact⟨by simp only[rvP,rvF];rw[Ly],by simp[rvP,VPat.n]⟩
 |raw ns s=>exact⟨by simp only[rvP,rvF];rw[(Lz s r).1],(Lz s r).2⟩
def outP:Out->OPat×List TV
 |.ref ls=>(.ref (ls.map (·.t)),ls)
 |.rl x=>(.rl x.t,[x])
def OPat.n:OPat->Nat
 |.ref ts=>ts.length
 |.rl _=>1
def outF:OPat->List TV->Out
 |.ref ts,xs=> .ref (xs.take ts.length)
 |.rl _,xs=> .rl (xs.headD tv0)
theorem jyn(c:Out)(r:List TV):outF (outP c).1 ((outP c).2++r)=c/\(outP c).1.n=(outP c).2.length:=by
 cases c with
 |rl x=>exact⟨rfl,rfl⟩
 |ref ls=>simp[outP,outF,OPat.n]
def rvsP:List RV->List VPat×List TV
 |[]=>([],[])
 |c::cs=>((rvP c).1::(rvsP cs).1,(rvP c).2++(rvsP cs).2)
def rvsF:List VPat->List TV->List RV
 |[],_=>[]
 |c::cs,xs=>rvF c xs::rvsF cs (xs.drop c.n)
def rvsN:List VPat->Nat
 |[]=>0
 |c::cs=>c.n+rvsN cs
theorem LA:∀(cs:List RV)(r:List TV),rvsF (rvsP cs).1 ((rvsP cs).2++r)=cs/\rvsN (rvsP cs).1=(rvsP cs).2.length
 |[],r=>⟨rfl,rfl⟩
 |c::cs,r=>by
  simp only[rvsP,rvsF,rvsN,jg,jf];have h1:=jzv c ((rvsP cs).2++r);have h2:=LA cs r;rw[h1.1,h1.2,vd,h2.1,h2.2];exact⟨rfl,rfl⟩
def wv:List Out->List OPat×List TV
 |[]=>([],[])
 |c::cs=>((outP c).1::(wv cs).1,(outP c).2++(wv cs).2)
def G4:List OPat->List TV->List Out
 |[],_=>[]
 |c::cs,xs=>outF c xs::G4 cs (xs.drop c.n)
theorem TP:∀(cs:List Out)(r:List TV),G4 (wv cs).1 ((wv cs).2++r)=cs
 |[],r=>rfl
 |c::cs,r=>by
  simp only[wv,G4,jg];have h1:=jyn c ((wv cs).2++r);rw[h1.1,h1.2,vd,TP cs r]
structure RPat where
 vs:List VPat
 os:List OPat
 deriving DecidableEq
def nM(rp:RPat)(ts:List Ty)(h:HL ts):Ret:=⟨rvsF rp.vs (ofHL ts h),G4 rp.os ((ofHL ts h).drop (rvsN rp.vs))⟩
def G5(rp:RPat)(ts:List Ty)(r:Ret):Option (HL ts):=
 if (rvsP r.vals).1=rp.vs/\(wv r.outs).1=rp.os then toHL ts ((rvsP r.vals).2++(wv r.outs).2) else none
theorem jrK{rp:RPat}{ts:List Ty}{r:Ret}{h:HL ts}(hs:G5 rp ts r=some h):r=nM rp ts h:=by
 unfold G5 at hs;split at hs
 .rename_i hp;have:=GX hs;unfold nM;rw[<-this,<-hp.1,<-hp.2,(LA r.vals _).1,(LA r.vals []).2,vd];have h2:=TP r.outs [];rw[qj]at h2;rw[h2]
 .simp at hs
structure Con where
 f:Nat
 ps:List APat
 ts:List Ty
 rp:RPat
 rs:List Ty
 F:HL ts->Option (HL rs)
def Con.C(c:Con)(args:List Arg)(R:Type)(k:Ret->Option R):Option R:=
 match GZ c.ps c.ts args with
 |some h=>(c.F h).bind λx=>k (nM c.rp c.rs x)
 |none=>none
def Con.OK(P:Program)(c:Con):Prop:=FnOK P c.f c.C
def conC:List Con->Nat->List Arg->(R:Type)->(Ret->Option R)->Option R
 |[],_,_,_,_=>none
 |c::cs,f,args,R,k=>if c.f=f then (if (ui args).1=c.ps then c.C args R k else conC cs f args R k) else conC cs f args R k
theorem LB{P:Program}{f:Nat}:FnOK P f (λ_ _ _=>none):=by
 intro args R k r h;simp at h
def DA(P:Program):List Con->Prop
 |[]=>True
 |c::cs=>c.OK P/\DA P cs
theorem LC{P:Program}:∀cs:List Con,DA P cs->iU P (conC cs)
 |[],_,_=>LB
 |c::cs,h,f=>by
  have ih:=LC cs h.2 f;intro args R k r hk;simp only[conC]at hk;split at hk
  .rename_i hf;subst hf;split at hk
   .exact h.1 args R k r hk
   .exact ih args R k r hk
  .exact ih args R k r hk
theorem LD:∀cs:List Con,CFun (conC cs)
 |[]=>λ_ _=>⟨none,λ_ _=>rfl⟩
 |c::cs=>λf args=>by
  have ih:=LD cs f args;simp only[conC];split
  .split
   .unfold Con.C;split
    .rename_i h _;cases hq:c.F h with
     |none=>exact⟨none,λ_ _=>rfl⟩
     |some x=>exact⟨some (nM c.rp c.rs x),λ_ _=>rfl⟩
    .exact⟨none,λ_ _=>rfl⟩
   .exact ih
  .exact ih
def LF:List (Nat×Keep)->Nat->Keep
 |[],_=>⟨[],[],[],[]⟩
 |x::r,b=>if x.1=b then x.2 else LF r b
def LG:List (Nat×Ex×Keep)->Nat->Ex->Keep
 |[],_,_=>⟨[],[],[],[]⟩
 |x::r,b,e=>if x.1=b/\x.2.1=e then x.2.2 else LG r b e
def LH:List (Nat×List Bool)->Nat->List Bool
 |[],_=>[]
 |x::r,b=>if x.1=b then x.2 else LH r b
def dwL:List (Nat×List (List Nat))->Nat->List (List Nat)
 |[],_=>[]
 |x::r,b=>if x.1=b then x.2 else dwL r b
def bwL:List (Nat×(Bool×Ty))->Nat->Option (Bool×Ty)
 |[],_=>none
 |x::r,f=>if x.1=f then some x.2 else bwL r f
def G6(P:Program):List (Nat×(Bool×Ty))->Prop
 |[]=>True
 |x::r=>BwK P x.1 x.2/\G6 P r
theorem TQ{P:Program}:∀{l:List (Nat×(Bool×Ty))},G6 P l->∀f t,bwL l f=some t->BwK P f t
 |[],_,f,t,h=>by simp[bwL]at h
 |x::r,hl,f,t,h=>by
  simp only[bwL]at h;split at h
  .rename_i e;simp only[j4]at h;rw[<-e,<-h];exact hl.1
  .exact TQ hl.2 f t h
structure FnD where
 N:Nat
 np:Nat
 cs:List Con
 ds:List mc
 modes:List (Nat×List Bool):=[]
 keep:List (Nat×Keep):=[]
 keepX:List (Nat×Ex×Keep):=[]
 ro:List Bool:=[]
 dw:List (Nat×List (List Nat)):=[]
 hd:Bool:=false
 ns:List Nat:=[]
 bw:List (Nat×(Bool×Ty)):=[]
 so:List SoK:=[]
 cr:List Nat:=[]
 un:List Nat:=[]
 pre:List (Nat×List Gh):=[]
 rw:Bool:=false
 rn:List Nat:=[]
 b1:List Nat:=[]
 ks:List Nat:=[]
 ms:List MrD:=[]
 mvf:List Nat:=[]
def preL:List (Nat×List Gh)->Nat->List Gh
 |[],_=>[]
 |x::r,i=>if x.1=i then x.2 else preL r i
def FnD.env(d:FnD)(T:List (Option TyI)):Env:=⟨⟨d.N,λ_=>false⟩,d.np,tab T,conC d.cs,LH d.modes,uj d.ds,LF d.keep,LG d.keepX,d.ro,dwL d.dw,false,d.hd,d.ns,bwL d.bw,d.so,d.cr,λb=>d.un.contains b,preL d.pre,d.rw,d.rn,d.b1,λi=>d.ks.contains i,λf=>d.mvf.contains f,mrF d.ms,mrL d.ms⟩
theorem jyo{P:Program}{T:List (Option TyI)}(hT:ca P (tab T))(gC:P.follows .mixedOrders=true)(d:FnD)(jI:Con)(fn:Func)(c:Code)(hf:P.funcs[jI.f]? = some fn)(hb:fn.body=some c)
  (hN : fn.ntmps = d.N) (ow : d.np ≤ d.N) (bT : (fn.name == "runtime.NumGoroutine") = false) (dF : DA P d.cs) (hm : (fq 0 c).map (·.1) = d.ds.map (·.b)) (hn : oa (d.ds.map (·.b)) = true)
  (hs:wu (d.env T) c 0 d.ds)(hF:∀h,td (d.env T) fn (pY jI.ps jI.ts h) (G5 jI.rp jI.rs)=jI.F h)(ib:G6 P d.bw:=by trivial)(hms:yu (d.env T) c d.ms:=by trivial):jI.OK P:=by
 have hC:iU P (d.env T).C:=LC d.cs dF;have rL:CFun (d.env T).C:=LD d.cs;have hL:LFun (d.env T).L/\MFun (d.env T).M:=⟨Lv d.ds,Lw d.ms⟩;have lV:=Tw (E:=d.env T) hT hC rL gC hf hb hN rfl (TQ ib) ow bT (jvj rL rfl rfl hm hn hs rfl rfl hms);intro args R k r hk;unfold Con.C at hk;split at hk
 .rename_i h hu;rw[G0 hu];cases hq:jI.F h with
  |none=>simp[hq]at hk
  |some x=>
   rw[hq,j3]at hk;refine lV _ R k r ?_;obtain⟨o,ho⟩:=jrF rL rfl hL fn (pY jI.ps jI.ts h);have h1:some x=_:=((hF h).trans hq).symm.trans (ho _ _);cases o with
   |none=>simp at h1
   |some ret=>rw[j3]at h1;show td (d.env T) fn (pY jI.ps jI.ts h) k=some r;refine(ho _ _).trans ?_;rw[j3,jrK h1.symm];exact hk
 .simp at hk
theorem cOf{P:Program}{T:List (Option TyI)}(hT:ca P (tab T))(gC:P.follows .mixedOrders=true)(d:FnD)(jI:Con){fn:Func}(hf:P.funcs[jI.f]? = some fn)(dF:DA P d.cs)
  (hs:wu (d.env T) (fn.body.getD .skip) 0 d.ds)(ib:G6 P d.bw:=by trivial)(hb:fn.body=some (fn.body.getD .skip):=by kernel_rfl)(hN:fn.ntmps=d.N:=by kernel_rfl)
  (ow : Nat.ble d.np d.N = true := by kernel_rfl) (bT : (fn.name == "runtime.NumGoroutine") = false := by kernel_rfl) (hm : (fq 0 (fn.body.getD .skip)).map (·.1) = d.ds.map (·.b) := by kernel_rfl)
  (hn:oa (d.ds.map (·.b))=true:=by kernel_rfl)(hF:∀h,td (d.env T) fn (pY jI.ps jI.ts h) (G5 jI.rp jI.rs)=jI.F h:=by intro h;kernel_rfl)(hms:yu (d.env T) (fn.body.getD .skip) d.ms:=by trivial):jI.OK P:=
 jyo hT gC d jI fn _ hf hb hN (ql ow) bT dF hm hn hs hF ib hms
def rM{α β:Type}(B:(α->Option β)->α->Option β):Nat->α->Option β
 |0,_=>none
 |n+1,a=>B (rM B n) a
open Classical in
def G7{α β:Type}(B:(α->Option β)->α->Option β)(a:α):Option β:=
 if h:∃x n,rM B n a=some x then some h.choose else none
theorem jtr{α β:Type}{B:(α->Option β)->α->Option β}{a:α}{x:β}(h1:∃n,rM B n a=some x)(h2:∀n y,rM B n a=some y->y=x):G7 B a=some x:=by
 obtain⟨n,hn⟩:=h1;have hx:∃x n,rM B n a=some x:=⟨x,n,hn⟩;unfold G7;rw[dif_pos hx];obtain⟨m,hm⟩:=hx.choose_spec;rw[h2 m _ hm]
def FnD.envN(d:FnD)(T:List (Option TyI)):Env:=⟨⟨d.N,λ_=>false⟩,d.np,tab T,conC d.cs,LH d.modes,uj d.ds,LF d.keep,LG d.keepX,d.ro,dwL d.dw,true,d.hd,d.ns,λ_=>none,d.so,d.cr,λ_=>false,λ_=>[],false,[],[],λ_=>false,λ_=>false,λ_=>none,λ_ _ _ _=>none⟩
theorem jts{α R:Type}(xs:List α)(K:List α->Option R){r:R}(h:(cond (decide (([]:List α).length+xs.length<=aQ)) (some (([]:List α)++xs)) none).bind K=some r) :
  wX (List.isEmpty xs) (K []) (cond (decide (([]:List α).length+xs.length<=aQ)) (K (([]:List α)++xs)) none)=some r:=by
 cases hd:decide (([]:List α).length+xs.length<=aQ) with
 |false=>rw[hd]at h;simp at h
 |true=>
  rw[hd]at h;simp only[j5,j3]at h ⊢;cases xs with
  |nil=>simp only[qj]at h ⊢;rw[Y8];exact h
  |cons x r=>exact h
theorem TR{P:Program}{T:List (Option TyI)}(hT:ca P (tab T))(gC:P.follows .mixedOrders=true)(d:FnD)(f:Nat)(a:Ty)(e:Nat)(fn:Func)(c:Code)(hf:P.funcs[f]? = some fn)(hb:fn.body=some c)
  (hN : fn.ntmps = d.N) (ow : d.np ≤ d.N) (bT : (fn.name == "runtime.NumGoroutine") = false) (dF : DA P d.cs) (hl : fq 0 c = [])
  (hF:∀(h:List a.den)(R:Type)(k:Ret->Option R),td (d.envN T) fn [.v ⟨.list a,h⟩] k=wX (List.isEmpty h) (k ⟨[.own e ⟨.list a,([]:List a.den)⟩],[]⟩)
   (cond (decide (([]:List a.den).length+List.length h<=aQ)) (k ⟨[.own e ⟨.list a,([]:List a.den)++h⟩],[]⟩) none)) :
  Con.OK P ⟨f,[.v (.list a)],[.list a],⟨[.own e (.list a)],[]⟩,[.list a],λh=>cond (decide (([]:List a.den).length+List.length h<=aQ)) (some (([]:List a.den)++h)) none⟩:=by
 have hC:iU P (d.envN T).C:=LC d.cs dF;have rL:CFun (d.envN T).C:=LD d.cs;have lV:=Tw (E:=d.envN T) hT hC rL gC hf hb hN rfl (λf t h=>by simp[FnD.envN]at h) ow bT (by rw[hl];simp);intro args R k r hk;unfold Con.C at hk;split at hk
 .rename_i h hu;rw[G0 hu];refine lV _ R k r ?_;refine(hF h R k).trans ?_;exact jts (α:=a.den) h (λx=>k ⟨[.own e ⟨.list a,x⟩],[]⟩) hk
 .simp at hk
def w64(x:Int):Int:=IntKind.wrap .i64 x
class LP where
 lp:{α β:Type}->(α->Option (α ⊕ β))->α->Option β
 rp:{α β:Type}->((α->Option β)->α->Option β)->α->Option β
noncomputable instance realLP:LP:=⟨loopOpt,G7⟩
abbrev gR(N:Nat):LP:=⟨λf a=>loopN f N a,λB a=>rM B N a⟩
theorem aj{x:Int}(h1 : -9223372036854775808<=x)(h2:x<=9223372036854775807):w64 x=x:=IntWalk.i64_in x ⟨h1,h2⟩
def lpK{α β:Type}(r:Option (α ⊕ β))(f:α->Option β):Option β:=match r with
 |none=>none
 |some (.inl s)=>f s
 |some (.inr x)=>some x
theorem aP{α β:Type}(s:α)(f:α->Option β):lpK (some (.inl s)) f=f s:=rfl
theorem aY{α β:Type}(x:β)(f:α->Option β):lpK (some (.inr x)) f=some x:=rfl
theorem TS{α β γ:Type}(x:α)(f:α->γ)(g:β->γ):sumC (.inl x) f g=f x:=rfl
theorem rN{α β γ:Type}(x:β)(f:α->γ)(g:β->γ):sumC (.inr x) f g=g x:=rfl
theorem bK{α β:Type}(f:α->Option (α ⊕ β))(s:α):loopOpt f s=lpK (f s) (loopOpt f):=by
 cases h:f s with
 |none=>
  cases hq:loopOpt f s with
  |none=>rfl
  |some x=>obtain⟨n,hn⟩:=Dy hq;cases n<;>simp[loopN,h]at hn
 |some r=>
  cases r with
  |inl s'=>exact jnQ h
  |inr x=>exact jpm h
section
variable{S0:ay}{w0:World}{refs:Refs}
theorem LI{P:Program}{E:Env}(hT:ca P E.T)(hC:iU P E.C){ops:Array Oper}{R:Type}{k:St->Option R}{r:R}{Q:Exit->Go.Act->World->Prop}{n:Nat}{rest:List Nat}
  (hn:∀σ' a' w' S' γ',Rel E.N E.np S0 w0 refs σ' a' w' S' γ'->cN σ'->k σ'=some r->wpOpsIn (FR none) n P ops Q rest a' w') :
  ∀(l:List Oper)(i:Nat){σ:St}{a:Go.Act}{w:World}{S:ay}{γ:Nat->Value},(∀j o,l[j]? = some o->ops[i+j]? = some o/\o.guard=none)->Rel E.N E.np S0 w0 refs σ a w S γ->cN σ->mz E l σ k=some r->
   wpOpsIn (FR none) n P ops Q (List.range' i l.length++rest) a w
 |[],i,σ,a,w,S,γ,hl,hR,hc,h=>hn _ _ _ _ _ hR hc h
 |o::l,i,σ,a,w,S,γ,hl,hR,hc,h=>by
  simp only[mz]at h;split at h
  .rename_i hd;obtain⟨ho,hg⟩:=hl 0 o rfl;have hw:Region.wanted o (yielded ops a.tmps)=true:=by simp[Region.wanted,hg]
   simp only[jl,zt,zb,wpOpsIn,show ops[i]? = some o from ho,hw,if_true];refine GC (.inl rfl) (λ_ _ h=>h) (AF hT hC hR (act:=[]) (λg hg=>by simp at hg) (p:=false) (λ_=>hc) hd h (λσ' a' w' S' γ' bN cI hk=>?_));exact LI hT hC hn l (i+1) (λj o' hj=>by rw[show i+1+j=i+(j+1) by omega];exact hl (j+1) o' (by simpa using hj)) bN (cI rfl) hk
  .simp at h
theorem DB{N:NT}{np:Nat}{fx:Nat->Option Value}{σ:St}{a:Go.Act}{W:World}{S:ay}(bH:a.tmps.size=N.n)(hd:a.defers=[])(aH:∀k,σ.bx k = .free)(hS:∀g o,S g o->g<W.heap.size)
  (rq:∀i,ij S W (λ_=>undef) σ.bx (tm a) (σ.sl i) (tm a i))(LJ:∀i v,fx i=some v->N.pin i=true/\tm a i=v):Rel N np S W { blks:=[],val:=λ_=>none,fix:=fx } σ a W S (λ_=>undef):=
 ⟨bH,hd,rq,λk b h=>by rw[aH]at h;simp at h,λk b g h=>by rw[aH]at h;simp at h,λk k' b b' g _ h=>by rw[aH]at h;simp at h,λ_ _ h=>h,λ_ _ h=> .inl h,hS,λ_ _ _=>rfl,jo _,rfl,rfl,rfl,
  λk v h=>by simp at h,λg o h=>by simp at h,LJ⟩
theorem wx{N:NT}{np:Nat}{fx:Nat->Option Value}{σ:St}{a:Go.Act}{w:World}{S:ay}{γ:Nat->Value}(hR:Rel N np S0 w0 { blks:=[],val:=λ_=>none,fix:=fx } σ a w S γ):Grew w0 w:=
 ⟨λg hg=>hR.below g hg (λh=>by have h:g∈([]:List Nat):=h;simp at h),hR.grow,hR.os,hR.tape,hR.output⟩
theorem jnU{P:Program}{a:Go.Act}{w:World}{o:Oper}{cl:Call}(ho:o.op = .call cl){x:Operand}(hc:cl.callee = .value x){l:Nat}(hx:a.eval x = .func (.yield l) #[] #[]){nx:Next}{w':World}
  (hy:(Instr.yield l (cl.args.map a.eval)).run P w = .ok nx w'):(execOp a.eval o).run P w = .ok nx w':=by
 simp[execOp,ho,resolve,hc,Deferred.ofValue,hx,invoke,hy]
end
section
variable{S0:ay}{w0:World}{refs:Refs}
def bwE(T:Nat->Option TyI):Env:=
 { N:=⟨19,λi=>i==0||(i==1||i==11)⟩,np:=0,T:=T,C:=λ_ _ _ _=>none,modes:=λ_=>[],L:=λ_ _ _ _=>none,keep:=λ_=>⟨[],[],[],[]⟩,keepX:=λ_ _=>⟨[],[],[],[]⟩,ro:=[] }
def slF(l:List (Nat×Cel)):St:={ sl:=λj=>match l.find? (λx=>x.1==j) with|some x=> .one x.2|none=> .one (.one .dead),bx:=λ_=> .free }
def g3(σ:St):Option Int:=match σ.sl 3 with
 |.one (.one (.d (.int .i64) v))=>some v
 |_=>none
def g1(σ:St):Option (Bool×Int):=match σ.sl 8,σ.sl 3 with
 |.one (.one (.d .bool b)),.one (.one (.d (.int .i64) v))=>some (b,v)
 |_,_=>none
def g18(σ:St):Option (Bool×Int):=match σ.sl 18,σ.sl 3 with
 |.one (.one (.d .bool b)),.one (.one (.d (.int .i64) v))=>some (b,v)
 |_,_=>none
def g16(t:Ty)(σ:St):Option (Int×t.den×Int):=match σ.sl 12,σ.sl 16,σ.sl 3 with
 |.one (.one (.d (.int .i64) u)),.one c,.one (.one (.d (.int .i64) v))=>match pE (λ_=> .gone) t c with
  |some (x,[])=>some (u,x,v)
  |_=>none
 |_,_,_=>none
def lstP(t:Ty)(xs:List t.den):Cel:= .one (.ip [⟨.list t,xs⟩])
def intP(i:Int):Cel:= .one (.d (.int .i64) i)
theorem DC(l:List (Nat×Cel)):cN (slF l):=λi=>by
 simp only[slF];split<;>rfl
theorem jvn{np:Nat}{σ:St}:RdF np σ (λ_=> .gone):=⟨λ_=> .inr rfl,λk e a xs f h=>by simp at h⟩
theorem DD{S:ay}{W:World}{γ:Nat->Value}{l:List (Nat×Cel)}{LL:Nat->Value}(h:∀x∈l,bC S W γ (λ_=> .free) x.2 (LL x.1))(i:Nat):ij S W γ (λ_=> .free) LL ((slF l).sl i) (LL i):=by
 simp only[slF];split
 .rename_i x hx;have:=h x (List.mem_of_find?_eq_some hx);have e:=List.find?_some hx;simp only[zr]at e;rw[<-e];exact this
 .exact⟨trivial,λh=>absurd rfl h⟩
theorem LN{P:Program}{T:Nat->Option TyI}(hT:ca P T){rD n:Nat}{A:Array Oper}{σ:St}{fx:Nat->Option Value}{a:Go.Act}{w:World}{S:ay}{γ:Nat->Value}{R:Type}{k:St->Option R}{r:R}
  (hR:Rel (bwE T).N (bwE T).np S0 w0 { blks:=[],val:=λ_=>none,fix:=fx } σ a w S γ)(hc:cN σ)(h:pG (bwE T) A σ k=some r) :
  (Code.region rD A false).wpIn (FR none) n P (λe a' w'=>e = .normal/\∃σ' S' γ',Rel (bwE T).N (bwE T).np S0 w0 { blks:=[],val:=λ_=>none,fix:=fx } σ' a' w' S' γ'/\k σ'=some r) a w:=
 wpIn_region (tZ (.inl rfl) (by rintro⟨a,w,h,_⟩;cases h) _ _ _ (R6 hT (λf=>LB) hR hc (λσ' a' w' S' γ' bN _ hk=>⟨rfl,σ',S',γ',bN,hk⟩) h))
theorem TT{σ:St}{v:Int}(h:g3 σ=some v):σ.sl 3 = .one (.one (.d (.int .i64) v)):=by
 unfold g3 at h;split at h
 .rename_i u hu;simp only[j4]at h;subst h;exact hu
 .simp at h
theorem jzw{σ:St}{b:Bool}{v:Int}(h:g1 σ=some (b,v)):σ.sl 8 = .one (.one (.d .bool b))/\σ.sl 3 = .one (.one (.d (.int .i64) v)):=by
 unfold g1 at h;split at h
 .rename_i hb hu;simp only[j4,j8]at h;obtain⟨rfl,rfl⟩:=h;exact⟨hb,hu⟩
 .simp at h
theorem jyq{σ:St}{b:Bool}{v:Int}(h:g18 σ=some (b,v)):σ.sl 18 = .one (.one (.d .bool b))/\σ.sl 3 = .one (.one (.d (.int .i64) v)):=by
 unfold g18 at h;split at h
 .rename_i hb hu;simp only[j4,j8]at h;obtain⟨rfl,rfl⟩:=h;exact⟨hb,hu⟩
 .simp at h
theorem jyr{t:Ty}{σ:St}{i:Int}{x:t.den}{v:Int}(h:g16 t σ=some (i,x,v)):σ.sl 12 = .one (.one (.d (.int .i64) i))/\σ.sl 3 = .one (.one (.d (.int .i64) v))/\∃c,σ.sl 16 = .one c/\pE (λ_=> .gone) t c=some (x,[]):=by
 unfold g16 at h;split at h
 .rename_i c _ xt LO h3;split at h
  .rename_i hx;simp only[j4,j8]at h;obtain⟨rfl,rfl,rfl⟩:=h;exact⟨xt,h3,c,LO,hx⟩
  .simp at h
 .simp at h
theorem Ba{N:NT}{np:Nat}{σ:St}{a:Go.Act}{w:World}{S:ay}{γ:Nat->Value}(hR:Rel N np S0 w0 refs σ a w S γ){s:Nat}{v:Int}(h:σ.sl s = .one (.one (.d (.int .i64) v))):tm a s = .int .i64 v:=by
 have:=hR.slot s;rw[h]at this;have h1:[a.tmps.getD s undef]=[Value.int .i64 v]:=this.1;simpa[tm]using h1
theorem TU{N:NT}{np:Nat}{σ:St}{a:Go.Act}{w:World}{S:ay}{γ:Nat->Value}(hR:Rel N np S0 w0 refs σ a w S γ){s:Nat}{v:Bool}(h:σ.sl s = .one (.one (.d .bool v))):tm a s = .bool v:=by
 have:=hR.slot s;rw[h]at this;have h1:[a.tmps.getD s undef]=[Value.bool v]:=this.1;simpa[tm]using h1
theorem jzx{P:Program}{T:Nat->Option TyI}(hT:ca P T){f:Nat}{t:Ty}{fn:Func}(hf:P.funcs[f]? = some fn){r0 b0 r1 b1 r3 r2:Nat}{A0 A1 A2:Array Oper}{o0 o6 o7:Oper}{l3:List Oper}{cl:Call}
  (hb:fn.body=some ((Code.region r0 A0 false).seq (Code.block b0 ((((Code.region r1 A1 false).seq (Code.cond (.tmp 8) .skip (.exit b0))).seq ((Code.block b1 ((Code.region r3 (o0::(l3++[o6,o7])).toArray false).seq (Code.cond (.tmp 18) .ret .skip))).seq (Code.region r2 A2 false))).loop))))
  (LQ : fn.ntmps = 19) (ma : fn.results = #[]) (bT : (fn.name == "runtime.NumGoroutine") = false) (wq : l3.length = 5) (bW : (o0 :: (l3 ++ [o6, o7])).all (fun o => o.guard.isNone) = true)
  (yw:o0.op = .move (.tmp 0))(LU:o0.dst=some 11)(yx:o6.op = .call cl)(LV:cl.callee = .value (.tmp 11))(G8:cl.args = #[.tmp 12,.tmp 16])(h6d:o6.dst=some 17)
  (e0:∀xs:List t.den,pG (bwE T) A0 (slF [(1,lstP t xs)]) g3=some (w64 (Int.ofNat (List.length xs)-1)))
  (e1:∀i:Int,pG (bwE T) A1 (slF [(3,intP i)]) g1=some (decide (i>=0),i))
  (e2:∀i:Int,pG (bwE T) A2 (slF [(3,intP i)]) g3=some (w64 (i-1)))
  (e3:∀(xs:List t.den)(i:Int),mz (bwE T) l3 (slF [(1,lstP t xs),(3,intP i)]) (g16 t)=cond (inR i (List.length xs)) (some (i,List.getD xs (Int.toNat i) t.dflt,i)) none)
  (e7:∀(b:Bool)(i:Int),mz (bwE T) [o7] (slF [(17,.one (.d .bool b)),(3,intP i)]) g18=some (!b,i)):BwOK P f t:=by
 refine⟨⟨fn,hf,by rw[hb];rfl,bT⟩,?_⟩;intro cv m l J Jx W S au xB fk hY nN sL;have hC:iU P (bwE T).C:=λf=>LB;obtain⟨S0,gJ,hm,hS0,oy⟩:=nN
 obtain⟨z0,kT⟩:∃z0,cv = #[z0]:=by
  have:=oy.length;obtain⟨cl⟩:=cv;match cl,this with
  |[z],_=>exact⟨z,rfl⟩
 subst kT;refine callsIn_of_wp hf hb trivial ?_;rw[LQ];obtain⟨yv,TW⟩:∃yv,yv=Value.func (.yield l) #[] #[]:=⟨_,rfl⟩;obtain⟨R,hR⟩:∃R:Ending->World->Prop,R=λe W'=>(∃v,e = .returned v)/\((∃S',J m S' W')\/Jx W'):=⟨_,rfl⟩;rw[<-TW,<-hR];let fx:Nat->Option Value:=λi=>if i=0 then some yv else if i=1 then some z0 else none
 let Fr:Go.Act->Prop:=λa=>a.tmps.size=19/\a.defers=[]/\tm a 0=yv/\tm a 1=z0
 let Inv:Go.Act->World->Prop:=λa W=>Fr a/\∃j S,j<=m/\J j S W/\tm a 3 = .int .i64 ((m:Int)-1-j)
 let μ:Go.Act->World->Nat:=λa W=>match tm a 3 with
  |.int _ v=>(v+1).toNat
  |_=>0
 have dV:∀{a:Go.Act}{W':World},a.defers=[]->((∃S',J m S' W')\/Jx W')->a.defers=[]/\∃v,(results fn a.tmps).run P W' = .ok v W'/\R (.returned v) W':=by intro a W' hd h;exact⟨hd,_,results_none ma _ _ _,by rw[hR];exact⟨⟨_,rfl⟩,h⟩⟩
 have gL:∀{σ:St}{a:Go.Act}{w w0:World}{S S0:ay}{γ:Nat->Value},Rel (bwE T).N (bwE T).np S0 w0 { blks:=[],val:=λ_=>none,fix:=fx } σ a w S γ->Fr a:=λhR=>
  ⟨hR.size,hR.defers,(hR.fix 0 yv rfl).2,(hR.fix 1 z0 rfl).2⟩
 have me:∀{a:Go.Act},Fr a->∀i v,fx i=some v->(bwE T).N.pin i=true/\tm a i=v:=by
  intro a ha i v hv;simp only[fx]at hv;split at hv
  .rename_i e;subst e;simp only[j4]at hv;subst hv;exact⟨rfl,ha.2.2.1⟩
  .split at hv
   .rename_i _ e;subst e;simp only[j4]at hv;subst hv;exact⟨rfl,ha.2.2.2⟩
   .simp at hv
 have same:∀{j:Nat}{S:ay}{W W':World},J j S W->Grew W W'->AG S W S W':=λhJ hg=>⟨λ_ _ h=>h,λ_ _ h=> .inl h,λg o h=>qc (fk _ _ _ hJ g o h) hg.size⟩
 have hmlt:m<=9223372036854775807:=by
  obtain⟨g,o,cs,_,al,_⟩:=oy.1;match cs,al with
  |[z],al=>obtain⟨ad,cap,_,h1,h2,_⟩:=al.1;simp only[maxLen]at h2;have h1:List.length gJ<=cap:=h1;omega
 obtain⟨a0,AU⟩:∃a0:Go.Act,a0={ tmps:=#[yv] ++ #[z0]++Array.replicate (19-(#[yv] ++ #[z0]).size) undef,defers:=[] }:=⟨_,rfl⟩;rw[<-AU]
 have um:Fr a0:=by
  subst AU;refine⟨?_,rfl,?_,?_⟩
  .simp
  .simp[tm]
  .simp[tm]
 have nN:Rel (bwE T).N (bwE T).np S0 W { blks:=[],val:=λ_=>none,fix:=fx } (slF [(1,lstP t gJ)]) a0 W S0 (λ_=>undef):=
  DB um.1 um.2.1 (λ_=>rfl) hS0 (DD (λx hx=>by
   simp only[km]at hx;subst hx;rw[um.2.2.2];exact⟨oy.1,λ_=>by obtain⟨g,o,cs,hu,_⟩:=oy.1;rw[hu];rfl⟩)) (me um)
 refine wpIn_seq (wpIn_mono (LN hT nN (DC _) (e0 gJ)) ?_)
 rintro e a W1 ⟨rfl,σ1,S1,γ1,aU,dT⟩
 show (Code.block b0 _).wpIn _ _ _ _ _ _;have h3:=Ba aU (TT dT);refine wpIn_block (wpIn_loop Inv μ ⟨gL aU,0,S,k7 _,au _ _ _ _ _ (wx aU) (same sL (wx aU)) sL,?_⟩ ?_)
 .rw[h3,hm,aj (by simp;omega) (by simp;omega)];simp
 .rintro a W ⟨LW,j,S,wa,hJ,h3⟩
  have hint:∀{a:Go.Act}{W:World}{S:ay}{v:Int},tm a 3 = .int .i64 v->bC S W (λ_=>undef) (λ_=> .free) (intP v) (tm a 3):=λh=>by rw[h];exact⟨rfl,λ_=>rfl⟩
  have hRs:Rel (bwE T).N (bwE T).np S W { blks:=[],val:=λ_=>none,fix:=fx } (slF [(3,intP ((m:Int)-1-j))]) a W S (λ_=>undef):=
   DB LW.1 LW.2.1 (λ_=>rfl) (fk _ _ _ hJ) (DD (λx hx=>by
    simp only[km]at hx;subst hx;exact hint h3)) (me LW)
  refine wpIn_seq (wpIn_seq (wpIn_mono (LN hT hRs (DC _) (e1 _)) ?_))
  rintro e a1 W1 ⟨rfl,σ1,S1,γ1,aU,dT⟩
  obtain⟨h8,LX⟩:=jzw dT;have LX:=Ba aU LX;have h8:a1.eval (.tmp 8) = .bool (decide ((m:Int)-1-j>=0)):=TU aU h8;have LY:=au _ _ _ _ _ (wx aU) (same hJ (wx aU)) hJ;have nO:=gL aU;show (Code.cond _ _ _).wpIn _ _ _ _ _ _;by_cases bB:(m:Int)-1-j>=0
  case neg=>
   rw[decide_eq_false bB]at h8;refine wpIn_cond_false h8 (wpIn_exit ?_);show Exit.inBlock b0 (bodyPost P fn R) (.exit b0) a1 W1;simp only[Exit.inBlock,if_true];have hj:j=m:=by omega
   subst hj;exact dV nO.2.1 (.inl ⟨S,LY⟩)
  case pos=>
  rw[yk bB]at h8;refine wpIn_cond_true h8 (wpIn_skip ?_);show (Code.seq _ _).wpIn _ _ _ _ _ _;have LZ:j<m:=by omega
  obtain⟨xs,df,hlen,mE⟩:=hY j S W1 LZ LY;refine wpIn_seq (wpIn_block (wpIn_seq (wpIn_region ?_)));obtain⟨ops,nH⟩:∃ops,ops=(o0::(l3++[o6,o7])).toArray:=⟨_,rfl⟩;rw[<-nH];have oW:∀k,ops[k]? = (o0::(l3++[o6,o7]))[k]? := λk=>by rw[nH];exact List.getElem?_toArray
  have bk:∀o∈o0::(l3++[o6,o7]),o.guard=none:=λo ho=>by have:=jq.1 bW o ho;simpa using this
  have bH:ops.size=8:=by rw[nH];simp[wq]
  have hw:∀(o:Oper)(a:Go.Act),o∈o0::(l3++[o6,o7])->Region.wanted o (yielded ops a.tmps)=true:=λo a ho=>by simp[Region.wanted,bk o ho]
  rw[bH,show List.range 8=0::(List.range' 1 l3.length++[6,7]) by rw[wq];rfl];have L0:ops[0]? = some o0:=by rw[oW];rfl
  simp only[wpOpsIn,L0,hw o0 _ (z8 ..),if_true];refine GC (.inl rfl) (λ_ _ h=>h) ?_;unfold Oper.wp;rw[show (execOp a1.eval o0).run P W1 = .ok (.value (a1.eval (.tmp 0))) W1 by simp[execOp,yw,go_sem],Oper.upon_value,LU];have wy:a1.eval (.tmp 0)=yv:=nO.2.2.1;rw[wy];have DE:11<a1.tmps.size:=by rw[nO.1];omega
  obtain⟨a2,sk⟩:∃a2,a2=a1.put (some 11) yv:=⟨_,rfl⟩;rw[<-sk];have uq:∀i,tm a2 i=if i=11 then yv else tm a1 i:=λi=>by rw[sk];exact nA DE yv i
  have ur:Fr a2:=⟨by rw[sk,pU];exact nO.1,by rw[sk,vS];exact nO.2.1,by rw[uq];exact nO.2.2.1,by rw[uq];exact nO.2.2.2⟩;let TX:Nat->Option Value:=λi=>if i=11 then some yv else fx i
  have bU:Rel (bwE T).N (bwE T).np S W1 { blks:=[],val:=λ_=>none,fix:=TX } (slF [(1,lstP t xs),(3,intP ((m:Int)-1-j))]) a2 W1 S (λ_=>undef):=
   DB ur.1 ur.2.1 (λ_=>rfl) (fk _ _ _ LY) (DD (λx hx=>by
    simp only[jc,vz,or_false]at hx;rcases hx with rfl|rfl
    .rw[ur.2.2.2];exact⟨df.1,λ_=>by obtain⟨g,o,cs,hu,_⟩:=df.1;rw[hu];rfl⟩
    .exact hint (by rw[uq];exact LX))) (λi v hv=>by
     simp only[TX]at hv;split at hv
     .rename_i e;subst e;simp only[j4]at hv;subst hv;exact⟨rfl,by rw[uq,if_pos rfl]⟩
     .exact me ur i v hv)
  have hx:∃x,xs[m-1-j]? = some x/\List.getD xs (Int.toNat ((m:Int)-1-j)) t.dflt=x:=by refine⟨xs[m-1-j]'hlen,jk hlen,?_⟩;rw[show Int.toNat ((m:Int)-1-j)=m-1-j by omega];simp[List.getD,hlen]
  obtain⟨x,hx,hxd⟩:=hx;have TY:=e3 xs ((m:Int)-1-j)
  rw[hxd,show inR ((m:Int)-1-j) (List.length xs)=true by
   unfold inR;rw[yk (show (0:Int)<=(m:Int)-1-j by omega),yk (show (m:Int)-1-j<(List.length xs:Int) by omega)];rfl,j5]at TY
  refine LI hT hC ?_ l3 1 (λk o hk=>⟨?_,?_⟩) bU (DC _) TY
  rotate_left
  .rw[oW,Nat.add_comm,yc,List.getElem?_append_left (jt.1 hk).1];exact hk
  .exact bk o (qr _ (kb _ (jy hk)))
  intro σ3 a3 W3 S3 γ3 eY _ iH;obtain⟨xt,L1,c,LO,L2⟩:=jyr iH;have xt:=Ba eY xt;have L1:=Ba eY L1;have L3:VRep S3 W3 ⟨t,x⟩ (tm a3 16):=by have:=eY.slot 16;rw[LO]at this;exact(B7 (np:=(bwE T).np) jvn eY.box L2 this).2.1 S3 W3 (.refl _ _) (λy hy=>by simp at hy)
  have Gb:=wx eY;have h11:tm a3 11=yv:=(eY.fix 11 yv rfl).2;have rO:Fr a3:=⟨eY.size,eY.defers,(eY.fix 0 yv rfl).2,(eY.fix 1 z0 rfl).2⟩;obtain⟨fn6,DF,as6,bo6,hy6,rP⟩:=mE S3 W3 x _ Gb ⟨eY.ext,λg o h=>(eY.new g o h).imp id λh=>h.nil rfl,eY.here⟩ hx L3;have L4:ops[6]? = some o6:=by rw[oW,yc,kc (by omega),wq];rfl
  have L5:ops[7]? = some o7:=by rw[oW,yc,kc (by omega),wq];rfl
  simp only[wpOpsIn,L4,hw o6 _ (by simp),if_true];refine⟨λ_ _=>trivial,?_⟩
  have aq:(execOp a3.eval o6).run P W3 = .ok (.round l fn6 DF as6 bo6) W3:=by
   refine jnU yx LV (l:=l) (by rw[<-TW];exact h11) ?_;rw[G8];have L6:a3.eval (.tmp 12) = .int .i64 ((m-1-j:Nat):Int):=by rw[show ((m-1-j:Nat):Int)=(m:Int)-1-j by omega];exact xt
   have e16:a3.eval (.tmp 16)=tm a3 16:=rfl;simp only[List.map_toArray,jz,List.map_nil,L6,e16];exact hy6
  rw[show o6.semAt (FR none).round a3.eval=execOp a3.eval o6 from rfl,aq,Oper.uponIn_round];refine⟨λhd=>by simp[FR,Fence.wide]at hd,?_⟩;refine RoundIn.mono ⟨rP.1,λc cs _=>rP.2 c cs (SI _ _)⟩ ?_;have DG:17<a3.tmps.size:=by rw[rO.1];omega
  have rest:∀(bb:Bool)(W4:World)(S4:ay),(∀g o,S4 g o->g<W4.heap.size)->
    (∀a5 W5,Fr a5->Grew W4 W5->tm a5 18 = .bool (!bb)->tm a5 3 = .int .i64 ((m:Int)-1-j)->(Exit.then ((Code.cond (.tmp 18) .ret .skip).wpIn (FR none) 0 P (Exit.inBlock b1 (Exit.then ((Code.region r2 A2 false).wpIn (FR none) 0 P (Exit.then (λa' W'=>Inv a' W'/\μ a' W'<μ a W) (Exit.inBlock b0 (bodyPost P fn R))))
     (Exit.then (λa' W'=>Inv a' W'/\μ a' W'<μ a W) (Exit.inBlock b0 (bodyPost P fn R)))))) (Exit.inBlock b1 (Exit.then ((Code.region r2 A2 false).wpIn (FR none) 0 P (Exit.then (λa' W'=>Inv a' W'/\μ a' W'<μ a W) (Exit.inBlock b0 (bodyPost P fn R))))
     (Exit.then (λa' W'=>Inv a' W'/\μ a' W'<μ a W) (Exit.inBlock b0 (bodyPost P fn R)))))) .normal a5 W5)->
    wpOpsIn (FR none) 0 P ops (Exit.then ((Code.cond (.tmp 18) .ret .skip).wpIn (FR none) 0 P (Exit.inBlock b1 (Exit.then ((Code.region r2 A2 false).wpIn (FR none) 0 P (Exit.then (λa' W'=>Inv a' W'/\μ a' W'<μ a W) (Exit.inBlock b0 (bodyPost P fn R))))
     (Exit.then (λa' W'=>Inv a' W'/\μ a' W'<μ a W) (Exit.inBlock b0 (bodyPost P fn R)))))) (Exit.inBlock b1 (Exit.then ((Code.region r2 A2 false).wpIn (FR none) 0 P (Exit.then (λa' W'=>Inv a' W'/\μ a' W'<μ a W) (Exit.inBlock b0 (bodyPost P fn R))))
     (Exit.then (λa' W'=>Inv a' W'/\μ a' W'<μ a W) (Exit.inBlock b0 (bodyPost P fn R)))))) [7] (a3.put o6.dst (.bool bb)) W4:=by
   intro bb W4 S4 hS4 gD;rw[h6d];obtain⟨a4,G9⟩:∃a4,a4=a3.put (some 17) (.bool bb):=⟨_,rfl⟩;rw[<-G9];have uu:∀i,tm a4 i=if i=17 then .bool bb else tm a3 i:=λi=>by rw[G9];exact nA DG _ i
   have yy:Fr a4:=⟨by rw[G9,pU];exact rO.1,by rw[G9,vS];exact rO.2.1,by rw[uu];exact rO.2.2.1,by rw[uu];exact rO.2.2.2⟩
   have mJ:Rel (bwE T).N (bwE T).np S4 W4 { blks:=[],val:=λ_=>none,fix:=fx } (slF [(17,.one (.d .bool bb)),(3,intP ((m:Int)-1-j))]) a4 W4 S4 (λ_=>undef):=
    DB yy.1 yy.2.1 (λ_=>rfl) hS4 (DD (λx hx=>by
     simp only[jc,vz,or_false]at hx;rcases hx with rfl|rfl
     .rw[uu,if_pos rfl];exact⟨rfl,λ_=>rfl⟩
     .exact hint (by rw[uu];exact L1))) (me yy)
   refine LI (rest:=[]) hT hC (λσ5 a5 W5 S5 γ5 mL _ kB=>?_) [o7] 7 (λk o hk=>?_) mJ (DC _) (e7 bb _)
   .obtain⟨q1,q2⟩:=jyq kB;exact gD a5 W5 (gL mL) (wx mL) (TU mL q1) (Ba mL q2)
   .cases k with
    |zero=>simp at hk;subst hk;exact⟨L5,bk _ (by simp)⟩
    |succ k=>simp at hk
  rintro e W4 (⟨rfl,S4,L7⟩|⟨rfl,hx4⟩)
  .refine rest true W4 S4 (fk _ _ _ L7) (λa5 W5 rQ Ha L8 TZ=>?_);refine wpIn_cond_false (c:= .tmp 18) L8 (wpIn_skip ?_);show (Code.region r2 A2 false).wpIn _ _ _ _ _ _;have L9:=au _ _ _ _ _ Ha (same L7 Ha) L7
   have mL:Rel (bwE T).N (bwE T).np S4 W5 { blks:=[],val:=λ_=>none,fix:=fx } (slF [(3,intP ((m:Int)-1-j))]) a5 W5 S4 (λ_=>undef):=
    DB rQ.1 rQ.2.1 (λ_=>rfl) (fk _ _ _ L9) (DD (λx hx=>by
     simp only[km]at hx;subst hx;exact hint TZ)) (me rQ)
   refine wpIn_mono (LN hT mL (DC _) (e2 _)) ?_
   rintro e a6 W6 ⟨rfl,σ6,S6,γ6,o8,hk6⟩
   have wz:=Ba o8 (TT hk6);rw[aj (by omega) (by omega)]at wz;refine⟨⟨gL o8,j+1,S4,by omega,au _ _ _ _ _ (wx o8) (same L9 (wx o8)) L9,?_⟩,?_⟩
   .rw[wz];congr 1;push_cast;omega
   .simp only[μ,wz,h3];omega
  .refine rest false W4 (λ_ _=>False) (λ_ _ h=>h.elim) (λa5 W5 rQ Ha L8 TZ=>?_);refine wpIn_cond_true (c:= .tmp 18) L8 (wpIn_ret ?_);exact dV rQ.2.1 (.inr (xB _ _ Ha hx4))
end
def yz:Code->List (Nat×Array Oper)
 |.seq x y=>yz x++yz y
 |.cond _ x y=>yz x++yz y
 |.block _ c=>yz c
 |.loop c=>yz c
 |.region id ops _=>[(id,ops)]
 |_=>[]
def bwA(fn:Func)(i:Nat):Array Oper:=(((yz (fn.body.getD .skip)).find? λx=>x.1==i).getD (0, #[])).2
def opAt(A:Array Oper)(i:Nat):Oper:=(A[i]?).getD default
def Ma(o:Oper):Call:=match o.op with
 |.call c=>c
 |_=>default
theorem jys{P:Program}{T:Nat->Option TyI}(hT:ca P T){f:Nat}{t:Ty}{fn:Func}(hf:P.funcs[f]? = some fn){A0 A1 A2 A3:Array Oper}
  (hb:fn.body=some ((Code.region 0 A0 false).seq (Code.block 0 ((((Code.region 1 A1 false).seq (Code.cond (.tmp 8) .skip (.exit 0))).seq ((Code.block 1 ((Code.region 3 A3 false).seq (Code.cond (.tmp 18) .ret .skip))).seq (Code.region 2 A2 false))).loop))))
  (hA:A3=(opAt A3 0::((A3.toList.drop 1).take 5++[opAt A3 6,opAt A3 7])).toArray)
  (LQ : fn.ntmps = 19) (ma : fn.results = #[]) (bT : (fn.name == "runtime.NumGoroutine") = false) (wq : ((A3.toList.drop 1).take 5).length = 5) (bW : (opAt A3 0 :: ((A3.toList.drop 1).take 5 ++ [opAt A3 6, opAt A3 7])).all (fun o => o.guard.isNone) = true)
  (yw:(opAt A3 0).op = .move (.tmp 0))(LU:(opAt A3 0).dst=some 11)(yx:(opAt A3 6).op = .call (Ma (opAt A3 6)))(LV:(Ma (opAt A3 6)).callee = .value (.tmp 11))(G8:(Ma (opAt A3 6)).args = #[.tmp 12,.tmp 16]/\(opAt A3 6).dst=some 17)
  (e0:∀xs:List t.den,pG (bwE T) A0 (slF [(1,lstP t xs)]) g3=some (w64 (Int.ofNat (List.length xs)-1)))
  (e1:∀i:Int,pG (bwE T) A1 (slF [(3,intP i)]) g1=some (decide (i>=0),i))
  (e2:∀i:Int,pG (bwE T) A2 (slF [(3,intP i)]) g3=some (w64 (i-1)))
  (e3:∀(xs:List t.den)(i:Int),mz (bwE T) ((A3.toList.drop 1).take 5) (slF [(1,lstP t xs),(3,intP i)]) (g16 t)=cond (inR i (List.length xs)) (some (i,List.getD xs (Int.toNat i) t.dflt,i)) none)
  (e7:∀(b:Bool)(i:Int),mz (bwE T) [opAt A3 7] (slF [(17,.one (.d .bool b)),(3,intP i)]) g18=some (!b,i)):BwOK P f t:=by
 rw[hA]at hb;exact jzx hT hf hb LQ ma bT wq bW yw LU yx LV G8.1 G8.2 e0 e1 e2 e3 e7
section
variable{P:Program}{E:Env}{ops pre:Array Oper}{cl:List Nat}{τ:Nat->St}{S0:ay}{w0:World}{refs:Bool->Refs}
end
section
variable{S0:ay}{w0:World}{refs:Refs}
def g7(σ:St):Option (Bool×Int):=match σ.sl 7,σ.sl 3 with
 |.one (.one (.d .bool b)),.one (.one (.d (.int .i64) v))=>some (b,v)
 |_,_=>none
theorem Grew.trans{w w' sg:World}(h:Grew w w')(h':Grew w' sg):Grew w sg:=
 ⟨λg hg=>(h'.old g (qc hg h.size)).trans (h.old g hg),q7 h.size h'.size,h'.os.trans h.os,h'.tape.trans h.tape,h'.output.trans h.output⟩
end
open Go.RowKit Go.WideShapes Go.ChangeShapes
theorem jtv{P:Program}{f:Nat}{ps:List APat}{ts:List Ty}{F:HL ts->Option Bool}(bz:Con.OK P ⟨f,ps,ts,⟨[.v .bool],[]⟩,[.bool],F⟩)(h:HL ts)(hF:F h=some true)
  (w:World)(S:ay)(vals:List Value)(ha:All2 (nk S w) (pY ps ts h) vals)(hr:dR (pY ps ts h) vals=[])(hS:∀g o,S g o->g<w.heap.size)(hu:GZ ps ts (pY ps ts h)=some h) :
  Calls P f vals.toArray w λe w'=>e = .returned (.bool true)/\Below w.heap.size w w':=by
 have:=(bz (pY ps ts h) Ret some (nM ⟨[.v .bool],[]⟩ [.bool] true) (by
  unfold Con.C;rw[hu];show (F h).bind _=_;rw[hF];rfl)).2
 refine(this w S vals ha (by rw[hr];exact zg) hS).mono ?_
 rintro e w' ⟨ret,bO,v,S',vs,rfl,bz⟩
 simp only[j4]at bO;subst bO;have bd:All2 (pQ S' w') [.v ⟨.bool,true⟩] vs:=bz.rep;refine⟨?_,bz.os,bz.tape,bz.output,bz.grow,λk hk=>bz.below k hk (by rw[hr];simp)⟩;rw[bz.val];match vs,bd with
 |[u],bd=>have h1:=bd.1;have h2:u.cells.toList=[.bool true]/\(iw Ty.bool=true->∃cs,u=Value.agg cs)/\(iw Ty.bool=false->One u):=h1;have h3:=Aj (h2.2.2 rfl);rw[h2.1]at h3;simp only[vi,and_true]at h3;rw[<-h3];rfl
 |[],bd=>exact absurd bd (by simp[All2])
 |_::_::_,bd=>exact absurd bd (by simp[All2])
theorem jm4{H:Type}{enc:TypeId×Value->H}{P:Program}{f:Func}{s:ChangeSpec}{apart fresh handsOn again:Bool}{W W':World}{args:Array Value}{v:Value}{ds gs:List (DataW H)}{before pa pv:List MemPlace}
  (hW:DataW.Whole enc P f.params.toList s.vars apart W args.toList ds gs before)
  (ma:∀(b:Nat)(sp:Nat->Bool)(hd:Bool),DataW.TrodAll enc P W' b sp hd f.resultTypes.toList (v.resultList f.resultTypes.size) (s.fn H (ds++gs)).results [])
  (cD:∀sp:Nat->Bool,(∀p∈before,sp p.block=true)->DataW.TrodAll enc P W' 0 sp true f.params.toList args.toList (s.fn H (ds++gs)).args pa)
  (wA:∀sp:Nat->Bool,(∀p∈before,sp p.block=true)->DataW.TrodVars enc P W' sp s.vars (s.fn H (ds++gs)).vars pv)
  (fU:before=pa++pv)(hb:Below W.heap.size W W')
  (bz:∀(j:Nat)(t:TypeId)(r:Value),f.resultTypes[j]? = some t->(v.resultList f.resultTypes.size)[j]? = some r->Value.okWide P W' .any 0 t r) :
  s.post enc P f apart fresh handsOn again W args v W':=by
 have ak:∀p∈before,p.block<W.heap.size:=λp hp=>hW.lt p hp;have hold:∀p∈before,(λb=>decide (b<W.heap.size)) p.block=true:=λp hp=>by simpa using ak p hp
 refine⟨ds,gs,before,[],pa,pv,hW,ma _ _ _,cD _ hold,wA _ hold,World.keptBut_mono (λp hp=>⟨hp,?_⟩) (hb.frame (· ∈ before)),λ_=>?_⟩
 .rw[fU,jm]at hp;exact Or.inr hp
 .obtain⟨_,_,_,_,_,hz,hn⟩:=hW;refine⟨bz,_,_,([]++pa)++pv,⟨[]++pa,pv,trodAll_append (cD _ (λ_ _=>rfl)) (ma _ _ _),wA _ (λ_ _=>rfl),rfl,?_,?_⟩,?_⟩
  .intro b off hp;have gO:MemPlace.cell b off∈before:=by rw[fU];simpa using hp
   rw[hb.frozen (ak _ gO)];exact hz b off gO
  .intro ha;have:=hn ha;rw[fU]at this;simpa using this
  .intro p hp _;rw[fU];simpa using hp
open Go.RowKit Go.WideShapes Go.ChangeShapes
def wB(P:Program)(f:TypeId->Ty->Bool):List Field->Nat->Ty->Bool
 |[],_,_=>false
 |[x],off,b=>decide (x.offset=off)&&decide (P.cellsOf x.type=b.size)&&f x.type b
 |x::y::r,off,.pair a b=>decide (x.offset=off)&&decide (P.cellsOf x.type=a.size)&&f x.type a&&wB P f (y::r) (off+a.size) b
 |_,_,_=>false
def pb(P:Program):Nat->TypeId->Ty->Bool
 |0,_,_=>false
 |n+1,t,ty=>match P.underlying t with
  |some (.int k)=>decide (ty = .int k)
  |some .bool=>decide (ty = .bool)
  |some .string=>decide (ty = .str)
  |some (.slice e)=>match ty with
   |.list a=>pb P n e a&&decide (P.cellsOf e=a.size)&&decide (0<a.size)
   |_=>false
  |some (.struct fs)=>decide (P.cellsOf t=ty.size)&&match fs.toList,ty with
   |[x],.wrap a=>wB P (pb P n) [x] 0 a
   |x::y::r,.pair a b=>wB P (pb P n) (x::y::r) 0 (.pair a b)
   |_,_=>false
  |_=>false
def Wf:(t:Ty)->t.den->Prop
 |.int k,n=>(Lit.int k n).wf=true
 |.bool,_=>True
 |.str,s=>s.size<=maxLen
 |.unit,_=>True
 |.wrap a,v=>Wf a v
 |.pair a b,v=>Wf a v.1/\Wf b v.2
 |.list a,xs=>List.length xs<=maxLen/\∀x∈(show List a.den from xs),Wf a x
 |.arr _ _,_=>True
theorem Hb{α β:Type}{f:α->Option β}:∀{l:List α}{ys:List β},l.mapM f=some ys->ys.length=l.length/\∀(i:Nat)(x:α),l[i]? = some x->∃y,ys[i]? = some y/\f x=some y
 |[],ys,h=>by
  simp at h;subst h;exact⟨rfl,λi x hx=>by simp at hx⟩
 |a::l,ys,h=>by
  rw[zu]at h;cases ha:f a with
  |none=>simp[ha]at h
  |some y=>
   cases hl:l.mapM f with
   |none=>simp[ha,hl]at h
   |some zs=>
    simp[ha,hl]at h;subst h;obtain⟨h1,h2⟩:=Hb hl;refine⟨by simp[h1],λi x hx=>?_⟩;cases i with
    |zero=>simp at hx;subst hx;exact⟨y,rfl,ha⟩
    |succ i=>simp at hx;obtain⟨z,hz,hf⟩:=h2 i x hx;exact⟨z,by simpa using hz,hf⟩
theorem T0{α β:Type}{f:α->Option β}:∀{l:List α}{ys:List β},ys.length=l.length->(∀(i:Nat)(x:α),l[i]? = some x->f x=ys[i]?)->l.mapM f=some ys
 |[],ys,h,_=>by
  have:ys=[]:=jx (by simpa using h);subst this;rfl
 |a::l,[],h,_=>by simp at h
 |a::l,y::ys,h,hg=>by
  have h0:f a=some y:=by simpa using hg 0 a rfl
  rw[zu,h0,T0 (ys:=ys) (by simpa using h) (λi x hx=>by simpa using hg (i+1) x (by simpa using hx))];rfl
theorem Hc{α β:Type}{f g:α->Option β}:∀{l:List α}{ys:List β},l.mapM f=some ys->(∀x∈l,∀y,y∈ys->f x=some y->g x=some y)->l.mapM g=some ys
 |[],ys,h,_=>by simpa using h
 |a::l,ys,h,hk=>by
  rw[zu]at h ⊢;cases ha:f a with
  |none=>simp[ha]at h
  |some y=>
   cases hl:l.mapM f with
   |none=>simp[ha,hl]at h
   |some zs=>simp[ha,hl]at h;subst h;rw[hk a (by simp) y (by simp) ha,Hc hl (λx hx z hz hf=>hk x (by simp[hx]) z (by simp[hz]) hf)];rfl
theorem T1{α:Type}{Q:Nat->α->Prop}:∀n,(∀i,i<n->∃x,Q i x)->∃xs:List α,xs.length=n/\∀i x,xs[i]? = some x->Q i x
 |0,_=>⟨[],rfl,λi x h=>by simp at h⟩
 |n+1,h=>by
  obtain⟨xs,hl,hx⟩:=T1 n (λi hi=>h i (by omega));obtain⟨x,hq⟩:=h n (by omega);refine⟨xs++[x],by simp[hl],λi y hy=>?_⟩;rcases za i n with hi|hi
  .rw[List.getElem?_append_left (by omega)]at hy;exact hx i y hy
  .have:i=n:=by have:=(jt.1 hy).1;simp[hl]at this;omega
   subst this;rw[kc (by omega),hl,Nat.sub_self]at hy;simp at hy;subst hy;exact hq
theorem T2{α β:Type}{R:α->β->Prop}:∀{as:List α}{bs:List β},as.length=bs.length->(∀(i:Nat)(a:α)(b:β),as[i]? = some a->bs[i]? = some b->R a b)->All2 R as bs
 |[],[],_,_=>trivial
 |a::as,b::bs,hl,h=>⟨h 0 a b rfl rfl,T2 (by simpa using hl) λi x y hx hy=>h (i+1) x y (by simpa using hx) (by simpa using hy)⟩
 |[],_::_,hl,_=>by simp at hl
 |_::_,[],hl,_=>by simp at hl
theorem T3{m:Nat}:∀{css:List (List Value)},(∀c∈css,c.length=m)->∀{j:Nat}{v:Value},css.flatten[j]? = some v->∃i r c,j=i*m+r/\r<m/\css[i]? = some c/\c[r]? = some v
 |[],_,j,v,h=>by simp at h
 |c::css,hl,j,v,h=>by
  simp only[ki]at h;have hc:=hl c (by simp);rcases za j c.length with hj|hj
  .rw[List.getElem?_append_left hj]at h;exact⟨0,j,c,by omega,by omega,rfl,h⟩
  .rw[kc hj]at h;obtain⟨i,r,c',e,hr,hi,hv⟩:=T3 (λx hx=>hl x (by simp[hx])) h;exact⟨i+1,r,c',by rw[Nat.add_mul];omega,hr,by simpa using hi,hv⟩
def Ext(W W':World):Prop:=∀(k:Nat) x,W.heap[k]? = some x->W'.heap[k]? = some x
theorem Ext.cell{W W':World}(h:Ext W W'){a:Addr}{v:Value}(hc:W.cell? a=some v):W'.cell? a=some v:=by
 unfold World.cell? at hc ⊢;split at hc
 .rename_i c _ _ hb;rw[h _ _ hb];exact hc
 .simp at hc
theorem Ext.cells{W W':World}(h:Ext W W'){a:Addr}{n:Nat}{cs:List Value}(hc:W.cells? 0 a n=some cs):W'.cells? 0 a n=some cs:=by
 unfold World.cells? at hc ⊢;simp only[k7,if_true]at hc ⊢;exact Hc hc λi _ y _ hf=>h.cell hf
theorem Mb{W:World}{a:Addr}{n:Nat}{cs:List Value}(hc:W.cells? 0 a n=some cs):cs.length=n/\∀i v,cs[i]? = some v->W.cell? (a.add i)=some v:=by
 unfold World.cells? at hc;simp only[k7,if_true]at hc;obtain⟨h1,h2⟩:=Hb hc;simp only[List.length_range]at h1;refine⟨h1,λi v hv=>?_⟩;have hi:i<n:=by rw[<-h1];exact(jt.1 hv).1
 obtain⟨y,hy,hf⟩:=h2 i i (by simp[hi]);rw[hv]at hy;simp at hy;subst hy;exact hf
theorem T4{W:World}{a:Addr}{v:Value}(h:W.cell? a=some v):a.block<W.heap.size/\a.spot=none:=by
 unfold World.cell? at h;split at h
 .rename_i c _ _ hb;refine⟨(je.1 hb).1,?_⟩;split at h
  .simp at h
  .rename_i hs;simpa using hs
 .simp at h
def oldS(W:World):ay:=λg _=>g<W.heap.size
def DH{H:Type}(enc:TypeId×Value->H)(P:Program)(W:World)(held:Bool)(fuel:Nat)(t:TypeId)(ty:Ty)(cs:List Value)(d:DataW H)(ps:List MemPlace):Prop:=
 cs.length=ty.size/\(∃v:ty.den,Rep (oldS W) W ty v cs/\Wf ty v)/\
  ∀W' sp,Ext W W'->(∀q∈ps,sp q.block=true)->DataW.trod enc P W' 0 sp held fuel t cs=some (d,ps)
section
variable{H:Type}{enc:TypeId×Value->H}{P:Program}{W:World}{held:Bool}
theorem jty{a:Addr}{n:Nat}(hn:0<n):∃q∈MemPlace.row a n,q.block=a.block:=
 ⟨.cell a.block (a.off+0),jn.2 ⟨0,by simp[hn],rfl⟩,rfl⟩
theorem jpr{n:Nat}{t e:TypeId}{el:Ty}(hu:P.underlying t=some (.slice e))(bH:P.cellsOf e=el.size)(bB:0<el.size){fuel:Nat}{cs:List Value}{d:DataW H}{ps:List MemPlace}
  (ih:∀(m:Nat)(cs:List Value)(d:DataW H)(ps:List MemPlace),DataW.trod enc P W 0 (λ_=>true) held m e cs=some (d,ps)->DH enc P W held m e el cs d ps)
  (h:DataW.trod enc P W 0 (λ_=>true) held fuel t cs=some (d,ps)):DH enc P W held fuel t (.list el) cs d ps:=by
 cases fuel with
 |zero=>simp[DataW.trod]at h
 |succ m=>
  have h':=h;unfold DataW.trod at h;rw[hu]at h;split at h;all_goals (try (rename_i heq _;simp at heq;done))
  all_goals (try (rename_i heq;simp at heq;done))
  .rename_i heq;refine⟨rfl,⟨[],⟨none,0,rfl,jo _,k7 _,λ_=>rfl,λb hb=>by simp at hb⟩,⟨k7 _,by simp⟩⟩,λW' sp _ _=>?_⟩;unfold DataW.trod;rw[hu];exact h
  .rename_i e' a len cap heq;simp only[j4,TypeDesc.slice.injEq]at heq;subst heq;simp only[k7,q9,if_true]at h;split at h
   .rename_i hc;cases fg:(List.range len).mapM (λi=>(W.cells? 0 (a.add (i*P.cellsOf e)) (P.cellsOf e)).bind (DataW.trod enc P W 0 (λ_=>true) held m e)) with
    |none=>rw[fg]at h;simp at h
    |some elems=>
     rw[fg]at h;simp only[j3]at h;cases Hd:(List.range (cap-len)).mapM (λj=>(W.cells? 0 (a.add ((len+j)*P.cellsOf e)) (P.cellsOf e)).bind (DataW.trod enc P W 0 (λ_=>true) held m e)) with
     |none=>rw[Hd]at h;simp at h
     |some rest=>
      rw[Hd]at h;simp only[ko,j4,j8]at h;obtain⟨rfl,rfl⟩:=h;obtain⟨l1,g1⟩:=Hb fg;obtain⟨l2,g2⟩:=Hb Hd;simp only[List.length_range]at l1 l2
      have one:∀i y,(W.cells? 0 (a.add (i*P.cellsOf e)) (P.cellsOf e)).bind (DataW.trod enc P W 0 (λ_=>true) held m e)=some y->∃c,W.cells? 0 (a.add (i*P.cellsOf e)) (P.cellsOf e)=some c/\DH enc P W held m e el c y.1 y.2:=by
       intro i y hy;cases hc:W.cells? 0 (a.add (i*P.cellsOf e)) (P.cellsOf e) with
       |none=>rw[hc]at hy;simp at hy
       |some c=>rw[hc]at hy;exact⟨c,rfl,ih m c y.1 y.2 hy⟩
      refine⟨rfl,?_,?_⟩
      .have each:∀i,i<len->∃x:el.den×List Value,W.cells? 0 (a.add (i*P.cellsOf e)) (P.cellsOf e)=some x.2/\Rep (oldS W) W el x.1 x.2/\Wf el x.1:=by intro i hi;obtain⟨y,hy,hf⟩:=g1 i i (by simp[hi]);obtain⟨c,fc,_,⟨v,hv,hw⟩,_⟩:=one i y hf;exact⟨(v,c),fc,hv,hw⟩
       obtain⟨xs,om,fZ⟩:=T1 len each;have DI:∀c∈xs.map (·.2),c.length=P.cellsOf e:=by intro c hc;obtain⟨x,hx,rfl⟩:=jn.1 hc;obtain⟨i,hi⟩:=qy.1 hx;exact(Mb (fZ i x hi).1).1
       refine⟨xs.map (·.1),?_,?_⟩
       .refine⟨some a,cap,by simp[om],by simp[om,hc.1],hc.2,by simp,λb hb=>?_⟩;simp only[j4]at hb;subst hb;have wC:len≠0->a.spot=none:=by intro hl;obtain⟨x,hx⟩:∃x,xs[0]? = some x:=⟨xs[0],jk (by omega)⟩;obtain⟨k1,k2⟩:=Mb (fZ 0 x hx).1;obtain⟨v,hv⟩:∃v,x.2[0]? = some v:=⟨x.2[0],jk (by omega)⟩;have:=(T4 (k2 0 v hv)).2;simpa[Addr.add]using this
        refine⟨λaN=>wC (λh0=>aN (by rw[List.map_eq_nil_iff];exact jx (by omega))),xs.map (·.2),T2 (by simp) (λi x c hx hc=>?_),λj v hv=>?_⟩
        .simp only[qf,Option.map_eq_some_iff]at hx hc;obtain⟨y,hy,rfl⟩:=hx;obtain⟨z,hz,rfl⟩:=hc;rw[hy]at hz;simp at hz;subst hz;exact(fZ i y hy).2.1
        .obtain⟨i,r,c,hj,hr,nf,oq⟩:=T3 DI hv;simp only[qf,Option.map_eq_some_iff]at nf;obtain⟨x,hx,rfl⟩:=nf;have dB:=(Mb (fZ i x hx).1).2 r v oq;have lv:i<len:=by rw[<-om];exact(jt.1 hx).1
         have hs:=wC (by omega);have xm:(a.add (i*P.cellsOf e)).add r=⟨a.block,a.off+j,none⟩:=by obtain⟨g,o,s⟩:=a;simp only at hs;subst hs;simp only[Addr.add];split<;>split<;>simp<;>omega
         rw[xm]at dB;exact⟨(T4 dB).1,dB⟩
       .refine⟨by simp only[ka,om];omega,λx hx=>?_⟩;obtain⟨y,hy,rfl⟩:=jn.1 hx;obtain⟨i,hi⟩:=qy.1 hy;exact(fZ i y hi).2.2
      .intro W' sp hE cY
       have keep:∀i y,y∈elems++rest->(W.cells? 0 (a.add (i*P.cellsOf e)) (P.cellsOf e)).bind (DataW.trod enc P W 0 (λ_=>true) held m e)=some y->
         (W'.cells? 0 (a.add (i*P.cellsOf e)) (P.cellsOf e)).bind (DataW.trod enc P W' 0 sp held m e)=some y:=by
        intro i y hy hf;obtain⟨c,fc,_,_,hk⟩:=one i y hf;rw[hE.cells fc];exact hk W' sp hE (λq hq=>cY q (kg _ (vc.2 ⟨y,hy,hq⟩)))
       unfold DataW.trod;rw[hu];simp only[k7,q9];rw[if_pos hc,Hc fg (λi _ y hy hf=>keep i y (kb _ hy) hf)];simp only[j3]
       have cU:(if sp a.block=true then (List.range (cap-len)).mapM (λj=>(W'.cells? 0 (a.add ((len+j)*P.cellsOf e)) (P.cellsOf e)).bind (DataW.trod enc P W' 0 sp held m e)) else some [])=some rest:=by
        split
        .exact Hc Hd (λj _ y hy hf=>keep (len+j) y (kg _ hy) hf)
        .rename_i hsf;rcases Nat.eq_zero_or_pos ((elems.length+rest.length)*P.cellsOf e) with h0|h0
         .have:rest=[]:=by
           rcases Nat.mul_eq_zero.1 h0 with h|h
           .exact jx (by omega)
           .omega
          rw[this]
         .obtain⟨q,hq,hb⟩:=jty (a:=a) h0;have:=cY q (kb _ hq);rw[hb]at this;exact absurd this hsf
       rw[cU];rfl
   .simp at h
  .simp at h
theorem DJ{n m:Nat}(ih:∀(t:TypeId)(ty:Ty),pb P n t ty=true->∀(cs:List Value)(d:DataW H)(ps:List MemPlace),DataW.trod enc P W 0 (λ_=>true) held m t cs=some (d,ps)->DH enc P W held m t ty cs d ps)(cs:List Value) :
  ∀(fs:List Field)(off:Nat)(ty:Ty)(xs:List (DataW H×List MemPlace)),wB P (pb P n) fs off ty=true->cs.length=off+ty.size->
   fs.mapM (λf=>DataW.trod enc P W 0 (λ_=>true) held m f.type ((cs.drop f.offset).take (P.cellsOf f.type)))=some xs->
   (∃v:ty.den,Rep (oldS W) W ty v (cs.drop off)/\Wf ty v)/\
    ∀W' sp,Ext W W'->(∀q∈xs.flatMap (·.2),sp q.block=true)->fs.mapM (λf=>DataW.trod enc P W' 0 sp held m f.type ((cs.drop f.offset).take (P.cellsOf f.type)))=some xs
 |[],_,_,_,hc,_,_=>by simp[wB]at hc
 |[f],off,ty,xs,hc,hl,hm=>by
  simp only[wB,ja,jh]at hc;obtain⟨⟨ho,hz⟩,hc⟩:=hc;rw[zu]at hm;cases hf:DataW.trod enc P W 0 (λ_=>true) held m f.type ((cs.drop f.offset).take (P.cellsOf f.type)) with
  |none=>simp[hf]at hm
  |some y=>simp[hf]at hm;subst hm;obtain⟨_,hv,hk⟩:=ih f.type ty hc _ y.1 y.2 hf;rw[ho,hz,List.take_of_length_le (by simp;omega)]at hv;refine⟨hv,λW' sp hE cY=>?_⟩;rw[zu,hk W' sp hE (λq hq=>cY q (by simpa using hq))];rfl
 |f::g::r,off,ty,xs,hc,hl,hm=>by
  cases ty with
  |pair a b=>
   simp only[wB,ja,jh]at hc;obtain⟨⟨⟨ho,hz⟩,hc⟩,hr⟩:=hc;rw[zu]at hm;cases hf:DataW.trod enc P W 0 (λ_=>true) held m f.type ((cs.drop f.offset).take (P.cellsOf f.type)) with
   |none=>simp[hf]at hm
   |some y=>
    cases cU:(g::r).mapM (λf=>DataW.trod enc P W 0 (λ_=>true) held m f.type ((cs.drop f.offset).take (P.cellsOf f.type))) with
    |none=>rw[hf,cU]at hm;simp at hm
    |some ys=>
     rw[hf,cU]at hm;simp at hm;subst hm;have ny:cs.length=off+(a.size+b.size):=hl;obtain⟨mE,⟨v,hv,hw⟩,hk⟩:=ih f.type a hc _ y.1 y.2 hf;obtain⟨⟨v2,xX,wm⟩,gn⟩:=DJ ih cs (g::r) (off+a.size) b ys hr (by omega) cU;rw[ho,hz]at hv;refine⟨⟨(v,v2),⟨(cs.drop off).take a.size,cs.drop (off+a.size),?_,hv,xX⟩,hw,wm⟩,λW' sp hE cY=>?_⟩
     .rw[<-List.drop_drop,qo]
     .rw[zu,hk W' sp hE (λq hq=>cY q (by simp[hq])),gn W' sp hE (λq hq=>cY q (by simp at hq ⊢;exact .inr hq))];rfl
  |_=>simp[wB]at hc
theorem T5:∀(n:Nat)(t:TypeId)(ty:Ty),pb P n t ty=true->∀(fuel:Nat)(cs:List Value)(d:DataW H)(ps:List MemPlace),DataW.trod enc P W 0 (λ_=>true) held fuel t cs=some (d,ps)->
  DH enc P W held fuel t ty cs d ps
 |0,_,_,hc,_,_,_,_,_=>by simp[pb]at hc
 |n+1,t,ty,hc,fuel,cs,d,ps,h=>by
  have ih:=T5 n;cases fuel with
  |zero=>simp[DataW.trod]at h
  |succ m=>
  have ng:=hc;unfold pb at hc;split at hc
  .rename_i k hu;have:=qg hc;subst this;obtain⟨z,rfl,hx,hw⟩:=DataW.trod_int hu h;refine⟨rfl,⟨z,rfl,hw⟩,λW' sp _ _=>?_⟩;simp only[j8]at hx;rw[hx.1,hx.2];exact trod_int_mk m hu hw
  .rename_i hu;have:=qg hc;subst this;obtain⟨z,rfl,hx⟩:=DataW.trod_bool hu h;refine⟨rfl,⟨z,rfl,trivial⟩,λW' sp _ _=>?_⟩;unfold DataW.trod at h ⊢;rw[hu]at h ⊢;exact h
  .rename_i hu;have:=qg hc;subst this;obtain⟨z,rfl,hx,hw⟩:=DataW.trod_string hu h;refine⟨rfl,⟨z,rfl,hw⟩,λW' sp _ _=>?_⟩;unfold DataW.trod at h ⊢;rw[hu]at h ⊢;exact h
  .rename_i e hu;split at hc
   .rename_i a;simp only[ja,jh]at hc;exact jpr (n:=n) hu hc.1.2 hc.2 (λm cs d ps h=>ih e a hc.1.1 m cs d ps h) h
   .simp at hc
  .rename_i fs hu;simp only[ja,jh]at hc;obtain⟨bH,hc⟩:=hc
   have Mc:cs.length=P.cellsOf t/\∃xs,fs.toList.mapM (λf=>DataW.trod enc P W 0 (λ_=>true) held m f.type ((cs.drop f.offset).take (P.cellsOf f.type)))=some xs/\d = .agg (xs.map (·.1))/\ps=xs.flatMap (·.2):=by
    obtain⟨xs,m',e1,e2,e3,e4,e5⟩:=DataW.trod_struct hu h;have:m'=m:=by omega
    subst this;simp only[j8]at e2;exact⟨e3,xs,T0 (by simpa using e4) (λi x hx=>e5 i x (by simpa using hx)),e2.1,e2.2⟩
   obtain⟨hl,xs,hm,rfl,rfl⟩:=Mc
   have mk:∀W' sp,fs.toList.mapM (λf=>DataW.trod enc P W' 0 sp held m f.type ((cs.drop f.offset).take (P.cellsOf f.type)))=some xs->
     DataW.trod enc P W' 0 sp held (m+1) t cs=some (.agg (xs.map (·.1)),xs.flatMap (·.2)):=by
    intro W' sp gY
    exact trod_struct_mk hu hl (by
     first
     |exact gY
     |(intros;exact gY))
   refine⟨by omega,?_,λW' sp hE cY=>?_⟩;all_goals split at hc
   .rename_i x a uv;rw[uv]at hm;obtain⟨⟨v,hv,hw⟩,_⟩:=DJ (λt ty hc cs d ps h=>ih t ty hc m cs d ps h) cs [x] 0 a xs hc (by rw[hl,bH];simp[Ty.size]) hm;exact⟨v,by simpa[Rep]using hv,hw⟩
   .rename_i x y r a b uv;rw[uv]at hm;obtain⟨⟨v,hv,hw⟩,_⟩:=DJ (λt ty hc cs d ps h=>ih t ty hc m cs d ps h) cs (x::y::r) 0 (.pair a b) xs hc (by omega) hm;exact⟨v,by simpa using hv,hw⟩
   .simp at hc
   .rename_i x a uv;rw[uv]at hm;obtain⟨_,hk⟩:=DJ (λt ty hc cs d ps h=>ih t ty hc m cs d ps h) cs [x] 0 a xs hc (by rw[hl,bH];simp[Ty.size]) hm;exact mk W' sp (by rw[uv];exact hk W' sp hE cY)
   .rename_i x y r a b uv;rw[uv]at hm;obtain⟨_,hk⟩:=DJ (λt ty hc cs d ps h=>ih t ty hc m cs d ps h) cs (x::y::r) 0 (.pair a b) xs hc (by omega) hm;exact mk W' sp (by rw[uv];exact hk W' sp hE cY)
   .simp at hc
  .simp at hc
end
theorem He{P:Program}{W:World}{r:Reach}{base:Nat}{t:TypeId}{v:Value}{d:TypeDesc}(hu:P.underlying t=some d)(hd:(∃k,d = .int k)\/d = .bool\/d = .string\/∃e,d = .slice e)(h:Value.okWide P W r base t v):One v:=by
 have hc:Cell.ok P W r base t v:=by unfold Value.okWide at h;rw[hu]at h;rcases hd with⟨k,rfl⟩|rfl|rfl|⟨e,rfl⟩<;>(dsimp only at h;unfold Cell.okWide at h;rw[hu]at h;exact h)
 unfold Cell.ok at hc;rw[hu]at hc;rcases hd with⟨k,rfl⟩|rfl|rfl|⟨e,rfl⟩<;>cases v<;>first|rfl|(exact absurd hc (by simp))
theorem Md{H:Type}{enc:TypeId×Value->H}{P:Program}{W:World}{n:Nat}{t:TypeId}{ty:Ty}(fN:pb P n t ty=true){r:Reach}{base:Nat}{v:Value}(bz:Value.okWide P W r base t v){d:DataW H}{p:List MemPlace}
  (h:DataW.Trod enc P W 0 (λ_=>true) true t v d p) :
  ∃x:ty.den,nk (oldS W) W (.v ⟨ty,x⟩) v/\Wf ty x/\∀W' sp,Below W.heap.size W W'->(∀q∈p,sp q.block=true)->DataW.Trod enc P W' 0 sp true t v d p:=by
 obtain⟨fuel,h⟩:=h;obtain⟨_,⟨x,hx,hw⟩,hk⟩:=T5 n t ty fN fuel _ d p h;refine⟨x,⟨hx,λhm=>?_,λhm=>?_⟩,hw,λW' sp hb cY=>⟨fuel,hk W' sp (λk y hy=>by rw[hb.block k (je.1 hy).1];exact hy) cY⟩⟩
 .cases n with
  |zero=>simp[pb]at fN
  |succ n=>
   unfold pb at fN;split at fN
   .have:=qg fN;subst this;simp[iw,Ty.agg]at hm
   .have:=qg fN;subst this;simp[iw,Ty.agg]at hm
   .have:=qg fN;subst this;simp[iw,Ty.agg]at hm
   .split at fN
    .simp[iw,Ty.agg]at hm
    .simp at fN
   .rename_i hu;unfold Value.okWide at bz;rw[hu]at bz;obtain⟨cs,dF,_⟩:=bz;exact⟨cs,dF⟩
   .simp at fN
 .cases n with
  |zero=>simp[pb]at fN
  |succ n=>
   unfold pb at fN;split at fN
   .rename_i k hu;exact He hu (.inl ⟨k,rfl⟩) bz
   .rename_i hu;exact He hu (.inr (.inl rfl)) bz
   .rename_i hu;exact He hu (.inr (.inr (.inl rfl))) bz
   .rename_i e hu;exact He hu (.inr (.inr (.inr ⟨e,rfl⟩))) bz
   .rename_i hu;simp only[ja]at fN;have h2:=fN.2;split at h2
    .simp[iw,Ty.agg]at hm
    .simp[iw,Ty.agg]at hm
    .simp at h2
   .simp at fN
def OLe{α:Type}(a b:Option α):Prop:=∀r,a=some r->b=some r
theorem OLe.refl{α:Type}(a:Option α):OLe a a:=λ_ h=>h
theorem OLe.none{α:Type}(a:Option α):OLe none a:=λ_ h=>by simp at h
theorem OLe.bind{α β:Type}{a b:Option α}{f g:α->Option β}(h:OLe a b)(h':∀x,OLe (f x) (g x)):OLe (a.bind f) (b.bind g):=by
 intro r hr;cases a with
 |none=>simp at hr
 |some x=>rw[h x rfl];exact h' x r hr
theorem OLe.cond{α:Type}{c:Bool}{a b a' b':Option α}(h:OLe a a')(h':OLe b b'):OLe (cond c a b) (cond c a' b'):=by
 cases c with
 |true=>exact h
 |false=>exact h'
theorem OLe.sumC{α β γ:Type}{x:α ⊕ β}{f f':α->Option γ}{g g':β->Option γ}(h:∀x,OLe (f x) (f' x))(h':∀x,OLe (g x) (g' x)):OLe (sumC x f g) (Lft.sumC x f' g'):=by
 cases x with
 |inl a=>exact h a
 |inr b=>exact h' b
theorem OLe.loopN{α β:Type}{f g:α->Option (α ⊕ β)}(h:∀s,OLe (f s) (g s)):∀(n:Nat)(s:α),OLe (Lft.loopN f n s) (Lft.loopN g n s)
 |0,_=> .none _
 |n+1,s=>by
  intro r hr;simp only[Lft.loopN]at hr ⊢;cases hf:f s with
  |none=>simp[hf]at hr
  |some x=>
   rw[h s x hf];cases x with
   |inl a=>simp only[hf]at hr;exact OLe.loopN h n a r hr
   |inr b=>simpa[hf]using hr
theorem OLe.loop{α β:Type}{f g:α->Option (α ⊕ β)}(n:Nat)(s:α)(h:∀s,OLe (f s) (g s)):OLe (Lft.loopN f n s) (loopOpt g s):=
 λr hr=>Dx (OLe.loopN h n s r hr)
theorem OLe.loopOpt{α β:Type}{f g:α->Option (α ⊕ β)}(s:α)(h:∀s,OLe (f s) (g s)):OLe (Lft.loopOpt f s) (Lft.loopOpt g s):=by
 intro r hr;obtain⟨n,hn⟩:=Dy hr;exact Dx (OLe.loopN h n s r hn)
theorem T6{α β:Type}{B B':(α->Option β)->α->Option β}(h:∀g g',(∀a,OLe (g a) (g' a))->∀a,OLe (B g a) (B' g' a)):∀n a,OLe (rM B n a) (rM B' n a)
 |0,_=> .none _
 |n+1,a=>h _ _ (T6 h n) a
theorem Me{α β:Type}{B:(α->Option β)->α->Option β}(h:∀g g',(∀a,OLe (g a) (g' a))->∀a,OLe (B g a) (B g' a)):∀(k n:Nat)(a:α),OLe (rM B n a) (rM B (n+k) a)
 |k,0,a=> .none _
 |k,n+1,a=>by
  rw[show n+1+k=(n+k)+1 by omega];exact h _ _ (Me h k n) a
theorem OLe.rec{α β:Type}{B B':(α->Option β)->α->Option β}(n:Nat)(a:α)(h:∀g g',(∀a,OLe (g a) (g' a))->∀a,OLe (B g a) (B' g' a))(h':∀g g',(∀a,OLe (g a) (g' a))->∀a,OLe (B' g a) (B' g' a)) :
  OLe (rM B n a) (G7 B' a):=by
 intro r hr;have h1:=T6 h n a r hr;refine jtr ⟨n,h1⟩ λm y hy=>?_;have e1:=Me h' m n a r h1;have e2:=Me h' n m a y hy;rw[Nat.add_comm m n]at e2;rw[e1]at e2;simpa using e2.symm
theorem oR{α:Type}(a:Option α):OLe a a:=OLe.refl a
theorem oN{α:Type}(a:Option α):OLe none a:=OLe.none a
theorem oB{α β:Type}{a b:Option α}{f g:α->Option β}(h:OLe a b)(h':∀x,OLe (f x) (g x)):OLe (a.bind f) (b.bind g):=OLe.bind h h'
theorem oC{α:Type}{c:Bool}{a b a' b':Option α}(h:OLe a a')(h':OLe b b'):OLe (cond c a b) (cond c a' b'):=OLe.cond h h'
theorem oS{α β γ:Type}{x:α ⊕ β}{f f':α->Option γ}{g g':β->Option γ}(h:∀x,OLe (f x) (f' x))(h':∀x,OLe (g x) (g' x)):OLe (sumC x f g) (Lft.sumC x f' g'):=OLe.sumC h h'
end Go.Lft
