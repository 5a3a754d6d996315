/- Shapes of arguments and snapshots: what is known of them but the data. Loops. -/
import Derived.Test.YtpbnnhakjhalaaaGreatELLC
import Derived.KernelRfl
import Derived.IntWalk
import Derived.Below
import Derived.ChangeSame
noncomputable section
set_option linter.unusedVariables false
namespace Go.Lft
inductive CPat where
 | v (t:Ty)
 | p (ts:List Ty)
 deriving DecidableEq
inductive LPat where
 | dead | nil
 | d (t:Ty)
 | ol (k:Nat)
 | bp (k c:Nat)
 | ep (k i c:Nat)
 | tl (k:Nat)
 | hd (k:Nat)
 | s1 (k:Nat)
 | ip (ts:List Ty)
 | clo (f:Nat) (caps:List CPat)
 | clr (f:Nat) (ks:List Nat)
 deriving DecidableEq
inductive KPat where
 | one (l:LPat)
 | st (ls:List LPat)
 | av (n:Nat) (a:Ty)
 deriving DecidableEq
inductive BPat where
 | free | gone
 | cell (ls:List LPat) (frz:Bool)
 | lst (e:Nat) (a:Ty) (frz:Bool)
 | arr (n:Nat) (a:Ty)
 deriving DecidableEq
inductive IPat where
 | s (c:KPat)
 | b (x:BPat)
 deriving DecidableEq
abbrev iT:Ty:= .int .i64
abbrev sI:IPat:= .s (.one (.d iT))
inductive APat where
 | v (t:Ty)
 | ref (ts:List Ty)
 | rl (e:Nat) (t:Ty)
 | ip (ts:List Ty)
 | clo (f:Nat) (caps:List CPat)
 deriving DecidableEq
@[reducible] def HL:List Ty→Type
 | []=>Unit
 | [t]=>t.den
 | t::t'::ts=>t.den×HL (t'::ts)
def ofHL:(ts:List Ty)→HL ts→List TV
 | [],_=>[]
 | [t],h=>[⟨t,h⟩]
 | t::t'::ts,h=>⟨t,h.1⟩::ofHL (t'::ts) h.2
def toHL:(ts:List Ty)→List TV→Option (HL ts)
 | [],[]=>some ()
 | [t],[x]=>x.to t
 | t::t'::ts,x::xs=>match x.to t with
  | some v=>match toHL (t'::ts) xs with
   | some r=>some (v,r)
   | none=>none
  | none=>none
 | _,_=>none
theorem jjc:∀ {ts:List Ty} {xs:List TV} {h:HL ts},toHL ts xs=some h→xs=ofHL ts h
 | [],[],_,_=>rfl
 | [],_::_,_,h=>by simp [toHL] at h
 | [_],[],_,h=>by simp [toHL] at h
 | [t],[x],hl,h=>by
  simp only [toHL] at h
  rw [jcS h];rfl
 | [t],x::y::xs,hl,h=>by simp [toHL] at h
 | _::_::_,[],_,h=>by simp [toHL] at h
 | t::t'::ts,x::xs,hl,h=>by
  simp only [toHL] at h
  split at h
  ·rename_i v hv
   split at h
   ·rename_i r hr
    simp only [j4] at h
    subst h
    rw [jcS hv,jjc hr]
    rfl
   ·simp at h
  ·simp at h
def capP:Cap→CPat×List TV
 | .v x=>(.v x.t,[x])
 | .p ls=>(.p (ls.map (·.t)),ls)
def jes:List Cap→List CPat×List TV
 | []=>([],[])
 | c::cs=>((capP c).1::(jes cs).1,(capP c).2++(jes cs).2)
def tv0:TV:=⟨.unit,()⟩
def capF:CPat→List TV→Cap
 | .v _,xs=> .v (xs.headD tv0)
 | .p ts,xs=> .p (xs.take ts.length)
def CPat.n:CPat→Nat
 | .v _=>1
 | .p ts=>ts.length
def jnM:List CPat→List TV→List Cap
 | [],_=>[]
 | c::cs,xs=>capF c xs::jnM cs (xs.drop c.n)
def jnN:List CPat→Nat
 | []=>0
 | c::cs=>c.n+jnN cs
theorem jsJ (c:Cap) (r:List TV):capF (capP c).1 ((capP c).2++r)=c∧(capP c).1.n=(capP c).2.length:=by
 cases c with
 | v x=>exact ⟨rfl,rfl⟩
 | p ls=>simp [capP,capF,CPat.n]
theorem jjd:∀ (cs:List Cap) (r:List TV),jnM (jes cs).1 ((jes cs).2++r)=cs∧jnN (jes cs).1=(jes cs).2.length
 | [],r=>⟨rfl,rfl⟩
 | c::cs,r=>by
  simp only [jes,jnM,jnN,jm,ji]
  have h1:=jsJ c ((jes cs).2++r)
  have h2:=jjd cs r
  rw [h1.1,h1.2,qn,h2.1,h2.2]
  exact ⟨rfl,rfl⟩
def jhM:Leaf→LPat×List TV
 | .dead=>(.dead,[])
 | .nil=>(.nil,[])
 | .d t v=>(.d t,[⟨t,v⟩])
 | .ol k=>(.ol k,[])
 | .bp k c=>(.bp k c,[])
 | .ep k i c=>(.ep k i c,[])
 | .tl k i=>(.tl k,[⟨.int .i64,(i:Int)⟩])
 | .hd k i=>(.hd k,[⟨.int .i64,(i:Int)⟩])
 | .s1 k=>(.s1 k,[])
 | .ip ls=>(.ip (ls.map (·.t)),ls)
 | .clo f caps=>(.clo f (jes caps).1,(jes caps).2)
 | .clr f ks=>(.clr f ks,[])
def js6:TV→Nat
 | ⟨.int _,v⟩=>Int.toNat v
 | _=>0
def LPat.n:LPat→Nat
 | .d _=>1
 | .tl _=>1
 | .hd _=>1
 | .ip ts=>ts.length
 | .clo _ cs=>jnN cs
 | _=>0
def jp7:LPat→List TV→Leaf
 | .dead,_=> .dead
 | .nil,_=> .nil
 | .d _,xs=> .d (xs.headD tv0).t (xs.headD tv0).v
 | .ol k,_=> .ol k
 | .bp k c,_=> .bp k c
 | .ep k i c,_=> .ep k i c
 | .tl k,xs=> .tl k (js6 (xs.headD tv0))
 | .hd k,xs=> .hd k (js6 (xs.headD tv0))
 | .s1 k,_=> .s1 k
 | .ip ts,xs=> .ip (xs.take ts.length)
 | .clo f cs,xs=> .clo f (jnM cs xs)
 | .clr f ks,_=> .clr f ks
theorem jp8 (l:Leaf) (r:List TV):jp7 (jhM l).1 ((jhM l).2++r)=l∧(jhM l).1.n=(jhM l).2.length:=by
 cases l with
 | ip ls=>simp [jhM,jp7,LPat.n]
 | clo f cs=>
  have:=jjd cs r
  simp only [jhM,jp7,LPat.n]
  exact ⟨by rw [this.1],this.2⟩
 | _=>exact ⟨rfl,rfl⟩
def j8u:List Leaf→List LPat×List TV
 | []=>([],[])
 | c::cs=>((jhM c).1::(j8u cs).1,(jhM c).2++(j8u cs).2)
def jgU:List LPat→List TV→List Leaf
 | [],_=>[]
 | c::cs,xs=>jp7 c xs::jgU cs (xs.drop c.n)
def jgV:List LPat→Nat
 | []=>0
 | c::cs=>c.n+jgV cs
theorem jgW:∀ (cs:List Leaf) (r:List TV),jgU (j8u cs).1 ((j8u cs).2++r)=cs∧jgV (j8u cs).1=(j8u cs).2.length
 | [],r=>⟨rfl,rfl⟩
 | c::cs,r=>by
  simp only [j8u,jgU,jgV,jm,ji]
  have h1:=jp8 c ((j8u cs).2++r)
  have h2:=jgW cs r
  rw [h1.1,h1.2,qn,h2.1,h2.2]
  exact ⟨rfl,rfl⟩
def celP:Cel→KPat×List TV
 | .one l=>(.one (jhM l).1,(jhM l).2)
 | .st ls=>(.st (j8u ls).1,(j8u ls).2)
 | .av n a xs=>(.av n a,[⟨.list a,xs⟩])
def jkH (a:Ty) (xs:List TV):List a.den:=((xs.headD tv0).to (.list a)).getD []
theorem jdu (a:Ty) (xs:List a.den) (r:List TV):jkH a (⟨.list a,xs⟩::r)=xs:=by
 simp [jkH,TV.to]
def KPat.n:KPat→Nat
 | .one l=>l.n
 | .st ls=>jgV ls
 | .av _ _=>1
def celF:KPat→List TV→Cel
 | .one l,xs=> .one (jp7 l xs)
 | .st ls,xs=> .st (jgU ls xs)
 | .av n a,xs=> .av n a (jkH a xs)
theorem jsK (c:Cel) (r:List TV):celF (celP c).1 ((celP c).2++r)=c∧(celP c).1.n=(celP c).2.length:=by
 cases c with
 | one l=>have:=jp8 l r;exact ⟨by simp only [celP,celF];rw [this.1],this.2⟩
 | st ls=>have:=jgW ls r;exact ⟨by simp only [celP,celF];rw [this.1],this.2⟩
 | av n a xs=>exact ⟨by simp only [celP,celF,List.cons_append,jw];rw [jdu],rfl⟩
def bsP:BS→BPat×List TV
 | .free=>(.free,[])
 | .gone=>(.gone,[])
 | .live (.cell ls f)=>(.cell (j8u ls).1 f,(j8u ls).2)
 | .live (.lst e a xs f)=>(.lst e a f,[⟨.list a,xs⟩])
 | .live (.arr n a xs)=>(.arr n a,[⟨.list a,xs⟩])
def BPat.n:BPat→Nat
 | .free | .gone=>0
 | .cell ls _=>jgV ls
 | .lst _ _ _=>1
 | .arr _ _=>1
def bsF:BPat→List TV→BS
 | .free,_=> .free
 | .gone,_=> .gone
 | .cell ls f,xs=> .live (.cell (jgU ls xs) f)
 | .lst e a f,xs=> .live (.lst e a (jkH a xs) f)
 | .arr n a,xs=> .live (.arr n a (jkH a xs))
theorem jtC (c:BS) (r:List TV):bsF (bsP c).1 ((bsP c).2++r)=c∧(bsP c).1.n=(bsP c).2.length:=by
 cases c with
 | free=>exact ⟨rfl,rfl⟩
 | gone=>exact ⟨rfl,rfl⟩
 | live b=>
  cases b with
  | cell ls f=>have:=jgW ls r;exact ⟨by simp only [bsP,bsF];rw [this.1],this.2⟩
  | lst e a xs f=>exact ⟨by simp only [bsP,bsF,List.cons_append,jw];rw [jdu],rfl⟩
  | arr n a xs=>exact ⟨by simp only [bsP,bsF,List.cons_append,jw];rw [jdu],rfl⟩
def itP:Item→IPat×List TV
 | .s c=>(.s (celP c).1,(celP c).2)
 | .b x=>(.b (bsP x).1,(bsP x).2)
def IPat.n:IPat→Nat
 | .s c=>c.n
 | .b x=>x.n
def itF:IPat→List TV→Item
 | .s c,xs=> .s (celF c xs)
 | .b x,xs=> .b (bsF x xs)
theorem jsL (c:Item) (r:List TV):itF (itP c).1 ((itP c).2++r)=c∧(itP c).1.n=(itP c).2.length:=by
 cases c with
 | s c=>have:=jsK c r;exact ⟨by simp only [itP,itF];rw [this.1],this.2⟩
 | b x=>have:=jtC x r;exact ⟨by simp only [itP,itF];rw [this.1],this.2⟩
def jcc:Snap→List IPat×List TV
 | []=>([],[])
 | c::cs=>((itP c).1::(jcc cs).1,(itP c).2++(jcc cs).2)
def jlZ:List IPat→List TV→Snap
 | [],_=>[]
 | c::cs,xs=>itF c xs::jlZ cs (xs.drop c.n)
theorem jp9:∀ (cs:Snap),jlZ (jcc cs).1 (jcc cs).2=cs
 | []=>rfl
 | c::cs=>by
  simp only [jcc,jlZ]
  have h1:=jsL c (jcc cs).2
  rw [h1.1,h1.2,qn,jp9 cs]
def pack (ps:List IPat) (ts:List Ty) (h:HL ts):Snap:=jlZ ps (ofHL ts h)
def jet (ps:List IPat) (ts:List Ty) (s:Snap):Option (HL ts):=
 if (jcc s).1=ps then toHL ts (jcc s).2 else none
theorem jcd {ps:List IPat} {ts:List Ty} {s:Snap} {h:HL ts} (hs:jet ps ts s=some h):s=pack ps ts h:=by
 unfold jet at hs
 split at hs
 ·rename_i hp
  have:=jjc hs
  rw [pack,←this,←hp,jp9]
 ·simp at hs
def argP:Arg→APat×List TV
 | .v x=>(.v x.t,[x])
 | .ref ls=>(.ref (ls.map (·.t)),ls)
 | .rl e x=>(.rl e x.t,[x])
 | .ip ls=>(.ip (ls.map (·.t)),ls)
 | .clo f cs=>(.clo f (jes cs).1,(jes cs).2)
def APat.n:APat→Nat
 | .v _=>1
 | .ref ts=>ts.length
 | .rl _ _=>1
 | .ip ts=>ts.length
 | .clo _ cs=>jnN cs
def argF:APat→List TV→Arg
 | .v _,xs=> .v (xs.headD tv0)
 | .ref ts,xs=> .ref (xs.take ts.length)
 | .rl e _,xs=> .rl e (xs.headD tv0)
 | .ip ts,xs=> .ip (xs.take ts.length)
 | .clo f cs,xs=> .clo f (jnM cs xs)
theorem jsM (c:Arg) (r:List TV):argF (argP c).1 ((argP c).2++r)=c∧(argP c).1.n=(argP c).2.length:=by
 cases c with
 | v x=>exact ⟨rfl,rfl⟩
 | rl e x=>exact ⟨rfl,rfl⟩
 | ref ls=>simp [argP,argF,APat.n]
 | ip ls=>simp [argP,argF,APat.n]
 | clo f cs=>
  have:=jjd cs r
  exact ⟨by simp only [argP,argF];rw [this.1],this.2⟩
def jje:List Arg→List APat×List TV
 | []=>([],[])
 | c::cs=>((argP c).1::(jje cs).1,(argP c).2++(jje cs).2)
def jqA:List APat→List TV→List Arg
 | [],_=>[]
 | c::cs,xs=>argF c xs::jqA cs (xs.drop c.n)
theorem jpa:∀ (cs:List Arg),jqA (jje cs).1 (jje cs).2=cs
 | []=>rfl
 | c::cs=>by
  simp only [jje,jqA]
  have h1:=jsM c (jje cs).2
  rw [h1.1,h1.2,qn,jpa cs]
def jhN (ps:List APat) (ts:List Ty) (h:HL ts):List Arg:=jqA ps (ofHL ts h)
def jjf (ps:List APat) (ts:List Ty) (s:List Arg):Option (HL ts):=
 if (jje s).1=ps then toHL ts (jje s).2 else none
theorem jiE {ps:List APat} {ts:List Ty} {s:List Arg} {h:HL ts} (hs:jjf ps ts s=some h):s=jhN ps ts h:=by
 unfold jjf at hs
 split at hs
 ·rename_i hp
  have:=jjc hs
  rw [jhN,←this,←hp,jpa]
 ·simp at hs
theorem jkI {α β:Type} {f:α→Option (α ⊕ β)}:∀ {n m:Nat} {s:α} {x y:β},loopN f n s=some x→loopN f m s=some y→x=y
 | 0,_,_,_,_,h,_=>by simp [loopN] at h
 | _+1,0,_,_,_,_,h=>by simp [loopN] at h
 | n+1,m+1,s,x,y,h,h'=>by
  simp only [loopN] at h h'
  cases hf:f s with
  | none=>simp [hf] at h
  | some r=>
   cases r with
   | inl s'=>simp only [hf] at h h';exact jkI h h'
   | inr z=>simp only [hf,j4] at h h';rw [←h,←h']
open Classical in
def loopOpt {α β:Type} (f:α→Option (α ⊕ β)) (s:α):Option β:=
 if h:∃ x n,loopN f n s=some x then some h.choose else none
theorem jaE {α β:Type} {f:α→Option (α ⊕ β)} {s:α} {n:Nat} {x:β} (h:loopN f n s=some x):loopOpt f s=some x:=by
 unfold loopOpt
 have hx:∃ x n,loopN f n s=some x:=⟨x,n,h⟩
 rw [dif_pos hx]
 obtain ⟨m,hm⟩:=hx.choose_spec
 rw [jkI hm h]
theorem jaF {α β:Type} {f:α→Option (α ⊕ β)} {s:α} {x:β} (h:loopOpt f s=some x):∃ n,loopN f n s=some x:=by
 unfold loopOpt at h
 split at h
 ·rename_i hx
  simp only [j4] at h
  obtain ⟨m,hm⟩:=hx.choose_spec
  exact ⟨m,by rw [←h];exact hm⟩
 ·simp at h
theorem jkJ {α β:Type} {f:α→Option (α ⊕ β)} {s s':α} (h:f s=some (.inl s')):loopOpt f s=loopOpt f s':=by
 cases hq:loopOpt f s' with
 | some x=>
  obtain ⟨n,hn⟩:=jaF hq
  exact jaE (n:=n+1) (by simp only [loopN,h];exact hn)
 | none=>
  cases hp:loopOpt f s with
  | none=>rfl
  | some x=>
   obtain ⟨n,hn⟩:=jaF hp
   cases n with
   | zero=>simp [loopN] at hn
   | succ n=>
    simp only [loopN,h] at hn
    rw [jaE hn] at hq
    simp at hq
theorem jm0 {α β:Type} {f:α→Option (α ⊕ β)} {s:α} {x:β} (h:f s=some (.inr x)):loopOpt f s=some x:=
 jaE (n:=1) (by simp only [loopN,h])
theorem jkK {α β A B:Type} {f:α→Option (α ⊕ β)} {g:A→Option (A ⊕ B)} {p:A→α} {q:B→β}
  (h:∀ a r,g a=some r→f (p a)=some (match r with | .inl a'=> .inl (p a') | .inr b=> .inr (q b))):∀ {n:Nat} {a:A} {x:B},loopN g n a=some x→loopN f n (p a)=some (q x)
 | 0,_,_,hn=>by simp [loopN] at hn
 | n+1,a,x,hn=>by
  simp only [loopN] at hn
  cases hg:g a with
  | none=>simp [hg] at hn
  | some r=>
   have:=h a r hg
   cases r with
   | inl a'=>simp only [hg] at hn;simp only [loopN,this];exact jkK h hn
   | inr b=>simp only [hg,j4] at hn;subst hn;simp only [loopN,this]
def sumC {α β γ:Type} (x:α ⊕ β) (f:α→γ) (g:β→γ):γ:=match x with
 | .inl a=>f a
 | .inr b=>g b
structure XD where
 ex:Ex
 ps:List IPat
 ts:List Ty
@[reducible] def XT:List XD→Type
 | []=>Empty
 | [x]=>HL x.ts
 | x::y::r=>HL x.ts ⊕ XT (y::r)
def jgX:(l:List XD)→XT l→Ex×Snap
 | [],h=>nomatch h
 | [x],h=>(x.ex,pack x.ps x.ts h)
 | x::y::r,h=>match h with
  | .inl a=>(x.ex,pack x.ps x.ts a)
  | .inr b=>jgX (y::r) b
def jpb {R:Type}:(l:List XD)→XT l→(Ex→Snap→Option R)→Option R
 | [],_,_=>none
 | [x],h,k=>k x.ex (pack x.ps x.ts h)
 | x::y::r,h,k=>sumC h (fun a=>k x.ex (pack x.ps x.ts a)) (fun b=>jpb (y::r) b k)
theorem jjg {R:Type}:∀ (l:List XD) (h:XT l) (k:Ex→Snap→Option R),jpb l h k=k (jgX l h).1 (jgX l h).2
 | [],h,_=>nomatch h
 | [x],h,k=>rfl
 | x::y::r,h,k=>by
  cases h with
  | inl a=>rfl
  | inr b=>exact jjg (y::r) b k
def unX:(l:List XD)→Ex→Snap→Option (XT l)
 | [],_,_=>none
 | [x],e,s=>if e=x.ex then jet x.ps x.ts s else none
 | x::y::r,e,s=>if e=x.ex∧(jcc s).1=x.ps then match jet x.ps x.ts s with
   | some a=>some (.inl a)
   | none=>none
  else match unX (y::r) e s with
   | some b=>some (.inr b)
   | none=>none
theorem jmU:∀ (l:List XD) (e:Ex) (s:Snap) (x:XT l),unX l e s=some x→jgX l x=(e,s)
 | [],_,_,_,h=>by simp [unX] at h
 | [x],e,s,h,he=>by
  simp only [unX] at he
  split at he
  ·rename_i h1
   rw [jgX,←jcd he,h1]
  ·simp at he
 | x::y::r,e,s,h,he=>by
  simp only [unX] at he
  split at he
  ·rename_i h1
   split at he
   ·rename_i a ha
    simp only [j4] at he;subst he
    show (x.ex,pack x.ps x.ts a)=(e,s)
    rw [←jcd ha,h1.1]
   ·simp at he
  ·split at he
   ·rename_i b hb
    simp only [j4] at he;subst he
    exact jmU (y::r) e s b hb
   ·simp at he
structure jce where
 b:Nat
 ps:List IPat
 ts:List Ty
 exits:List XD
 step:HL ts→Option (HL ts ⊕ XT exits)
def jjh:List jce→Nat→Snap→(R:Type)→(Ex→Snap→Option R)→Option R
 | [],_,_,_,_=>none
 | d::ds,b,s,R,k=>if d.b=b then match jet d.ps d.ts s with
   | some h=>(loopOpt d.step h).bind fun x=>jpb d.exits x k
   | none=>none
  else jjh ds b s R k
theorem jgY:∀ ds:List jce,LFun (jjh ds)
 | []=>fun _ _=>⟨none,fun _ _=>rfl⟩
 | d::ds=>fun b s=>by
  simp only [jjh]
  split
  ·split
   ·rename_i h _
    cases hq:loopOpt d.step h with
    | none=>exact ⟨none,fun _ _=>rfl⟩
    | some x=>exact ⟨some (jgX d.exits x),fun R k=>jjg d.exits x k⟩
   ·exact ⟨none,fun _ _=>rfl⟩
  ·exact jgY ds b s
def uk (E:Env) (d:jce) (e:Ex) (σ:St):Option (HL d.ts ⊕ XT d.exits):=
 match e with
 | .normal=>match j6P E.np (E.keep d.b) σ with
  | some s=>match jet d.ps d.ts s with
   | some h=>some (.inl h)
   | none=>none
  | none=>none
 | e=>match j6P E.np (E.keepX d.b e) σ with
  | some s=>match unX d.exits e s with
   | some x=>some (.inr x)
   | none=>none
  | none=>none
def ukR (E:Env) (d:jce) (ps:Array Nat) (x y:Code) (p:Option (List Item)) (e:Ex) (σ:St):Option (HL d.ts ⊕ XT d.exits):=
 match p,e with
 | some q,.normal=>match j6P E.np (E.keep d.b) σ with
  | some s=>match jet d.ps d.ts (q++s) with
   | some h=>some (.inl h)
   | none=>none
  | none=>none
 | _,e=>cond (pinK ps x y (E.keepX d.b e)) (match j6P E.np (E.keepX d.b e) σ with
  | some s=>match unX d.exits e s with
   | some x=>some (.inr x)
   | none=>none
  | none=>none) none
def jqB (E:Env) (d:jce) (h:HL d.ts):Code→Option (HL d.ts ⊕ XT d.exits)
 | .rangeFunc g ps x y=>jgq E d.b g ps x y (pack d.ps d.ts h) (ukR E d ps x y)
 | c=>j10 E d.b c (j1y E.np (E.keep d.b) (pack d.ps d.ts h)) (uk E d)
def jmV (E:Env) (c:Code) (d:jce):Prop:=∀ h,jqB E d h c=d.step h
def outS (d:jce) (r:HL d.ts ⊕ XT d.exits):Snap ⊕ Ex×Snap:=match r with
 | .inl a=> .inl (pack d.ps d.ts a)
 | .inr x=> .inr (jgX d.exits x)
theorem jsN {E:Env} (hF:CFun E.C) (hz:E.nz=false) (hL:LFun E.L) {g:Operand} {ps:Array Nat} {x y:Code} {d:jce} (hs:jmV E (.rangeFunc g ps x y) d) (h:HL d.ts) (r:HL d.ts ⊕ XT d.exits):d.step h=some r→
  jig E d.b g ps x y (pack d.ps d.ts h)=some (outS d r):=by
 intro hr
 obtain ⟨o,ho⟩:=jlY hF hz hL d.b g ps x y (pack d.ps d.ts h)
 rw [←hs h] at hr
 have h1:some r=_:=hr.symm.trans (ho _ (fun z=>ukR E d ps x y z.1 z.2.1 z.2.2))
 cases o with
 | none=>simp at h1
 | some z=>
  obtain ⟨p,e,σ⟩:=z
  simp only [j3] at h1
  have h2:=ho _ (fun z:Option (List Item)×Ex×St=>match z.1,z.2.1 with
   | some q,.normal=>match j6P E.np (E.keep d.b) z.2.2 with
    | some s'=>some (Sum.inl (q++s'))
    | none=>none
   | _,e=>cond (pinK ps x y (E.keepX d.b e)) (match j6P E.np (E.keepX d.b e) z.2.2 with
    | some s'=>some (Sum.inr (e,s'))
    | none=>none) none)
  have h3:jig E d.b g ps x y (pack d.ps d.ts h)=_:=h2
  rw [h3,j3]
  clear h3 h2 hr ho
  dsimp only
  have h1:=h1.symm
  unfold ukR at h1
  have hx:∀ e,(cond (pinK ps x y (E.keepX d.b e)) (match j6P E.np (E.keepX d.b e) σ with
    | some s=>match unX d.exits e s with
     | some x=>some (Sum.inr x)
     | none=>none
    | none=>none) none:Option (HL d.ts ⊕ XT d.exits))=some r→(cond (pinK ps x y (E.keepX d.b e)) (match j6P E.np (E.keepX d.b e) σ with
    | some s'=>some (Sum.inr (e,s'))
    | none=>none) none:Option (Snap ⊕ Ex×Snap))=some (outS d r):=by
   intro e h1
   cases hp:pinK ps x y (E.keepX d.b e) with
   | false=>rw [hp] at h1;simp at h1
   | true=>
    rw [hp,j5] at h1
    rw [j5]
    split at h1
    ·rename_i s hs'
     split at h1
     ·rename_i hh hu
      simp only [j4] at h1;subst h1
      simp only [outS]
      rw [jmU _ _ _ _ hu]
     ·simp at h1
    ·simp at h1
  cases p with
  | none=>exact hx e h1
  | some q=>
   cases e with
   | normal=>
    dsimp only at h1 ⊢
    split at h1
    ·rename_i s hs'
     split at h1
     ·rename_i hh hu
      simp only [j4] at h1;subst h1
      simp only [outS]
      rw [←jcd hu]
     ·simp at h1
    ·simp at h1
   | exit i=>exact hx _ h1
   | ret=>exact hx _ h1
theorem jqC {E:Env} (hF:CFun E.C) (hz:E.nz=false) (hL:LFun E.L) {c:Code} {d:jce} (hs:∀ h,j10 E d.b c (j1y E.np (E.keep d.b) (pack d.ps d.ts h)) (uk E d)=d.step h) (h:HL d.ts) (r:HL d.ts ⊕ XT d.exits):d.step h=some r→
  jb2 E d.b c (pack d.ps d.ts h)=some (match r with | .inl a=> .inl (pack d.ps d.ts a) | .inr x=> .inr (jgX d.exits x)):=by
 intro hr
 obtain ⟨o,ho⟩:=j9Z hF hz hL c d.b (j1y E.np (E.keep d.b) (pack d.ps d.ts h))
 rw [←hs h] at hr
 have h1:some r=_:=hr.symm.trans (ho _ (fun z=>uk E d z.1 z.2))
 cases o with
 | none=>simp at h1
 | some z=>
  obtain ⟨e,σ⟩:=z
  simp only [j3] at h1
  have h2:=ho _ (fun z:Ex×St=>match z.1 with
   | .normal=>match j6P E.np (E.keep d.b) z.2 with
    | some s'=>some (Sum.inl s')
    | none=>none
   | e=>match j6P E.np (E.keepX d.b e) z.2 with
    | some s'=>some (Sum.inr (e,s'))
    | none=>none)
  have h3:jb2 E d.b c (pack d.ps d.ts h)=_:=h2
  rw [h3,j3]
  clear h3 h2 hr ho
  dsimp only
  have h1:=h1.symm
  unfold uk at h1
  cases e with
  | normal=>
   dsimp only at h1 ⊢
   split at h1
   ·rename_i s hs'
    split at h1
    ·rename_i hh hu
     simp only [j4] at h1;subst h1
     dsimp only
     rw [←jcd hu]
    ·simp at h1
   ·simp at h1
  | exit i=>
   dsimp only at h1 ⊢
   split at h1
   ·rename_i s hs'
    split at h1
    ·rename_i hh hu
     simp only [j4] at h1;subst h1
     dsimp only
     rw [jmU _ _ _ _ hu]
    ·simp at h1
   ·simp at h1
  | ret=>
   dsimp only at h1 ⊢
   split at h1
   ·rename_i s hs'
    split at h1
    ·rename_i hh hu
     simp only [j4] at h1;subst h1
     dsimp only
     rw [jmU _ _ _ _ hu]
    ·simp at h1
   ·simp at h1
theorem jpc {E:Env} (hF:CFun E.C) (hz:E.nz=false) (hL:LFun E.L) {c:Code} {d:jce} (hs:jmV E c d)
  (he:∀ s R k,E.L d.b s R k=match jet d.ps d.ts s with | some h=>(loopOpt d.step h).bind fun x=>jpb d.exits x k | none=>none):jkB E d.b c:=by
 intro s R k r h
 rw [he] at h
 split at h
 ·rename_i hl hu
  cases hq:loopOpt d.step hl with
  | none=>simp [hq] at h
  | some x=>
   rw [hq,j3,jjg] at h
   obtain ⟨n,hn⟩:=jaF hq
   refine ⟨n,(jgX d.exits x).1,(jgX d.exits x).2,?_,h⟩
   rw [jcd hu]
   exact jkK (f:=joa E d.b c) (p:=pack d.ps d.ts) (q:=jgX d.exits) (fun a r hr=>by
    cases c with
    | rangeFunc g ps x y=>have:=jsN hF hz hL hs a r hr;cases r<;>exact this
    | _=>have:=jqC hF hz hL hs a r hr;cases r<;>exact this) hn
 ·simp at h
def lpAt (c:Code) (j:Nat):Code:=((j2n 0 c).getD j (0,.skip)).2
def jcf (E:Env) (c:Code):Nat→List jce→Prop
 | _,[]=>True
 | j,d::ds=>jmV E (lpAt c j) d∧jcf E c (j+1) ds
theorem jcf.get {E:Env} {c:Code}:∀ {ds:List jce} {i j:Nat} {d:jce},jcf E c i ds→ds[j]? = some d→jmV E (lpAt c (i+j)) d
 | [],_,_,_,_,h=>by simp at h
 | x::xs,i,0,d,hs,h=>by simp at h;subst h;exact hs.1
 | x::xs,i,j+1,d,hs,h=>by
  have:=jcf.get (i:=i+1) (j:=j) hs.2 (by simpa using h)
  rwa [show i+(j+1)=i+1+j by omega]
theorem jmW:∀ {ds:List jce} {j:Nat} {d:jce},j9V (ds.map (·.b))=true→ds[j]? = some d→∀ s R k,jjh ds d.b s R k=match jet d.ps d.ts s with | some h=>(loopOpt d.step h).bind fun x=>jpb d.exits x k | none=>none
 | [],_,_,_,h=>by simp at h
 | x::xs,0,d,_,h=>by simp at h;subst h;intro s R k;simp only [jjh,if_true]
 | x::xs,j+1,d,hn,h=>by
  simp only [ku,j9V,ja,kj,kc,k9] at hn
  have hm:d∈xs:=jn (by simpa using h)
  have hne:x.b≠d.b:=fun e=>hn.1 (e▸kv.2 ⟨d,hm,rfl⟩)
  intro s R k
  simp only [jjh,hne,qa]
  exact jmW (j:=j) hn.2 (by simpa using h) s R k
theorem jqD {E:Env} (hF:CFun E.C) (hz:E.nz=false) {c:Code} {ds:List jce} (hE:E.L=jjh ds) (hm:(j2n 0 c).map (·.1)=ds.map (·.b)) (hn:j9V (ds.map (·.b))=true) (hs:jcf E c 0 ds) :
  ∀ x∈j2n 0 c,jkB E x.1 x.2:=by
 intro x hx
 obtain ⟨j,hj⟩:=qh.1 hx
 have hjm:(ds.map (·.b))[j]? = some x.1:=by rw [←hm];simp [hj]
 rw [q9] at hjm
 cases hd:ds[j]? with
 | none=>simp [hd] at hjm
 | some d=>
  simp only [hd,ko,j4] at hjm
  have h1:=jcf.get hs hd
  rw [js] at h1
  have h2:lpAt c j=x.2:=by simp [lpAt,List.getD,hj]
  rw [h2] at h1
  have:=jpc (E:=E) hF hz (hE▸jgY ds) h1 (fun s R k=>by rw [hE];exact jmW hn hd s R k)
  rwa [hjm] at this
inductive VPat where
 | v (t:Ty)
 | own (e:Nat) (t:Ty)
 | box (ts:List Ty)
 | hd
 | vn (t:Ty) (ns:List Nat)
 | clo (f:Nat) (caps:List CPat)
 | so (ls:List (Option Nat×Ty))
 | raw (ns:List Nat) (ps:List IPat)
 deriving DecidableEq
inductive OPat where
 | ref (ts:List Ty)
 | rl (t:Ty)
 deriving DecidableEq
def rlP:RL→(Option Nat×Ty)×TV
 | .d x=>((none,x.t),x)
 | .own e x=>((some e,x.t),x)
def rlsF:List (Option Nat×Ty)→List TV→List RL
 | [],_=>[]
 | (none,_)::ps,xs=> .d (xs.headD tv0)::rlsF ps xs.tail
 | (some e,_)::ps,xs=> .own e (xs.headD tv0)::rlsF ps xs.tail
theorem jpd:∀ (ls:List RL) (r:List TV),rlsF (ls.map fun l=>(rlP l).1) ((ls.map fun l=>(rlP l).2)++r)=ls
 | [],r=>rfl
 | .d x::ls,r=>by
  have:=jpd ls r
  show RL.d _::rlsF _ (_++r)=_
  rw [this];rfl
 | .own e x::ls,r=>by
  have:=jpd ls r
  show RL.own e _::rlsF _ (_++r)=_
  rw [this];rfl
def jqE:List IPat→Nat
 | []=>0
 | c::cs=>c.n+jqE cs
theorem jm1:∀ (cs:Snap) (r:List TV),jlZ (jcc cs).1 ((jcc cs).2++r)=cs∧jqE (jcc cs).1=(jcc cs).2.length
 | [],r=>⟨rfl,rfl⟩
 | c::cs,r=>by
  simp only [jcc,jlZ,jqE,jm,ji]
  have h1:=jsL c ((jcc cs).2++r)
  have h2:=jm1 cs r
  rw [h1.1,h1.2,qn,h2.1,h2.2]
  exact ⟨rfl,rfl⟩
def rvP:RV→VPat×List TV
 | .v x=>(.v x.t,[x])
 | .own e x=>(.own e x.t,[x])
 | .box ls=>(.box (ls.map (·.t)),ls)
 | .hd n=>(.hd,[⟨.int .i64,(n:Int)⟩])
 | .vn x ns=>(.vn x.t ns,[x])
 | .clo f caps=>(.clo f (jes caps).1,(jes caps).2)
 | .so ls=>(.so (ls.map fun l=>(rlP l).1),ls.map fun l=>(rlP l).2)
 | .raw ns s=>(.raw ns (jcc s).1,(jcc s).2)
def VPat.n:VPat→Nat
 | .v _=>1
 | .own _ _=>1
 | .box ts=>ts.length
 | .hd=>1
 | .vn _ _=>1
 | .clo _ cs=>jnN cs
 | .so ls=>ls.length
 | .raw _ ps=>jqE ps
def rvF:VPat→List TV→RV
 | .v _,xs=> .v (xs.headD tv0)
 | .own e _,xs=> .own e (xs.headD tv0)
 | .box ts,xs=> .box (xs.take ts.length)
 | .hd,xs=> .hd (js6 (xs.headD tv0))
 | .vn _ ns,xs=> .vn (xs.headD tv0) ns
 | .clo f cs,xs=> .clo f (jnM cs xs)
 | .so ls,xs=> .so (rlsF ls xs)
 | .raw ns ps,xs=> .raw ns (jlZ ps xs)
theorem jtD (c:RV) (r:List TV):rvF (rvP c).1 ((rvP c).2++r)=c∧(rvP c).1.n=(rvP c).2.length:=by
 cases c with
 | v x=>exact ⟨rfl,rfl⟩
 | own e x=>exact ⟨rfl,rfl⟩
 | hd n=>exact ⟨rfl,rfl⟩
 | vn x ns=>exact ⟨rfl,rfl⟩
 | box ls=>simp [rvP,rvF,VPat.n]
 | clo f cs=>
  have:=jjd cs r
  simp only [rvP,rvF,VPat.n]
  exact ⟨by rw [this.1],this.2⟩
 | so ls=>exact ⟨by simp only [rvP,rvF];rw [jpd],by simp [rvP,VPat.n]⟩
 | raw ns s=>exact ⟨by simp only [rvP,rvF];rw [(jm1 s r).1],(jm1 s r).2⟩
def outP:Out→OPat×List TV
 | .ref ls=>(.ref (ls.map (·.t)),ls)
 | .rl x=>(.rl x.t,[x])
def OPat.n:OPat→Nat
 | .ref ts=>ts.length
 | .rl _=>1
def outF:OPat→List TV→Out
 | .ref ts,xs=> .ref (xs.take ts.length)
 | .rl _,xs=> .rl (xs.headD tv0)
theorem jsO (c:Out) (r:List TV):outF (outP c).1 ((outP c).2++r)=c∧(outP c).1.n=(outP c).2.length:=by
 cases c with
 | rl x=>exact ⟨rfl,rfl⟩
 | ref ls=>simp [outP,outF,OPat.n]
def rvsP:List RV→List VPat×List TV
 | []=>([],[])
 | c::cs=>((rvP c).1::(rvsP cs).1,(rvP c).2++(rvsP cs).2)
def rvsF:List VPat→List TV→List RV
 | [],_=>[]
 | c::cs,xs=>rvF c xs::rvsF cs (xs.drop c.n)
def rvsN:List VPat→Nat
 | []=>0
 | c::cs=>c.n+rvsN cs
theorem jpe:∀ (cs:List RV) (r:List TV),rvsF (rvsP cs).1 ((rvsP cs).2++r)=cs∧rvsN (rvsP cs).1=(rvsP cs).2.length
 | [],r=>⟨rfl,rfl⟩
 | c::cs,r=>by
  simp only [rvsP,rvsF,rvsN,jm,ji]
  have h1:=jtD c ((rvsP cs).2++r)
  have h2:=jpe cs r
  rw [h1.1,h1.2,qn,h2.1,h2.2]
  exact ⟨rfl,rfl⟩
def jkL:List Out→List OPat×List TV
 | []=>([],[])
 | c::cs=>((outP c).1::(jkL cs).1,(outP c).2++(jkL cs).2)
def jqF:List OPat→List TV→List Out
 | [],_=>[]
 | c::cs,xs=>outF c xs::jqF cs (xs.drop c.n)
theorem jpf:∀ (cs:List Out) (r:List TV),jqF (jkL cs).1 ((jkL cs).2++r)=cs
 | [],r=>rfl
 | c::cs,r=>by
  simp only [jkL,jqF,jm]
  have h1:=jsO c ((jkL cs).2++r)
  rw [h1.1,h1.2,qn,jpf cs r]
structure RPat where
 vs:List VPat
 os:List OPat
 deriving DecidableEq
def jpg (rp:RPat) (ts:List Ty) (h:HL ts):Ret:=⟨rvsF rp.vs (ofHL ts h),jqF rp.os ((ofHL ts h).drop (rvsN rp.vs))⟩
def jji (rp:RPat) (ts:List Ty) (r:Ret):Option (HL ts):=
 if (rvsP r.vals).1=rp.vs∧(jkL r.outs).1=rp.os then toHL ts ((rvsP r.vals).2++(jkL r.outs).2) else none
theorem jnO {rp:RPat} {ts:List Ty} {r:Ret} {h:HL ts} (hs:jji rp ts r=some h):r=jpg rp ts h:=by
 unfold jji at hs
 split at hs
 ·rename_i hp
  have:=jjc hs
  unfold jpg
  rw [←this,←hp.1,←hp.2,(jpe r.vals _).1,(jpe r.vals []).2,qn]
  have h2:=jpf r.outs []
  rw [qi] at h2
  rw [h2]
 ·simp at hs
structure Con where
 f:Nat
 ps:List APat
 ts:List Ty
 rp:RPat
 rs:List Ty
 F:HL ts→Option (HL rs)
def Con.C (c:Con) (args:List Arg) (R:Type) (k:Ret→Option R):Option R:=
 match jjf c.ps c.ts args with
 | some h=>(c.F h).bind fun x=>k (jpg c.rp c.rs x)
 | none=>none
def Con.OK (P:Program) (c:Con):Prop:=FnOK P c.f c.C
def conC:List Con→Nat→List Arg→(R:Type)→(Ret→Option R)→Option R
 | [],_,_,_,_=>none
 | c::cs,f,args,R,k=>if c.f=f then (if (jje args).1=c.ps then c.C args R k else conC cs f args R k) else conC cs f args R k
theorem jgZ {P:Program} {f:Nat}:FnOK P f (fun _ _ _=>none):=by
 intro args R k r h;simp at h
def jph (P:Program):List Con→Prop
 | []=>True
 | c::cs=>c.OK P∧jph P cs
theorem jh0 {P:Program}:∀ cs:List Con,jph P cs→j8P P (conC cs)
 | [],_,_=>jgZ
 | c::cs,h,f=>by
  have ih:=jh0 cs h.2 f
  intro args R k r hk
  simp only [conC] at hk
  split at hk
  ·rename_i hf;subst hf
   split at hk
   ·exact h.1 args R k r hk
   ·exact ih args R k r hk
  ·exact ih args R k r hk
theorem jjj:∀ cs:List Con,CFun (conC cs)
 | []=>fun _ _=>⟨none,fun _ _=>rfl⟩
 | c::cs=>fun f args=>by
  have ih:=jjj cs f args
  simp only [conC]
  split
  ·split
   ·unfold Con.C
    split
    ·rename_i h _
     cases hq:c.F h with
     | none=>exact ⟨none,fun _ _=>rfl⟩
     | some x=>exact ⟨some (jpg c.rp c.rs x),fun _ _=>rfl⟩
    ·exact ⟨none,fun _ _=>rfl⟩
   ·exact ih
  ·exact ih
def js7:List (Nat×Keep)→Nat→Keep
 | [],_=>⟨[],[],[],[]⟩
 | x::r,b=>if x.1=b then x.2 else js7 r b
def jpi:List (Nat×Ex×Keep)→Nat→Ex→Keep
 | [],_,_=>⟨[],[],[],[]⟩
 | x::r,b,e=>if x.1=b∧x.2.1=e then x.2.2 else jpi r b e
def jpj:List (Nat×List Bool)→Nat→List Bool
 | [],_=>[]
 | x::r,b=>if x.1=b then x.2 else jpj r b
def dwL:List (Nat×List (List Nat))→Nat→List (List Nat)
 | [],_=>[]
 | x::r,b=>if x.1=b then x.2 else dwL r b
def bwL:List (Nat×(Bool×Ty))→Nat→Option (Bool×Ty)
 | [],_=>none
 | x::r,f=>if x.1=f then some x.2 else bwL r f
def jqG (P:Program):List (Nat×(Bool×Ty))→Prop
 | []=>True
 | x::r=>ItOK P x.1 x.2.1 x.2.2∧jqG P r
theorem jrb {P:Program}:∀ {l:List (Nat×(Bool×Ty))},jqG P l→∀ f t,bwL l f=some t→ItOK P f t.1 t.2
 | [],_,f,t,h=>by simp [bwL] at h
 | x::r,hl,f,t,h=>by
  simp only [bwL] at h
  split at h
  ·rename_i e
   simp only [j4] at h
   rw [←e,←h]
   exact hl.1
  ·exact jrb hl.2 f t h
structure FnD where
 N:Nat
 np:Nat
 cs:List Con
 ds:List jce
 modes:List (Nat×List Bool):=[]
 keep:List (Nat×Keep):=[]
 keepX:List (Nat×Ex×Keep):=[]
 ro:List Bool:=[]
 dw:List (Nat×List (List Nat)):=[]
 hd:Bool:=false
 ns:List Nat:=[]
 bw:List (Nat×(Bool×Ty)):=[]
 so:List SoK:=[]
 cr:List Nat:=[]
 un:List Nat:=[]
 pre:List (Nat×List Gh):=[]
 rw:Bool:=false
 rn:List Nat:=[]
 b1:List Nat:=[]
def preL:List (Nat×List Gh)→Nat→List Gh
 | [],_=>[]
 | x::r,i=>if x.1=i then x.2 else preL r i
def FnD.env (d:FnD) (T:List (Option TyI)):Env:=⟨⟨d.N,fun _=>false⟩,d.np,tab T,conC d.cs,jpj d.modes,jjh d.ds,js7 d.keep,jpi d.keepX,d.ro,dwL d.dw,false,d.hd,d.ns,bwL d.bw,d.so,d.cr,fun b=>d.un.contains b,preL d.pre,d.rw,d.rn,d.b1⟩
theorem jsP {P:Program} {T:List (Option TyI)} (hT:j22 P (tab T)) (hmix:P.follows .mixedOrders=true) (d:FnD) (con:Con) (fn:Func) (c:Code) (hf:P.funcs[con.f]? = some fn) (hb:fn.body=some c)
  (hN : fn.ntmps = d.N) (hnp : d.np ≤ d.N) (hnm : (fn.name == "runtime.NumGoroutine") = false) (hcs : jph P d.cs) (hm : (j2n 0 c).map (·.1) = d.ds.map (·.b)) (hn : j9V (d.ds.map (·.b)) = true)
  (hs:jcf (d.env T) c 0 d.ds) (hF:∀ h,jej (d.env T) fn (jhN con.ps con.ts h) (jji con.rp con.rs)=con.F h) (hbw:jqG P d.bw:=by trivial):con.OK P:=by
 have hC:j8P P (d.env T).C:=jh0 d.cs hcs
 have hfun:CFun (d.env T).C:=jjj d.cs
 have hL:LFun (d.env T).L:=jgY d.ds
 have hfn:=jmT (E:=d.env T) hT hC hfun hmix hf hb hN rfl (jrb hbw) hnp hnm (jqD hfun rfl rfl hm hn hs)
 intro args R k r hk
 unfold Con.C at hk
 split at hk
 ·rename_i h hu
  rw [jiE hu]
  cases hq:con.F h with
  | none=>simp [hq] at hk
  | some x=>
   rw [hq,j3] at hk
   refine hfn _ R k r ?_
   obtain ⟨o,ho⟩:=jnL hfun rfl hL fn (jhN con.ps con.ts h)
   have h1:some x=_:=((hF h).trans hq).symm.trans (ho _ _)
   cases o with
   | none=>simp at h1
   | some ret=>
    rw [j3] at h1
    show jej (d.env T) fn (jhN con.ps con.ts h) k=some r
    refine (ho _ _).trans ?_
    rw [j3,jnO h1.symm]
    exact hk
 ·simp at hk
theorem cOf {P:Program} {T:List (Option TyI)} (hT:j22 P (tab T)) (hmix:P.follows .mixedOrders=true) (d:FnD) (con:Con) {fn:Func} (hf:P.funcs[con.f]? = some fn) (hcs:jph P d.cs)
  (hs:jcf (d.env T) (fn.body.getD .skip) 0 d.ds) (hbw:jqG P d.bw:=by trivial) (hb:fn.body=some (fn.body.getD .skip):=by kernel_rfl) (hN:fn.ntmps=d.N:=by kernel_rfl)
  (hnp : Nat.ble d.np d.N = true := by kernel_rfl) (hnm : (fn.name == "runtime.NumGoroutine") = false := by kernel_rfl) (hm : (j2n 0 (fn.body.getD .skip)).map (·.1) = d.ds.map (·.b) := by kernel_rfl)
  (hn:j9V (d.ds.map (·.b))=true:=by kernel_rfl) (hF:∀ h,jej (d.env T) fn (jhN con.ps con.ts h) (jji con.rp con.rs)=con.F h:=by intro h;kernel_rfl):con.OK P:=
 jsP hT hmix d con fn _ hf hb hN (k5 hnp) hnm hcs hm hn hs hF hbw
def jh1 {α β:Type} (B:(α→Option β)→α→Option β):Nat→α→Option β
 | 0,_=>none
 | n+1,a=>B (jh1 B n) a
open Classical in
def jmX {α β:Type} (B:(α→Option β)→α→Option β) (a:α):Option β:=
 if h:∃ x n,jh1 B n a=some x then some h.choose else none
theorem jpk {α β:Type} {B:(α→Option β)→α→Option β} {a:α} {x:β} (h1:∃ n,jh1 B n a=some x) (h2:∀ n y,jh1 B n a=some y→y=x):jmX B a=some x:=by
 obtain ⟨n,hn⟩:=h1
 have hx:∃ x n,jh1 B n a=some x:=⟨x,n,hn⟩
 unfold jmX
 rw [dif_pos hx]
 obtain ⟨m,hm⟩:=hx.choose_spec
 rw [h2 m _ hm]
def FnD.envN (d:FnD) (T:List (Option TyI)):Env:=⟨⟨d.N,fun _=>false⟩,d.np,tab T,conC d.cs,jpj d.modes,jjh d.ds,js7 d.keep,jpi d.keepX,d.ro,dwL d.dw,true,d.hd,d.ns,fun _=>none,d.so,d.cr,fun _=>false,fun _=>[],false,[],[]⟩
theorem jpl {α R:Type} (xs:List α) (K:List α→Option R) {r:R} (h:(cond (decide (([]:List α).length+xs.length≤j0m)) (some (([]:List α)++xs)) none).bind K=some r) :
  jgn (List.isEmpty xs) (K []) (cond (decide (([]:List α).length+xs.length≤j0m)) (K (([]:List α)++xs)) none)=some r:=by
 cases hd:decide (([]:List α).length+xs.length≤j0m) with
 | false=>rw [hd] at h;simp at h
 | true=>
  rw [hd] at h
  simp only [j5,j3] at h ⊢
  cases xs with
  | nil=>simp only [qi] at h ⊢;rw [jlv];exact h
  | cons x r=>exact h
theorem j6U {P:Program} {T:List (Option TyI)} (hT:j22 P (tab T)) (hmix:P.follows .mixedOrders=true) (d:FnD) (f:Nat) (a:Ty) (e:Nat) (fn:Func) (c:Code) (hf:P.funcs[f]? = some fn) (hb:fn.body=some c)
  (hN : fn.ntmps = d.N) (hnp : d.np ≤ d.N) (hnm : (fn.name == "runtime.NumGoroutine") = false) (hcs : jph P d.cs) (hl : j2n 0 c = [])
  (hF:∀ (h:List a.den) (R:Type) (k:Ret→Option R),jej (d.envN T) fn [.v ⟨.list a,h⟩] k=jgn (List.isEmpty h) (k ⟨[.own e ⟨.list a,([]:List a.den)⟩],[]⟩)
   (cond (decide (([]:List a.den).length+List.length h≤j0m)) (k ⟨[.own e ⟨.list a,([]:List a.den)++h⟩],[]⟩) none)) :
  Con.OK P ⟨f,[.v (.list a)],[.list a],⟨[.own e (.list a)],[]⟩,[.list a],fun h=>cond (decide (([]:List a.den).length+List.length h≤j0m)) (some (([]:List a.den)++h)) none⟩:=by
 have hC:j8P P (d.envN T).C:=jh0 d.cs hcs
 have hfun:CFun (d.envN T).C:=jjj d.cs
 have hfn:=jmT (E:=d.envN T) hT hC hfun hmix hf hb hN rfl (fun f t h=>by simp [FnD.envN] at h) hnp hnm (by rw [hl];simp)
 intro args R k r hk
 unfold Con.C at hk
 split at hk
 ·rename_i h hu
  rw [jiE hu]
  refine hfn _ R k r ?_
  refine (hF h R k).trans ?_
  exact jpl (α:=a.den) h (fun x=>k ⟨[.own e ⟨.list a,x⟩],[]⟩) hk
 ·simp at hk
def w64 (x:Int):Int:=IntKind.wrap .i64 x
class LP where
 lp:{α β:Type}→(α→Option (α ⊕ β))→α→Option β
 rp:{α β:Type}→((α→Option β)→α→Option β)→α→Option β
noncomputable instance realLP:LP:=⟨loopOpt,jmX⟩
abbrev j0B (N:Nat):LP:=⟨fun f a=>loopN f N a,fun B a=>jh1 B N a⟩
theorem j02 {x:Int} (h1 : -9223372036854775808≤x) (h2:x≤9223372036854775807):w64 x=x:=IntWalk.i64_in x ⟨h1,h2⟩
def lpK {α β:Type} (r:Option (α ⊕ β)) (f:α→Option β):Option β:=match r with
 | none=>none
 | some (.inl s)=>f s
 | some (.inr x)=>some x
theorem j0b {α β:Type} (s:α) (f:α→Option β):lpK (some (.inl s)) f=f s:=rfl
theorem j0j {α β:Type} (x:β) (f:α→Option β):lpK (some (.inr x)) f=some x:=rfl
theorem jqH {α β γ:Type} (x:α) (f:α→γ) (g:β→γ):sumC (.inl x) f g=f x:=rfl
theorem j3x {α β γ:Type} (x:β) (f:α→γ) (g:β→γ):sumC (.inr x) f g=g x:=rfl
theorem j06 {α β:Type} (f:α→Option (α ⊕ β)) (s:α):loopOpt f s=lpK (f s) (loopOpt f):=by
 cases h:f s with
 | none=>
  cases hq:loopOpt f s with
  | none=>rfl
  | some x=>
   obtain ⟨n,hn⟩:=jaF hq
   cases n<;>simp [loopN,h] at hn
 | some r=>
  cases r with
  | inl s'=>exact jkJ h
  | inr x=>exact jm0 h
section
variable {S0:j0c} {w0:World} {refs:Refs}
theorem jm2 {P:Program} {E:Env} (hT:j22 P E.T) (hC:j8P P E.C) {ops:Array Oper} {R:Type} {k:St→Option R} {r:R} {Q:Exit→Go.Act→World→Prop} {n:Nat} {rest:List Nat}
  (hn:∀ σ' a' w' S' γ',Rel E.N E.np S0 w0 refs σ' a' w' S' γ'→j3z σ'→k σ'=some r→wpOpsIn (FR none) n P ops Q rest a' w') :
  ∀ (l:List Oper) (i:Nat) {σ:St} {a:Go.Act} {w:World} {S:j0c} {γ:Nat→Value},(∀ j o,l[j]? = some o→ops[i+j]? = some o∧o.guard=none)→Rel E.N E.np S0 w0 refs σ a w S γ→j3z σ→j8q E l σ k=some r→
   wpOpsIn (FR none) n P ops Q (List.range' i l.length++rest) a w
 | [],i,σ,a,w,S,γ,hl,hR,hc,h=>hn _ _ _ _ _ hR hc h
 | o::l,i,σ,a,w,S,γ,hl,hR,hc,h=>by
  simp only [j8q] at h
  split at h
  ·rename_i hd
   obtain ⟨ho,hg⟩:=hl 0 o rfl
   have hw:Region.wanted o (yielded ops a.tmps)=true:=by simp [Region.wanted,hg]
   simp only [jy,List.range'_succ,List.cons_append,wpOpsIn,show ops[i]? = some o from ho,hw,if_true]
   refine jj4 (.inl rfl) (fun _ _ h=>h) (jcH hT hC hR (act:=[]) (fun g hg=>by simp at hg) (p:=false) (fun _=>hc) hd h (fun σ' a' w' S' γ' hR' hc' hk=> ?_))
   exact jm2 hT hC hn l (i+1) (fun j o' hj=>by rw [show i+1+j=i+(j+1) by omega];exact hl (j+1) o' (by simpa using hj)) hR' (hc' rfl) hk
  ·simp at h
theorem jcg {N:NT} {np:Nat} {fx:Nat→Option Value} {σ:St} {a:Go.Act} {W:World} {S:j0c} (hsz:a.tmps.size=N.n) (hd:a.defers=[]) (hfree:∀ k,σ.bx k = .free) (hS:∀ g o,S g o→g<W.heap.size)
  (hslot:∀ i,j3e S W (fun _=>undef) σ.bx (tm a) (σ.sl i) (tm a i)) (hfix:∀ i v,fx i=some v→N.pin i=true∧tm a i=v):Rel N np S W { blks:=[],val:=fun _=>none,fix:=fx } σ a W S (fun _=>undef):=
 ⟨hsz,hd,hslot,fun k b h=>by rw [hfree] at h;simp at h,fun k b g h=>by rw [hfree] at h;simp at h,fun k k' b b' g _ h=>by rw [hfree] at h;simp at h,fun _ _ h=>h,fun _ _ h=> .inl h,hS,fun _ _ _=>rfl,ju _,rfl,rfl,rfl,
  fun k v h=>by simp at h,fun g o h=>by simp at h,hfix⟩
theorem ja0 {N:NT} {np:Nat} {fx:Nat→Option Value} {σ:St} {a:Go.Act} {w:World} {S:j0c} {γ:Nat→Value} (hR:Rel N np S0 w0 { blks:=[],val:=fun _=>none,fix:=fx } σ a w S γ):Grew w0 w:=
 ⟨fun g hg=>hR.below g hg (fun h=>by have h:g∈([]:List Nat):=h;simp at h),hR.grow,hR.os,hR.tape,hR.output⟩
theorem jkM {P:Program} {a:Go.Act} {w:World} {o:Oper} {cl:Call} (ho:o.op = .call cl) {x:Operand} (hc:cl.callee = .value x) {l:Nat} (hx:a.eval x = .func (.yield l) #[] #[]) {nx:Next} {w':World}
  (hy:(Instr.yield l (cl.args.map a.eval)).run P w = .ok nx w'):(execOp a.eval o).run P w = .ok nx w':=by
 simp [execOp,ho,resolve,hc,Deferred.ofValue,hx,invoke,hy]
end
section
variable {S0:j0c} {w0:World} {refs:Refs}
def bwE (T:Nat→Option TyI):Env:=
 { N:=⟨19,fun i=>i==0||(i==1||i==11)⟩,np:=0,T:=T,C:=fun _ _ _ _=>none,modes:=fun _=>[],L:=fun _ _ _ _=>none,keep:=fun _=>⟨[],[],[],[]⟩,keepX:=fun _ _=>⟨[],[],[],[]⟩,ro:=[] }
def slF (l:List (Nat×Cel)):St:={ sl:=fun j=>match l.find? (fun x=>x.1==j) with | some x=> .one x.2 | none=> .one (.one .dead),bx:=fun _=> .free }
def g3 (σ:St):Option Int:=match σ.sl 3 with
 | .one (.one (.d (.int .i64) v))=>some v
 | _=>none
def g1 (σ:St):Option (Bool×Int):=match σ.sl 8,σ.sl 3 with
 | .one (.one (.d .bool b)),.one (.one (.d (.int .i64) v))=>some (b,v)
 | _,_=>none
def g18 (σ:St):Option (Bool×Int):=match σ.sl 18,σ.sl 3 with
 | .one (.one (.d .bool b)),.one (.one (.d (.int .i64) v))=>some (b,v)
 | _,_=>none
def g16 (t:Ty) (σ:St):Option (Int×t.den×Int):=match σ.sl 12,σ.sl 16,σ.sl 3 with
 | .one (.one (.d (.int .i64) u)),.one c,.one (.one (.d (.int .i64) v))=>match jbB (fun _=> .gone) t c with
  | some (x,[])=>some (u,x,v)
  | _=>none
 | _,_,_=>none
def lstP (t:Ty) (xs:List t.den):Cel:= .one (.ip [⟨.list t,xs⟩])
def intP (i:Int):Cel:= .one (.d (.int .i64) i)
theorem jh2 (l:List (Nat×Cel)):j3z (slF l):=fun i=>by
 simp only [slF]
 split<;>rfl
theorem jqI {np:Nat} {σ:St}:RdF np σ (fun _=> .gone):=⟨fun _=> .inr rfl,fun k e a xs f h=>by simp at h⟩
theorem jeu {S:j0c} {W:World} {γ:Nat→Value} {l:List (Nat×Cel)} {tmf:Nat→Value} (h:∀ x∈l,j0o S W γ (fun _=> .free) x.2 (tmf x.1)) (i:Nat):j3e S W γ (fun _=> .free) tmf ((slF l).sl i) (tmf i):=by
 simp only [slF]
 split
 ·rename_i x hx
  have:=h x (List.mem_of_find?_eq_some hx)
  have e:=List.find?_some hx
  simp only [qf] at e
  rw [←e];exact this
 ·exact ⟨trivial,fun h=>absurd rfl h⟩
theorem jpm {P:Program} {T:Nat→Option TyI} (hT:j22 P T) {rid n:Nat} {A:Array Oper} {σ:St} {fx:Nat→Option Value} {a:Go.Act} {w:World} {S:j0c} {γ:Nat→Value} {R:Type} {k:St→Option R} {r:R}
  (hR:Rel (bwE T).N (bwE T).np S0 w0 { blks:=[],val:=fun _=>none,fix:=fx } σ a w S γ) (hc:j3z σ) (h:j8r (bwE T) A σ k=some r) :
  (Code.region rid A false).wpIn (FR none) n P (fun e a' w'=>e = .normal∧∃ σ' S' γ',Rel (bwE T).N (bwE T).np S0 w0 { blks:=[],val:=fun _=>none,fix:=fx } σ' a' w' S' γ'∧k σ'=some r) a w:=
 wpIn_region (jkA (.inl rfl) (by rintro ⟨a,w,h,_⟩;cases h) _ _ _ (jkt hT (fun f=>jgZ) hR hc (fun σ' a' w' S' γ' hR' _ hk=>⟨rfl,σ',S',γ',hR',hk⟩) h))
theorem jsQ {σ:St} {v:Int} (h:g3 σ=some v):σ.sl 3 = .one (.one (.d (.int .i64) v)):=by
 unfold g3 at h
 split at h
 ·rename_i u hu;simp only [j4] at h;subst h;exact hu
 ·simp at h
theorem jtE {σ:St} {b:Bool} {v:Int} (h:g1 σ=some (b,v)):σ.sl 8 = .one (.one (.d .bool b))∧σ.sl 3 = .one (.one (.d (.int .i64) v)):=by
 unfold g1 at h
 split at h
 ·rename_i hb hu;simp only [j4,j8] at h;obtain ⟨rfl,rfl⟩:=h;exact ⟨hb,hu⟩
 ·simp at h
theorem jsR {σ:St} {b:Bool} {v:Int} (h:g18 σ=some (b,v)):σ.sl 18 = .one (.one (.d .bool b))∧σ.sl 3 = .one (.one (.d (.int .i64) v)):=by
 unfold g18 at h
 split at h
 ·rename_i hb hu;simp only [j4,j8] at h;obtain ⟨rfl,rfl⟩:=h;exact ⟨hb,hu⟩
 ·simp at h
theorem jsS {t:Ty} {σ:St} {i:Int} {x:t.den} {v:Int} (h:g16 t σ=some (i,x,v)):σ.sl 12 = .one (.one (.d (.int .i64) i))∧σ.sl 3 = .one (.one (.d (.int .i64) v))∧∃ c,σ.sl 16 = .one c∧jbB (fun _=> .gone) t c=some (x,[]):=by
 unfold g16 at h
 split at h
 ·rename_i c _ h12 h16 h3
  split at h
  ·rename_i hx;simp only [j4,j8] at h;obtain ⟨rfl,rfl,rfl⟩:=h;exact ⟨h12,h3,c,h16,hx⟩
  ·simp at h
 ·simp at h
theorem jcK {N:NT} {np:Nat} {σ:St} {a:Go.Act} {w:World} {S:j0c} {γ:Nat→Value} (hR:Rel N np S0 w0 refs σ a w S γ) {s:Nat} {v:Int} (h:σ.sl s = .one (.one (.d (.int .i64) v))):tm a s = .int .i64 v:=by
 have:=hR.slot s
 rw [h] at this
 have h1:[a.tmps.getD s undef]=[Value.int .i64 v]:=this.1
 simpa [tm] using h1
theorem jkN {N:NT} {np:Nat} {σ:St} {a:Go.Act} {w:World} {S:j0c} {γ:Nat→Value} (hR:Rel N np S0 w0 refs σ a w S γ) {s:Nat} {v:Bool} (h:σ.sl s = .one (.one (.d .bool v))):tm a s = .bool v:=by
 have:=hR.slot s
 rw [h] at this
 have h1:[a.tmps.getD s undef]=[Value.bool v]:=this.1
 simpa [tm] using h1
theorem jtF {P:Program} {T:Nat→Option TyI} (hT:j22 P T) {f:Nat} {t:Ty} {fn:Func} (hf:P.funcs[f]? = some fn) {r0 b0 r1 b1 r3 r2:Nat} {A0 A1 A2:Array Oper} {o0 o6 o7:Oper} {l3:List Oper} {cl:Call}
  (hb:fn.body=some ((Code.region r0 A0 false).seq (Code.block b0 ((((Code.region r1 A1 false).seq (Code.cond (.tmp 8) .skip (.exit b0))).seq ((Code.block b1 ((Code.region r3 (o0::(l3++[o6,o7])).toArray false).seq (Code.cond (.tmp 18) .ret .skip))).seq (Code.region r2 A2 false))).loop))))
  (hnt : fn.ntmps = 19) (hres : fn.results = #[]) (hnm : (fn.name == "runtime.NumGoroutine") = false) (hl3 : l3.length = 5) (hbare : (o0 :: (l3 ++ [o6, o7])).all (fun o => o.guard.isNone) = true)
  (h0op:o0.op = .move (.tmp 0)) (h0d:o0.dst=some 11) (h6op:o6.op = .call cl) (h6c:cl.callee = .value (.tmp 11)) (h6a:cl.args = #[.tmp 12,.tmp 16]) (h6d:o6.dst=some 17)
  (e0:∀ xs:List t.den,j8r (bwE T) A0 (slF [(1,lstP t xs)]) g3=some (w64 (Int.ofNat (List.length xs)-1)))
  (e1:∀ i:Int,j8r (bwE T) A1 (slF [(3,intP i)]) g1=some (decide (i≥0),i))
  (e2:∀ i:Int,j8r (bwE T) A2 (slF [(3,intP i)]) g3=some (w64 (i-1)))
  (e3:∀ (xs:List t.den) (i:Int),j8q (bwE T) l3 (slF [(1,lstP t xs),(3,intP i)]) (g16 t)=cond (inR i (List.length xs)) (some (i,List.getD xs (Int.toNat i) t.dflt,i)) none)
  (e7:∀ (b:Bool) (i:Int),j8q (bwE T) [o7] (slF [(17,.one (.d .bool b)),(3,intP i)]) g18=some (!b,i)):BwOK P f t:=by
 refine ⟨⟨fn,hf,by rw [hb];rfl,hnm⟩,?_⟩
 intro cv m l J Jx W S hst hstx hhere hY hstart hJ0
 have hC:j8P P (bwE T).C:=fun f=>jgZ
 obtain ⟨S0,xs0,hm,hS0,hcap0⟩:=hstart
 obtain ⟨z0,hz0⟩:∃ z0,cv = #[z0]:=by
  have:=hcap0.length
  obtain ⟨cl⟩:=cv
  match cl,this with
  | [z],_=>exact ⟨z,rfl⟩
 subst hz0
 refine callsIn_of_wp hf hb trivial ?_
 rw [hnt]
 obtain ⟨yv,hyv⟩:∃ yv,yv=Value.func (.yield l) #[] #[]:=⟨_,rfl⟩
 obtain ⟨R,hR⟩:∃ R:Ending→World→Prop,R=fun e W'=>(∃ v,e = .returned v)∧((∃ S',J m S' W')∨Jx W'):=⟨_,rfl⟩
 rw [←hyv,←hR]
 let fx:Nat→Option Value:=fun i=>if i=0 then some yv else if i=1 then some z0 else none
 let Fr:Go.Act→Prop:=fun a=>a.tmps.size=19∧a.defers=[]∧tm a 0=yv∧tm a 1=z0
 let Inv:Go.Act→World→Prop:=fun a W=>Fr a∧∃ j S,j≤m∧J j S W∧tm a 3 = .int .i64 ((m:Int)-1-j)
 let μ:Go.Act→World→Nat:=fun a W=>match tm a 3 with
  | .int _ v=>(v+1).toNat
  | _=>0
 have hfin:∀ {a:Go.Act} {W':World},a.defers=[]→((∃ S',J m S' W')∨Jx W')→a.defers=[]∧∃ v,(results fn a.tmps).run P W' = .ok v W'∧R (.returned v) W':=by
  intro a W' hd h
  exact ⟨hd,_,results_none hres _ _ _,by rw [hR];exact ⟨⟨_,rfl⟩,h⟩⟩
 have hfr:∀ {σ:St} {a:Go.Act} {w w0:World} {S S0:j0c} {γ:Nat→Value},Rel (bwE T).N (bwE T).np S0 w0 { blks:=[],val:=fun _=>none,fix:=fx } σ a w S γ→Fr a:=fun hR=>
  ⟨hR.size,hR.defers,(hR.fix 0 yv rfl).2,(hR.fix 1 z0 rfl).2⟩
 have hfixI:∀ {a:Go.Act},Fr a→∀ i v,fx i=some v→(bwE T).N.pin i=true∧tm a i=v:=by
  intro a ha i v hv
  simp only [fx] at hv
  split at hv
  ·rename_i e;subst e
   simp only [j4] at hv;subst hv
   exact ⟨rfl,ha.2.2.1⟩
  ·split at hv
   ·rename_i _ e;subst e
    simp only [j4] at hv;subst hv
    exact ⟨rfl,ha.2.2.2⟩
   ·simp at hv
 have same:∀ {j:Nat} {S:j0c} {W W':World},J j S W→Grew W W'→jnH S W S W':=fun hJ hg=>⟨fun _ _ h=>h,fun _ _ h=> .inl h,fun g o h=>kq (hhere _ _ _ hJ g o h) hg.size⟩
 have hmlt:m≤9223372036854775807:=by
  obtain ⟨g,o,cs,_,hall,_⟩:=hcap0.1
  match cs,hall with
  | [z],hall=>
   obtain ⟨ad,cap,_,h1,h2,_⟩:=hall.1
   simp only [maxLen] at h2
   have h1:List.length xs0≤cap:=h1
   omega
 obtain ⟨a0,ha0⟩:∃ a0:Go.Act,a0={ tmps:=#[yv] ++ #[z0]++Array.replicate (19-(#[yv] ++ #[z0]).size) undef,defers:=[] }:=⟨_,rfl⟩
 rw [←ha0]
 have hFr0:Fr a0:=by
  subst ha0
  refine ⟨?_,rfl,?_,?_⟩
  ·simp
  ·simp [tm]
  ·simp [tm]
 have hstart:Rel (bwE T).N (bwE T).np S0 W { blks:=[],val:=fun _=>none,fix:=fx } (slF [(1,lstP t xs0)]) a0 W S0 (fun _=>undef):=
  jcg hFr0.1 hFr0.2.1 (fun _=>rfl) hS0 (jeu (fun x hx=>by
   simp only [jx] at hx
   subst hx
   rw [hFr0.2.2.2]
   exact ⟨hcap0.1,fun _=>by obtain ⟨g,o,cs,hu,_⟩:=hcap0.1;rw [hu];rfl⟩)) (hfixI hFr0)
 refine wpIn_seq (wpIn_mono (jpm hT hstart (jh2 _) (e0 xs0)) ?_)
 rintro e a W1 ⟨rfl,σ1,S1,γ1,hR1,hk1⟩
 show (Code.block b0 _).wpIn _ _ _ _ _ _
 have h3:=jcK hR1 (jsQ hk1)
 refine wpIn_block (wpIn_loop Inv μ ⟨hfr hR1,0,S,k7 _,hst _ _ _ _ _ (ja0 hR1) (same hJ0 (ja0 hR1)) hJ0,?_⟩ ?_)
 ·rw [h3,hm,j02 (by simp;omega) (by simp;omega)];simp
 ·rintro a W ⟨hFr,j,S,hjm,hJ,h3⟩
  have hint:∀ {a:Go.Act} {W:World} {S:j0c} {v:Int},tm a 3 = .int .i64 v→j0o S W (fun _=>undef) (fun _=> .free) (intP v) (tm a 3):=fun h=>by rw [h];exact ⟨rfl,fun _=>rfl⟩
  have hRs:Rel (bwE T).N (bwE T).np S W { blks:=[],val:=fun _=>none,fix:=fx } (slF [(3,intP ((m:Int)-1-j))]) a W S (fun _=>undef):=
   jcg hFr.1 hFr.2.1 (fun _=>rfl) (hhere _ _ _ hJ) (jeu (fun x hx=>by
    simp only [jx] at hx
    subst hx
    exact hint h3)) (hfixI hFr)
  refine wpIn_seq (wpIn_seq (wpIn_mono (jpm hT hRs (jh2 _) (e1 _)) ?_))
  rintro e a1 W1 ⟨rfl,σ1,S1,γ1,hR1,hk1⟩
  obtain ⟨h8,h31⟩:=jtE hk1
  have h31:=jcK hR1 h31
  have h8:a1.eval (.tmp 8) = .bool (decide ((m:Int)-1-j≥0)):=jkN hR1 h8
  have hJ1:=hst _ _ _ _ _ (ja0 hR1) (same hJ (ja0 hR1)) hJ
  have hFr1:=hfr hR1
  show (Code.cond _ _ _).wpIn _ _ _ _ _ _
  by_cases hpos:(m:Int)-1-j≥0
  case neg=>
   rw [decide_eq_false hpos] at h8
   refine wpIn_cond_false h8 (wpIn_exit ?_)
   show Exit.inBlock b0 (bodyPost P fn R) (.exit b0) a1 W1
   simp only [Exit.inBlock,if_true]
   have hj:j=m:=by omega
   subst hj
   exact hfin hFr1.2.1 (.inl ⟨S,hJ1⟩)
  case pos=>
  rw [zf hpos] at h8
  refine wpIn_cond_true h8 (wpIn_skip ?_)
  show (Code.seq _ _).wpIn _ _ _ _ _ _
  have hjlt:j<m:=by omega
  obtain ⟨xs,hcap,hlen,hyl⟩:=hY j S W1 hjlt hJ1
  refine wpIn_seq (wpIn_block (wpIn_seq (wpIn_region ?_)))
  obtain ⟨ops,hops⟩:∃ ops,ops=(o0::(l3++[o6,o7])).toArray:=⟨_,rfl⟩
  rw [←hops]
  have hat:∀ k,ops[k]? = (o0::(l3++[o6,o7]))[k]? := fun k=>by rw [hops];exact List.getElem?_toArray
  have hgd:∀ o∈o0::(l3++[o6,o7]),o.guard=none:=fun o ho=>by have:=jj.1 hbare o ho;simpa using this
  have hsz:ops.size=8:=by rw [hops];simp [hl3]
  have hw:∀ (o:Oper) (a:Go.Act),o∈o0::(l3++[o6,o7])→Region.wanted o (yielded ops a.tmps)=true:=fun o a ho=>by simp [Region.wanted,hgd o ho]
  rw [hsz,show List.range 8=0::(List.range' 1 l3.length++[6,7]) by rw [hl3];rfl]
  have hop0:ops[0]? = some o0:=by rw [hat];rfl
  simp only [wpOpsIn,hop0,hw o0 _ (List.mem_cons_self ..),if_true]
  refine jj4 (.inl rfl) (fun _ _ h=>h) ?_
  unfold Oper.wp
  rw [show (execOp a1.eval o0).run P W1 = .ok (.value (a1.eval (.tmp 0))) W1 by simp [execOp,h0op,go_sem],Oper.upon_value,h0d]
  have he0:a1.eval (.tmp 0)=yv:=hFr1.2.2.1
  rw [he0]
  have hlt11:11<a1.tmps.size:=by rw [hFr1.1];omega
  obtain ⟨a2,ha2⟩:∃ a2,a2=a1.put (some 11) yv:=⟨_,rfl⟩
  rw [←ha2]
  have htm2:∀ i,tm a2 i=if i=11 then yv else tm a1 i:=fun i=>by rw [ha2];exact jkp hlt11 yv i
  have hFr2:Fr a2:=⟨by rw [ha2,jiW];exact hFr1.1,by rw [ha2,jfb];exact hFr1.2.1,by rw [htm2];exact hFr1.2.2.1,by rw [htm2];exact hFr1.2.2.2⟩
  let fx2:Nat→Option Value:=fun i=>if i=11 then some yv else fx i
  have hR2:Rel (bwE T).N (bwE T).np S W1 { blks:=[],val:=fun _=>none,fix:=fx2 } (slF [(1,lstP t xs),(3,intP ((m:Int)-1-j))]) a2 W1 S (fun _=>undef):=
   jcg hFr2.1 hFr2.2.1 (fun _=>rfl) (hhere _ _ _ hJ1) (jeu (fun x hx=>by
    simp only [je,qo,or_false] at hx
    rcases hx with rfl | rfl
    ·rw [hFr2.2.2.2]
     exact ⟨hcap.1,fun _=>by obtain ⟨g,o,cs,hu,_⟩:=hcap.1;rw [hu];rfl⟩
    ·exact hint (by rw [htm2];exact h31))) (fun i v hv=>by
     simp only [fx2] at hv
     split at hv
     ·rename_i e;subst e
      simp only [j4] at hv;subst hv
      exact ⟨rfl,by rw [htm2,if_pos rfl]⟩
     ·exact hfixI hFr2 i v hv)
  have hx:∃ x,xs[m-1-j]? = some x∧List.getD xs (Int.toNat ((m:Int)-1-j)) t.dflt=x:=by
   refine ⟨xs[m-1-j]'hlen,jo hlen,?_⟩
   rw [show Int.toNat ((m:Int)-1-j)=m-1-j by omega]
   simp [List.getD,hlen]
  obtain ⟨x,hx,hxd⟩:=hx
  have he3:=e3 xs ((m:Int)-1-j)
  rw [hxd,show inR ((m:Int)-1-j) (List.length xs)=true by
   unfold inR
   rw [zf (show (0:Int)≤(m:Int)-1-j by omega),zf (show (m:Int)-1-j<(List.length xs:Int) by omega)];rfl,j5] at he3
  refine jm2 hT hC ?_ l3 1 (fun k o hk=>⟨?_,?_⟩) hR2 (jh2 _) he3
  rotate_left
  ·rw [hat,Nat.add_comm,List.getElem?_cons_succ,List.getElem?_append_left (jh.1 hk).1];exact hk
  ·exact hgd o (List.mem_cons_of_mem _ (ql _ (jn hk)))
  intro σ3 a3 W3 S3 γ3 hR3 _ hk3
  obtain ⟨h12,h33,c,h16,hd16⟩:=jsS hk3
  have h12:=jcK hR3 h12
  have h33:=jcK hR3 h33
  have hv16:VRep S3 W3 ⟨t,x⟩ (tm a3 16):=by
   have:=hR3.slot 16
   rw [h16] at this
   exact (jaz (np:=(bwE T).np) jqI hR3.box hd16 this).2.1 S3 W3 (.refl _ _) (fun y hy=>by simp at hy)
  have hg3:=ja0 hR3
  have h11:tm a3 11=yv:=(hR3.fix 11 yv rfl).2
  have hFr3:Fr a3:=⟨hR3.size,hR3.defers,(hR3.fix 0 yv rfl).2,(hR3.fix 1 z0 rfl).2⟩
  obtain ⟨fn6,tmps6,as6,bo6,hy6,hround⟩:=hyl S3 W3 x _ hg3 ⟨hR3.ext,hR3.new,hR3.here⟩ hx hv16
  have hop6:ops[6]? = some o6:=by rw [hat,List.getElem?_cons_succ,jt (by omega),hl3];rfl
  have hop7:ops[7]? = some o7:=by rw [hat,List.getElem?_cons_succ,jt (by omega),hl3];rfl
  simp only [wpOpsIn,hop6,hw o6 _ (by simp),if_true]
  refine ⟨fun _ _=>trivial,?_⟩
  have hrun:(execOp a3.eval o6).run P W3 = .ok (.round l fn6 tmps6 as6 bo6) W3:=by
   refine jkM h6op h6c (l:=l) (by rw [←hyv];exact h11) ?_
   rw [h6a]
   have e12:a3.eval (.tmp 12) = .int .i64 ((m-1-j:Nat):Int):=by
    rw [show ((m-1-j:Nat):Int)=(m:Int)-1-j by omega];exact h12
   have e16:a3.eval (.tmp 16)=tm a3 16:=rfl
   simp only [List.map_toArray,ku,List.map_nil,e12,e16]
   exact hy6
  rw [show o6.semAt (FR none).round a3.eval=execOp a3.eval o6 from rfl,hrun,Oper.uponIn_round]
  refine ⟨fun hd=>by simp [FR,Fence.wide] at hd,?_⟩
  refine RoundIn.mono ⟨hround.1,fun c cs _=>hround.2 c cs (jp1 _ _)⟩ ?_
  have hlt17:17<a3.tmps.size:=by rw [hFr3.1];omega
  have rest:∀ (bb:Bool) (W4:World) (S4:j0c),(∀ g o,S4 g o→g<W4.heap.size)→
    (∀ a5 W5,Fr a5→Grew W4 W5→tm a5 18 = .bool (!bb)→tm a5 3 = .int .i64 ((m:Int)-1-j)→(Exit.then ((Code.cond (.tmp 18) .ret .skip).wpIn (FR none) 0 P (Exit.inBlock b1 (Exit.then ((Code.region r2 A2 false).wpIn (FR none) 0 P (Exit.then (fun a' W'=>Inv a' W'∧μ a' W'<μ a W) (Exit.inBlock b0 (bodyPost P fn R))))
     (Exit.then (fun a' W'=>Inv a' W'∧μ a' W'<μ a W) (Exit.inBlock b0 (bodyPost P fn R)))))) (Exit.inBlock b1 (Exit.then ((Code.region r2 A2 false).wpIn (FR none) 0 P (Exit.then (fun a' W'=>Inv a' W'∧μ a' W'<μ a W) (Exit.inBlock b0 (bodyPost P fn R))))
     (Exit.then (fun a' W'=>Inv a' W'∧μ a' W'<μ a W) (Exit.inBlock b0 (bodyPost P fn R)))))) .normal a5 W5)→
    wpOpsIn (FR none) 0 P ops (Exit.then ((Code.cond (.tmp 18) .ret .skip).wpIn (FR none) 0 P (Exit.inBlock b1 (Exit.then ((Code.region r2 A2 false).wpIn (FR none) 0 P (Exit.then (fun a' W'=>Inv a' W'∧μ a' W'<μ a W) (Exit.inBlock b0 (bodyPost P fn R))))
     (Exit.then (fun a' W'=>Inv a' W'∧μ a' W'<μ a W) (Exit.inBlock b0 (bodyPost P fn R)))))) (Exit.inBlock b1 (Exit.then ((Code.region r2 A2 false).wpIn (FR none) 0 P (Exit.then (fun a' W'=>Inv a' W'∧μ a' W'<μ a W) (Exit.inBlock b0 (bodyPost P fn R))))
     (Exit.then (fun a' W'=>Inv a' W'∧μ a' W'<μ a W) (Exit.inBlock b0 (bodyPost P fn R)))))) [7] (a3.put o6.dst (.bool bb)) W4:=by
   intro bb W4 S4 hS4 hnext
   rw [h6d]
   obtain ⟨a4,ha4⟩:∃ a4,a4=a3.put (some 17) (.bool bb):=⟨_,rfl⟩
   rw [←ha4]
   have htm4:∀ i,tm a4 i=if i=17 then .bool bb else tm a3 i:=fun i=>by rw [ha4];exact jkp hlt17 _ i
   have hFr4:Fr a4:=⟨by rw [ha4,jiW];exact hFr3.1,by rw [ha4,jfb];exact hFr3.2.1,by rw [htm4];exact hFr3.2.2.1,by rw [htm4];exact hFr3.2.2.2⟩
   have hR4:Rel (bwE T).N (bwE T).np S4 W4 { blks:=[],val:=fun _=>none,fix:=fx } (slF [(17,.one (.d .bool bb)),(3,intP ((m:Int)-1-j))]) a4 W4 S4 (fun _=>undef):=
    jcg hFr4.1 hFr4.2.1 (fun _=>rfl) hS4 (jeu (fun x hx=>by
     simp only [je,qo,or_false] at hx
     rcases hx with rfl | rfl
     ·rw [htm4,if_pos rfl];exact ⟨rfl,fun _=>rfl⟩
     ·exact hint (by rw [htm4];exact h33))) (hfixI hFr4)
   refine jm2 (rest:=[]) hT hC (fun σ5 a5 W5 S5 γ5 hR5 _ hk5=> ?_) [o7] 7 (fun k o hk=> ?_) hR4 (jh2 _) (e7 bb _)
   ·obtain ⟨q1,q2⟩:=jsR hk5
    exact hnext a5 W5 (hfr hR5) (ja0 hR5) (jkN hR5 q1) (jcK hR5 q2)
   ·cases k with
    | zero=>simp at hk;subst hk;exact ⟨hop7,hgd _ (by simp)⟩
    | succ k=>simp at hk
  rintro e W4 (⟨rfl,S4,hJ4⟩ | ⟨rfl,hx4⟩)
  ·refine rest true W4 S4 (hhere _ _ _ hJ4) (fun a5 W5 hFr5 hg5 h18 h35=> ?_)
   refine wpIn_cond_false (c:= .tmp 18) h18 (wpIn_skip ?_)
   show (Code.region r2 A2 false).wpIn _ _ _ _ _ _
   have hJ5:=hst _ _ _ _ _ hg5 (same hJ4 hg5) hJ4
   have hR5:Rel (bwE T).N (bwE T).np S4 W5 { blks:=[],val:=fun _=>none,fix:=fx } (slF [(3,intP ((m:Int)-1-j))]) a5 W5 S4 (fun _=>undef):=
    jcg hFr5.1 hFr5.2.1 (fun _=>rfl) (hhere _ _ _ hJ5) (jeu (fun x hx=>by
     simp only [jx] at hx
     subst hx
     exact hint h35)) (hfixI hFr5)
   refine wpIn_mono (jpm hT hR5 (jh2 _) (e2 _)) ?_
   rintro e a6 W6 ⟨rfl,σ6,S6,γ6,hR6,hk6⟩
   have h36:=jcK hR6 (jsQ hk6)
   rw [j02 (by omega) (by omega)] at h36
   refine ⟨⟨hfr hR6,j+1,S4,by omega,hst _ _ _ _ _ (ja0 hR6) (same hJ5 (ja0 hR6)) hJ5,?_⟩,?_⟩
   ·rw [h36];congr 1;push_cast;omega
   ·simp only [μ,h36,h3];omega
  ·refine rest false W4 (fun _ _=>False) (fun _ _ h=>h.elim) (fun a5 W5 hFr5 hg5 h18 h35=> ?_)
   refine wpIn_cond_true (c:= .tmp 18) h18 (wpIn_ret ?_)
   exact hfin hFr5.2.1 (.inr (hstx _ _ hg5 hx4))
end
def j98:Code→List (Nat×Array Oper)
 | .seq x y=>j98 x++j98 y
 | .cond _ x y=>j98 x++j98 y
 | .block _ c=>j98 c
 | .loop c=>j98 c
 | .region id ops _=>[(id,ops)]
 | _=>[]
def bwA (fn:Func) (i:Nat):Array Oper:=(((j98 (fn.body.getD .skip)).find? fun x=>x.1==i).getD (0, #[])).2
def opAt (A:Array Oper) (i:Nat):Oper:=(A[i]?).getD default
def jpn (o:Oper):Call:=match o.op with
 | .call c=>c
 | _=>default
theorem jsT {P:Program} {T:Nat→Option TyI} (hT:j22 P T) {f:Nat} {t:Ty} {fn:Func} (hf:P.funcs[f]? = some fn) {A0 A1 A2 A3:Array Oper}
  (hb:fn.body=some ((Code.region 0 A0 false).seq (Code.block 0 ((((Code.region 1 A1 false).seq (Code.cond (.tmp 8) .skip (.exit 0))).seq ((Code.block 1 ((Code.region 3 A3 false).seq (Code.cond (.tmp 18) .ret .skip))).seq (Code.region 2 A2 false))).loop))))
  (hA:A3=(opAt A3 0::((A3.toList.drop 1).take 5++[opAt A3 6,opAt A3 7])).toArray)
  (hnt : fn.ntmps = 19) (hres : fn.results = #[]) (hnm : (fn.name == "runtime.NumGoroutine") = false) (hl3 : ((A3.toList.drop 1).take 5).length = 5) (hbare : (opAt A3 0 :: ((A3.toList.drop 1).take 5 ++ [opAt A3 6, opAt A3 7])).all (fun o => o.guard.isNone) = true)
  (h0op:(opAt A3 0).op = .move (.tmp 0)) (h0d:(opAt A3 0).dst=some 11) (h6op:(opAt A3 6).op = .call (jpn (opAt A3 6))) (h6c:(jpn (opAt A3 6)).callee = .value (.tmp 11)) (h6a:(jpn (opAt A3 6)).args = #[.tmp 12,.tmp 16]∧(opAt A3 6).dst=some 17)
  (e0:∀ xs:List t.den,j8r (bwE T) A0 (slF [(1,lstP t xs)]) g3=some (w64 (Int.ofNat (List.length xs)-1)))
  (e1:∀ i:Int,j8r (bwE T) A1 (slF [(3,intP i)]) g1=some (decide (i≥0),i))
  (e2:∀ i:Int,j8r (bwE T) A2 (slF [(3,intP i)]) g3=some (w64 (i-1)))
  (e3:∀ (xs:List t.den) (i:Int),j8q (bwE T) ((A3.toList.drop 1).take 5) (slF [(1,lstP t xs),(3,intP i)]) (g16 t)=cond (inR i (List.length xs)) (some (i,List.getD xs (Int.toNat i) t.dflt,i)) none)
  (e7:∀ (b:Bool) (i:Int),j8q (bwE T) [opAt A3 7] (slF [(17,.one (.d .bool b)),(3,intP i)]) g18=some (!b,i)):BwOK P f t:=by
 rw [hA] at hb
 exact jtF hT hf hb hnt hres hnm hl3 hbare h0op h0d h6op h6c h6a.1 h6a.2 e0 e1 e2 e3 e7
section
variable {P:Program} {E:Env} {ops pre:Array Oper} {cl:List Nat} {τ:Nat→St} {S0:j0c} {w0:World} {refs:Bool→Refs}
end
section
variable {S0:j0c} {w0:World} {refs:Refs}
def g7 (σ:St):Option (Bool×Int):=match σ.sl 7,σ.sl 3 with
 | .one (.one (.d .bool b)),.one (.one (.d (.int .i64) v))=>some (b,v)
 | _,_=>none
theorem Grew.trans {w w' w'':World} (h:Grew w w') (h':Grew w' w''):Grew w w'':=
 ⟨fun g hg=>(h'.old g (kq hg h.size)).trans (h.old g hg),qr h.size h'.size,h'.os.trans h.os,h'.tape.trans h.tape,h'.output.trans h.output⟩
end
open Go.RowKit Go.WideShapes Go.ChangeShapes
theorem jpo {P:Program} {f:Nat} {ps:List APat} {ts:List Ty} {F:HL ts→Option Bool} (hok:Con.OK P ⟨f,ps,ts,⟨[.v .bool],[]⟩,[.bool],F⟩) (h:HL ts) (hF:F h=some true)
  (w:World) (S:j0c) (vals:List Value) (ha:All2 (jaA S w) (jhN ps ts h) vals) (hr:j2F (jhN ps ts h) vals=[]) (hS:∀ g o,S g o→g<w.heap.size) (hu:jjf ps ts (jhN ps ts h)=some h) :
  Calls P f vals.toArray w fun e w'=>e = .returned (.bool true)∧Below w.heap.size w w':=by
 have:=(hok (jhN ps ts h) Ret some (jpg ⟨[.v .bool],[]⟩ [.bool] true) (by
  unfold Con.C
  rw [hu]
  show (F h).bind _=_
  rw [hF];rfl)).2
 refine (this w S vals ha (by rw [hr];exact ze) hS).mono ?_
 rintro e w' ⟨ret,hret,v,S',vs,rfl,hok⟩
 simp only [j4] at hret
 subst hret
 have hrep:All2 (jfM S' w') [.v ⟨.bool,true⟩] vs:=hok.rep
 refine ⟨?_,hok.os,hok.tape,hok.output,hok.grow,fun k hk=>hok.below k hk (by rw [hr];simp)⟩
 rw [hok.val]
 match vs,hrep with
 | [u],hrep=>
  have h1:=hrep.1
  have h2:u.cells.toList=[.bool true]∧(j96 Ty.bool=true→∃ cs,u=Value.agg cs)∧(j96 Ty.bool=false→One u):=h1
  have h3:=jay (h2.2.2 rfl)
  rw [h2.1] at h3
  simp only [List.cons.injEq,and_true] at h3
  rw [←h3]
  rfl
 | [],hrep=>exact absurd hrep (by simp [All2])
 | _::_::_,hrep=>exact absurd hrep (by simp [All2])
theorem jjk {H:Type} {enc:TypeId×Value→H} {P:Program} {f:Func} {s:ChangeSpec} {apart fresh handsOn again:Bool} {W W':World} {args:Array Value} {v:Value} {ds gs:List (DataW H)} {before pa pv:List MemPlace}
  (hW:DataW.Whole enc P f.params.toList s.vars apart W args.toList ds gs before)
  (hres:∀ (b:Nat) (sp:Nat→Bool) (hd:Bool),DataW.TrodAll enc P W' b sp hd f.resultTypes.toList (v.resultList f.resultTypes.size) (s.fn H (ds++gs)).results [])
  (hargs:∀ sp:Nat→Bool,(∀ p∈before,sp p.block=true)→DataW.TrodAll enc P W' 0 sp true f.params.toList args.toList (s.fn H (ds++gs)).args pa)
  (hvars:∀ sp:Nat→Bool,(∀ p∈before,sp p.block=true)→DataW.TrodVars enc P W' sp s.vars (s.fn H (ds++gs)).vars pv)
  (hps:before=pa++pv) (hb:Below W.heap.size W W')
  (hok:∀ (j:Nat) (t:TypeId) (r:Value),f.resultTypes[j]? = some t→(v.resultList f.resultTypes.size)[j]? = some r→Value.okWide P W' .any 0 t r) :
  s.post enc P f apart fresh handsOn again W args v W':=by
 have hlt:∀ p∈before,p.block<W.heap.size:=fun p hp=>hW.lt p hp
 have hold:∀ p∈before,(fun b=>decide (b<W.heap.size)) p.block=true:=fun p hp=>by simpa using hlt p hp
 refine ⟨ds,gs,before,[],pa,pv,hW,hres _ _ _,hargs _ hold,hvars _ hold,World.keptBut_mono (fun p hp=>⟨hp,?_⟩) (hb.frame (· ∈ before)),fun _=> ?_⟩
 ·rw [hps,jp] at hp
  exact Or.inr hp
 ·obtain ⟨_,_,_,_,_,hz,hn⟩:=hW
  refine ⟨hok,_,_,([]++pa)++pv,⟨[]++pa,pv,trodAll_append (hargs _ (fun _ _=>rfl)) (hres _ _ _),hvars _ (fun _ _=>rfl),rfl,?_,?_⟩,?_⟩
  ·intro b off hp
   have hin:MemPlace.cell b off∈before:=by rw [hps];simpa using hp
   rw [hb.frozen (hlt _ hin)]
   exact hz b off hin
  ·intro ha
   have:=hn ha
   rw [hps] at this
   simpa using this
  ·intro p hp _
   rw [hps]
   simpa using hp
open Go.RowKit Go.WideShapes Go.ChangeShapes
def jfG (P:Program) (f:TypeId→Ty→Bool):List Field→Nat→Ty→Bool
 | [],_,_=>false
 | [x],off,b=>decide (x.offset=off)&&decide (P.cellsOf x.type=b.size)&&f x.type b
 | x::y::r,off,.pair a b=>decide (x.offset=off)&&decide (P.cellsOf x.type=a.size)&&f x.type a&&jfG P f (y::r) (off+a.size) b
 | _,_,_=>false
def jff (P:Program):Nat→TypeId→Ty→Bool
 | 0,_,_=>false
 | n+1,t,ty=>match P.underlying t with
  | some (.int k)=>decide (ty = .int k)
  | some .bool=>decide (ty = .bool)
  | some .string=>decide (ty = .str)
  | some (.slice e)=>match ty with
   | .list a=>jff P n e a&&decide (P.cellsOf e=a.size)&&decide (0<a.size)
   | _=>false
  | some (.struct fs)=>decide (P.cellsOf t=ty.size)&&match fs.toList,ty with
   | [x],.wrap a=>jfG P (jff P n) [x] 0 a
   | x::y::r,.pair a b=>jfG P (jff P n) (x::y::r) 0 (.pair a b)
   | _,_=>false
  | _=>false
def Wf:(t:Ty)→t.den→Prop
 | .int k,n=>(Lit.int k n).wf=true
 | .bool,_=>True
 | .str,s=>s.size≤maxLen
 | .unit,_=>True
 | .wrap a,v=>Wf a v
 | .pair a b,v=>Wf a v.1∧Wf b v.2
 | .list a,xs=>List.length xs≤maxLen∧∀ x∈(show List a.den from xs),Wf a x
 | .arr _ _,_=>True
theorem jgh {α β:Type} {f:α→Option β}:∀ {l:List α} {ys:List β},l.mapM f=some ys→ys.length=l.length∧∀ (i:Nat) (x:α),l[i]? = some x→∃ y,ys[i]? = some y∧f x=some y
 | [],ys,h=>by
  simp at h;subst h
  exact ⟨rfl,fun i x hx=>by simp at hx⟩
 | a::l,ys,h=>by
  rw [qg] at h
  cases ha:f a with
  | none=>simp [ha] at h
  | some y=>
   cases hl:l.mapM f with
   | none=>simp [ha,hl] at h
   | some zs=>
    simp [ha,hl] at h
    subst h
    obtain ⟨h1,h2⟩:=jgh hl
    refine ⟨by simp [h1],fun i x hx=> ?_⟩
    cases i with
    | zero=>simp at hx;subst hx;exact ⟨y,rfl,ha⟩
    | succ i=>simp at hx;obtain ⟨z,hz,hf⟩:=h2 i x hx;exact ⟨z,by simpa using hz,hf⟩
theorem jh3 {α β:Type} {f:α→Option β}:∀ {l:List α} {ys:List β},ys.length=l.length→(∀ (i:Nat) (x:α),l[i]? = some x→f x=ys[i]?)→l.mapM f=some ys
 | [],ys,h,_=>by
  have:ys=[]:=jl (by simpa using h)
  subst this;rfl
 | a::l,[],h,_=>by simp at h
 | a::l,y::ys,h,hg=>by
  have h0:f a=some y:=by simpa using hg 0 a rfl
  rw [qg,h0,jh3 (ys:=ys) (by simpa using h) (fun i x hx=>by simpa using hg (i+1) x (by simpa using hx))]
  rfl
theorem jev {α β:Type} {f g:α→Option β}:∀ {l:List α} {ys:List β},l.mapM f=some ys→(∀ x∈l,∀ y,y∈ys→f x=some y→g x=some y)→l.mapM g=some ys
 | [],ys,h,_=>by simpa using h
 | a::l,ys,h,hk=>by
  rw [qg] at h ⊢
  cases ha:f a with
  | none=>simp [ha] at h
  | some y=>
   cases hl:l.mapM f with
   | none=>simp [ha,hl] at h
   | some zs=>
    simp [ha,hl] at h
    subst h
    rw [hk a (by simp) y (by simp) ha,jev hl (fun x hx z hz hf=>hk x (by simp [hx]) z (by simp [hz]) hf)]
    rfl
theorem jh4 {α:Type} {Q:Nat→α→Prop}:∀ n,(∀ i,i<n→∃ x,Q i x)→∃ xs:List α,xs.length=n∧∀ i x,xs[i]? = some x→Q i x
 | 0,_=>⟨[],rfl,fun i x h=>by simp at h⟩
 | n+1,h=>by
  obtain ⟨xs,hl,hx⟩:=jh4 n (fun i hi=>h i (by omega))
  obtain ⟨x,hq⟩:=h n (by omega)
  refine ⟨xs++[x],by simp [hl],fun i y hy=> ?_⟩
  rcases qe i n with hi | hi
  ·rw [List.getElem?_append_left (by omega)] at hy;exact hx i y hy
  ·have:i=n:=by
    have:=(jh.1 hy).1
    simp [hl] at this;omega
   subst this
   rw [jt (by omega),hl,Nat.sub_self] at hy
   simp at hy;subst hy;exact hq
theorem jpp {α β:Type} {R:α→β→Prop}:∀ {as:List α} {bs:List β},as.length=bs.length→(∀ (i:Nat) (a:α) (b:β),as[i]? = some a→bs[i]? = some b→R a b)→All2 R as bs
 | [],[],_,_=>trivial
 | a::as,b::bs,hl,h=>⟨h 0 a b rfl rfl,jpp (by simpa using hl) fun i x y hx hy=>h (i+1) x y (by simpa using hx) (by simpa using hy)⟩
 | [],_::_,hl,_=>by simp at hl
 | _::_,[],hl,_=>by simp at hl
theorem jiF {m:Nat}:∀ {css:List (List Value)},(∀ c∈css,c.length=m)→∀ {j:Nat} {v:Value},css.flatten[j]? = some v→∃ i r c,j=i*m+r∧r<m∧css[i]? = some c∧c[r]? = some v
 | [],_,j,v,h=>by simp at h
 | c::css,hl,j,v,h=>by
  simp only [ki] at h
  have hc:=hl c (by simp)
  rcases qe j c.length with hj | hj
  ·rw [List.getElem?_append_left hj] at h
   exact ⟨0,j,c,by omega,by omega,rfl,h⟩
  ·rw [jt hj] at h
   obtain ⟨i,r,c',e,hr,hi,hv⟩:=jiF (fun x hx=>hl x (by simp [hx])) h
   exact ⟨i+1,r,c',by rw [Nat.add_mul];omega,hr,by simpa using hi,hv⟩
def Ext (W W':World):Prop:=∀ (k:Nat) x,W.heap[k]? = some x→W'.heap[k]? = some x
theorem Ext.cell {W W':World} (h:Ext W W') {a:Addr} {v:Value} (hc:W.cell? a=some v):W'.cell? a=some v:=by
 unfold World.cell? at hc ⊢
 split at hc
 ·rename_i c _ _ hb
  rw [h _ _ hb];exact hc
 ·simp at hc
theorem Ext.cells {W W':World} (h:Ext W W') {a:Addr} {n:Nat} {cs:List Value} (hc:W.cells? 0 a n=some cs):W'.cells? 0 a n=some cs:=by
 unfold World.cells? at hc ⊢
 simp only [k7,if_true] at hc ⊢
 exact jev hc fun i _ y _ hf=>h.cell hf
theorem jh5 {W:World} {a:Addr} {n:Nat} {cs:List Value} (hc:W.cells? 0 a n=some cs):cs.length=n∧∀ i v,cs[i]? = some v→W.cell? (a.add i)=some v:=by
 unfold World.cells? at hc
 simp only [k7,if_true] at hc
 obtain ⟨h1,h2⟩:=jgh hc
 simp only [List.length_range] at h1
 refine ⟨h1,fun i v hv=> ?_⟩
 have hi:i<n:=by rw [←h1];exact (jh.1 hv).1
 obtain ⟨y,hy,hf⟩:=h2 i i (by simp [hi])
 rw [hv] at hy;simp at hy;subst hy
 exact hf
theorem jiG {W:World} {a:Addr} {v:Value} (h:W.cell? a=some v):a.block<W.heap.size∧a.spot=none:=by
 unfold World.cell? at h
 split at h
 ·rename_i c _ _ hb
  refine ⟨(jc.1 hb).1,?_⟩
  split at h
  ·simp at h
  ·rename_i hs;simpa using hs
 ·simp at h
def oldS (W:World):j0c:=fun g _=>g<W.heap.size
def jpq {H:Type} (enc:TypeId×Value→H) (P:Program) (W:World) (held:Bool) (fuel:Nat) (t:TypeId) (ty:Ty) (cs:List Value) (d:DataW H) (ps:List MemPlace):Prop:=
 cs.length=ty.size∧(∃ v:ty.den,Rep (oldS W) W ty v cs∧Wf ty v)∧
  ∀ W' sp,Ext W W'→(∀ q∈ps,sp q.block=true)→DataW.trod enc P W' 0 sp held fuel t cs=some (d,ps)
section
variable {H:Type} {enc:TypeId×Value→H} {P:Program} {W:World} {held:Bool}
theorem jpr {a:Addr} {n:Nat} (hn:0<n):∃ q∈MemPlace.row a n,q.block=a.block:=
 ⟨.cell a.block (a.off+0),kv.2 ⟨0,by simp [hn],rfl⟩,rfl⟩
theorem jm3 {n:Nat} {t e:TypeId} {el:Ty} (hu:P.underlying t=some (.slice e)) (hsz:P.cellsOf e=el.size) (hpos:0<el.size) {fuel:Nat} {cs:List Value} {d:DataW H} {ps:List MemPlace}
  (ih:∀ (m:Nat) (cs:List Value) (d:DataW H) (ps:List MemPlace),DataW.trod enc P W 0 (fun _=>true) held m e cs=some (d,ps)→jpq enc P W held m e el cs d ps)
  (h:DataW.trod enc P W 0 (fun _=>true) held fuel t cs=some (d,ps)):jpq enc P W held fuel t (.list el) cs d ps:=by
 cases fuel with
 | zero=>simp [DataW.trod] at h
 | succ m=>
  have h':=h
  unfold DataW.trod at h
  rw [hu] at h
  split at h
  all_goals (try (rename_i heq _;simp at heq;done))
  all_goals (try (rename_i heq;simp at heq;done))
  ·rename_i heq
   refine ⟨rfl,⟨[],⟨none,0,rfl,ju _,k7 _,fun _=>rfl,fun b hb=>by simp at hb⟩,⟨k7 _,by simp⟩⟩,fun W' sp _ _=> ?_⟩
   unfold DataW.trod
   rw [hu]
   exact h
  ·rename_i e' a len cap heq
   simp only [j4,TypeDesc.slice.injEq] at heq
   subst heq
   simp only [k7,kf,if_true] at h
   split at h
   ·rename_i hc
    cases hel:(List.range len).mapM (fun i=>(W.cells? 0 (a.add (i*P.cellsOf e)) (P.cellsOf e)).bind (DataW.trod enc P W 0 (fun _=>true) held m e)) with
    | none=>rw [hel] at h;simp at h
    | some elems=>
     rw [hel] at h
     simp only [j3] at h
     cases hre:(List.range (cap-len)).mapM (fun j=>(W.cells? 0 (a.add ((len+j)*P.cellsOf e)) (P.cellsOf e)).bind (DataW.trod enc P W 0 (fun _=>true) held m e)) with
     | none=>rw [hre] at h;simp at h
     | some rest=>
      rw [hre] at h
      simp only [ko,j4,j8] at h
      obtain ⟨rfl,rfl⟩:=h
      obtain ⟨l1,g1⟩:=jgh hel
      obtain ⟨l2,g2⟩:=jgh hre
      simp only [List.length_range] at l1 l2
      have one:∀ i y,(W.cells? 0 (a.add (i*P.cellsOf e)) (P.cellsOf e)).bind (DataW.trod enc P W 0 (fun _=>true) held m e)=some y→∃ c,W.cells? 0 (a.add (i*P.cellsOf e)) (P.cellsOf e)=some c∧jpq enc P W held m e el c y.1 y.2:=by
       intro i y hy
       cases hc:W.cells? 0 (a.add (i*P.cellsOf e)) (P.cellsOf e) with
       | none=>rw [hc] at hy;simp at hy
       | some c=>rw [hc] at hy;exact ⟨c,rfl,ih m c y.1 y.2 hy⟩
      refine ⟨rfl,?_,?_⟩
      ·have each:∀ i,i<len→∃ x:el.den×List Value,W.cells? 0 (a.add (i*P.cellsOf e)) (P.cellsOf e)=some x.2∧Rep (oldS W) W el x.1 x.2∧Wf el x.1:=by
        intro i hi
        obtain ⟨y,hy,hf⟩:=g1 i i (by simp [hi])
        obtain ⟨c,hc1,_,⟨v,hv,hw⟩,_⟩:=one i y hf
        exact ⟨(v,c),hc1,hv,hw⟩
       obtain ⟨xs,hxl,hxs⟩:=jh4 len each
       have hclen:∀ c∈xs.map (·.2),c.length=P.cellsOf e:=by
        intro c hc
        obtain ⟨x,hx,rfl⟩:=kv.1 hc
        obtain ⟨i,hi⟩:=qh.1 hx
        exact (jh5 (hxs i x hi).1).1
       refine ⟨xs.map (·.1),?_,?_⟩
       ·refine ⟨some a,cap,by simp [hxl],by simp [hxl,hc.1],hc.2,by simp,fun b hb=> ?_⟩
        simp only [j4] at hb;subst hb
        have hspot:len≠0→a.spot=none:=by
         intro hl
         obtain ⟨x,hx⟩:∃ x,xs[0]? = some x:=⟨xs[0],jo (by omega)⟩
         obtain ⟨k1,k2⟩:=jh5 (hxs 0 x hx).1
         obtain ⟨v,hv⟩:∃ v,x.2[0]? = some v:=⟨x.2[0],jo (by omega)⟩
         have:=(jiG (k2 0 v hv)).2
         simpa [Addr.add] using this
        refine ⟨fun hne=>hspot (fun h0=>hne (by rw [List.map_eq_nil_iff];exact jl (by omega))),xs.map (·.2),jpp (by simp) (fun i x c hx hc=> ?_),fun j v hv=> ?_⟩
        ·simp only [q9,Option.map_eq_some_iff] at hx hc
         obtain ⟨y,hy,rfl⟩:=hx
         obtain ⟨z,hz,rfl⟩:=hc
         rw [hy] at hz;simp at hz;subst hz
         exact (hxs i y hy).2.1
        ·obtain ⟨i,r,c,hj,hr,hci,hcr⟩:=jiF hclen hv
         simp only [q9,Option.map_eq_some_iff] at hci
         obtain ⟨x,hx,rfl⟩:=hci
         have hcell:=(jh5 (hxs i x hx).1).2 r v hcr
         have hil:i<len:=by rw [←hxl];exact (jh.1 hx).1
         have hs:=hspot (by omega)
         have hadd:(a.add (i*P.cellsOf e)).add r=⟨a.block,a.off+j,none⟩:=by
          obtain ⟨g,o,s⟩:=a
          simp only at hs;subst hs
          simp only [Addr.add]
          split<;>split<;>simp<;>omega
         rw [hadd] at hcell
         exact ⟨(jiG hcell).1,hcell⟩
       ·refine ⟨by simp only [qj,hxl];omega,fun x hx=> ?_⟩
        obtain ⟨y,hy,rfl⟩:=kv.1 hx
        obtain ⟨i,hi⟩:=qh.1 hy
        exact (hxs i y hi).2.2
      ·intro W' sp hE hsp
       have keep:∀ i y,y∈elems++rest→(W.cells? 0 (a.add (i*P.cellsOf e)) (P.cellsOf e)).bind (DataW.trod enc P W 0 (fun _=>true) held m e)=some y→
         (W'.cells? 0 (a.add (i*P.cellsOf e)) (P.cellsOf e)).bind (DataW.trod enc P W' 0 sp held m e)=some y:=by
        intro i y hy hf
        obtain ⟨c,hc1,_,_,hk⟩:=one i y hf
        rw [hE.cells hc1]
        exact hk W' sp hE (fun q hq=>hsp q (List.mem_append_right _ (List.mem_flatMap.2 ⟨y,hy,hq⟩)))
       unfold DataW.trod
       rw [hu]
       simp only [k7,kf]
       rw [if_pos hc,jev hel (fun i _ y hy hf=>keep i y (ql _ hy) hf)]
       simp only [j3]
       have hrest:(if sp a.block=true then (List.range (cap-len)).mapM (fun j=>(W'.cells? 0 (a.add ((len+j)*P.cellsOf e)) (P.cellsOf e)).bind (DataW.trod enc P W' 0 sp held m e)) else some [])=some rest:=by
        split
        ·exact jev hre (fun j _ y hy hf=>keep (len+j) y (List.mem_append_right _ hy) hf)
        ·rename_i hsf
         rcases Nat.eq_zero_or_pos ((elems.length+rest.length)*P.cellsOf e) with h0 | h0
         ·have:rest=[]:=by
           rcases Nat.mul_eq_zero.1 h0 with h | h
           ·exact jl (by omega)
           ·omega
          rw [this]
         ·obtain ⟨q,hq,hb⟩:=jpr (a:=a) h0
          have:=hsp q (ql _ hq)
          rw [hb] at this
          exact absurd this hsf
       rw [hrest]
       rfl
   ·simp at h
  ·simp at h
theorem jaG {n m:Nat} (ih:∀ (t:TypeId) (ty:Ty),jff P n t ty=true→∀ (cs:List Value) (d:DataW H) (ps:List MemPlace),DataW.trod enc P W 0 (fun _=>true) held m t cs=some (d,ps)→jpq enc P W held m t ty cs d ps) (cs:List Value) :
  ∀ (fs:List Field) (off:Nat) (ty:Ty) (xs:List (DataW H×List MemPlace)),jfG P (jff P n) fs off ty=true→cs.length=off+ty.size→
   fs.mapM (fun f=>DataW.trod enc P W 0 (fun _=>true) held m f.type ((cs.drop f.offset).take (P.cellsOf f.type)))=some xs→
   (∃ v:ty.den,Rep (oldS W) W ty v (cs.drop off)∧Wf ty v)∧
    ∀ W' sp,Ext W W'→(∀ q∈xs.flatMap (·.2),sp q.block=true)→fs.mapM (fun f=>DataW.trod enc P W' 0 sp held m f.type ((cs.drop f.offset).take (P.cellsOf f.type)))=some xs
 | [],_,_,_,hc,_,_=>by simp [jfG] at hc
 | [f],off,ty,xs,hc,hl,hm=>by
  simp only [jfG,ja,jk] at hc
  obtain ⟨⟨ho,hz⟩,hc⟩:=hc
  rw [qg] at hm
  cases hf:DataW.trod enc P W 0 (fun _=>true) held m f.type ((cs.drop f.offset).take (P.cellsOf f.type)) with
  | none=>simp [hf] at hm
  | some y=>
   simp [hf] at hm
   subst hm
   obtain ⟨_,hv,hk⟩:=ih f.type ty hc _ y.1 y.2 hf
   rw [ho,hz,List.take_of_length_le (by simp;omega)] at hv
   refine ⟨hv,fun W' sp hE hsp=> ?_⟩
   rw [qg,hk W' sp hE (fun q hq=>hsp q (by simpa using hq))]
   rfl
 | f::g::r,off,ty,xs,hc,hl,hm=>by
  cases ty with
  | pair a b=>
   simp only [jfG,ja,jk] at hc
   obtain ⟨⟨⟨ho,hz⟩,hc⟩,hr⟩:=hc
   rw [qg] at hm
   cases hf:DataW.trod enc P W 0 (fun _=>true) held m f.type ((cs.drop f.offset).take (P.cellsOf f.type)) with
   | none=>simp [hf] at hm
   | some y=>
    cases hrest:(g::r).mapM (fun f=>DataW.trod enc P W 0 (fun _=>true) held m f.type ((cs.drop f.offset).take (P.cellsOf f.type))) with
    | none=>rw [hf,hrest] at hm;simp at hm
    | some ys=>
     rw [hf,hrest] at hm
     simp at hm
     subst hm
     have hl':cs.length=off+(a.size+b.size):=hl
     obtain ⟨hyl,⟨v,hv,hw⟩,hk⟩:=ih f.type a hc _ y.1 y.2 hf
     obtain ⟨⟨v2,hv2,hw2⟩,hk2⟩:=jaG ih cs (g::r) (off+a.size) b ys hr (by omega) hrest
     rw [ho,hz] at hv
     refine ⟨⟨(v,v2),⟨(cs.drop off).take a.size,cs.drop (off+a.size),?_,hv,hv2⟩,hw,hw2⟩,fun W' sp hE hsp=> ?_⟩
     ·rw [←z4,q7]
     ·rw [qg,hk W' sp hE (fun q hq=>hsp q (by simp [hq])),hk2 W' sp hE (fun q hq=>hsp q (by simp at hq ⊢;exact .inr hq))]
      rfl
  | _=>simp [jfG] at hc
theorem jiH:∀ (n:Nat) (t:TypeId) (ty:Ty),jff P n t ty=true→∀ (fuel:Nat) (cs:List Value) (d:DataW H) (ps:List MemPlace),DataW.trod enc P W 0 (fun _=>true) held fuel t cs=some (d,ps)→
  jpq enc P W held fuel t ty cs d ps
 | 0,_,_,hc,_,_,_,_,_=>by simp [jff] at hc
 | n+1,t,ty,hc,fuel,cs,d,ps,h=>by
  have ih:=jiH n
  cases fuel with
  | zero=>simp [DataW.trod] at h
  | succ m=>
  have hc0:=hc
  unfold jff at hc
  split at hc
  ·rename_i k hu
   have:=ky hc
   subst this
   obtain ⟨z,rfl,hx,hw⟩:=DataW.trod_int hu h
   refine ⟨rfl,⟨z,rfl,hw⟩,fun W' sp _ _=> ?_⟩
   simp only [j8] at hx
   rw [hx.1,hx.2]
   exact trod_int_mk m hu hw
  ·rename_i hu
   have:=ky hc
   subst this
   obtain ⟨z,rfl,hx⟩:=DataW.trod_bool hu h
   refine ⟨rfl,⟨z,rfl,trivial⟩,fun W' sp _ _=> ?_⟩
   unfold DataW.trod at h ⊢
   rw [hu] at h ⊢
   exact h
  ·rename_i hu
   have:=ky hc
   subst this
   obtain ⟨z,rfl,hx,hw⟩:=DataW.trod_string hu h
   refine ⟨rfl,⟨z,rfl,hw⟩,fun W' sp _ _=> ?_⟩
   unfold DataW.trod at h ⊢
   rw [hu] at h ⊢
   exact h
  ·rename_i e hu
   split at hc
   ·rename_i a
    simp only [ja,jk] at hc
    exact jm3 (n:=n) hu hc.1.2 hc.2 (fun m cs d ps h=>ih e a hc.1.1 m cs d ps h) h
   ·simp at hc
  ·rename_i fs hu
   simp only [ja,jk] at hc
   obtain ⟨hsz,hc⟩:=hc
   have hstr:cs.length=P.cellsOf t∧∃ xs,fs.toList.mapM (fun f=>DataW.trod enc P W 0 (fun _=>true) held m f.type ((cs.drop f.offset).take (P.cellsOf f.type)))=some xs∧d = .agg (xs.map (·.1))∧ps=xs.flatMap (·.2):=by
    obtain ⟨xs,m',e1,e2,e3,e4,e5⟩:=DataW.trod_struct hu h
    have:m'=m:=by omega
    subst this
    simp only [j8] at e2
    exact ⟨e3,xs,jh3 (by simpa using e4) (fun i x hx=>e5 i x (by simpa using hx)),e2.1,e2.2⟩
   obtain ⟨hl,xs,hm,rfl,rfl⟩:=hstr
   have mk:∀ W' sp,fs.toList.mapM (fun f=>DataW.trod enc P W' 0 sp held m f.type ((cs.drop f.offset).take (P.cellsOf f.type)))=some xs→
     DataW.trod enc P W' 0 sp held (m+1) t cs=some (.agg (xs.map (·.1)),xs.flatMap (·.2)):=by
    intro W' sp hm'
    exact trod_struct_mk hu hl (by
     first
     | exact hm'
     | (intros;exact hm'))
   refine ⟨by omega,?_,fun W' sp hE hsp=> ?_⟩
   all_goals split at hc
   ·rename_i x a hfs
    rw [hfs] at hm
    obtain ⟨⟨v,hv,hw⟩,_⟩:=jaG (fun t ty hc cs d ps h=>ih t ty hc m cs d ps h) cs [x] 0 a xs hc (by rw [hl,hsz];simp [Ty.size]) hm
    exact ⟨v,by simpa [Rep] using hv,hw⟩
   ·rename_i x y r a b hfs
    rw [hfs] at hm
    obtain ⟨⟨v,hv,hw⟩,_⟩:=jaG (fun t ty hc cs d ps h=>ih t ty hc m cs d ps h) cs (x::y::r) 0 (.pair a b) xs hc (by omega) hm
    exact ⟨v,by simpa using hv,hw⟩
   ·simp at hc
   ·rename_i x a hfs
    rw [hfs] at hm
    obtain ⟨_,hk⟩:=jaG (fun t ty hc cs d ps h=>ih t ty hc m cs d ps h) cs [x] 0 a xs hc (by rw [hl,hsz];simp [Ty.size]) hm
    exact mk W' sp (by rw [hfs];exact hk W' sp hE hsp)
   ·rename_i x y r a b hfs
    rw [hfs] at hm
    obtain ⟨_,hk⟩:=jaG (fun t ty hc cs d ps h=>ih t ty hc m cs d ps h) cs (x::y::r) 0 (.pair a b) xs hc (by omega) hm
    exact mk W' sp (by rw [hfs];exact hk W' sp hE hsp)
   ·simp at hc
  ·simp at hc
end
theorem jcL {P:Program} {W:World} {r:Reach} {base:Nat} {t:TypeId} {v:Value} {d:TypeDesc} (hu:P.underlying t=some d) (hd:(∃ k,d = .int k)∨d = .bool∨d = .string∨∃ e,d = .slice e) (h:Value.okWide P W r base t v):One v:=by
 have hc:Cell.ok P W r base t v:=by
  unfold Value.okWide at h
  rw [hu] at h
  rcases hd with ⟨k,rfl⟩ | rfl | rfl | ⟨e,rfl⟩<;>(dsimp only at h;unfold Cell.okWide at h;rw [hu] at h;exact h)
 unfold Cell.ok at hc
 rw [hu] at hc
 rcases hd with ⟨k,rfl⟩ | rfl | rfl | ⟨e,rfl⟩<;>cases v<;>first | rfl | (exact absurd hc (by simp))
theorem jqJ {H:Type} {enc:TypeId×Value→H} {P:Program} {W:World} {n:Nat} {t:TypeId} {ty:Ty} (hchk:jff P n t ty=true) {r:Reach} {base:Nat} {v:Value} (hok:Value.okWide P W r base t v) {d:DataW H} {p:List MemPlace}
  (h:DataW.Trod enc P W 0 (fun _=>true) true t v d p) :
  ∃ x:ty.den,jaA (oldS W) W (.v ⟨ty,x⟩) v∧Wf ty x∧∀ W' sp,Below W.heap.size W W'→(∀ q∈p,sp q.block=true)→DataW.Trod enc P W' 0 sp true t v d p:=by
 obtain ⟨fuel,h⟩:=h
 obtain ⟨_,⟨x,hx,hw⟩,hk⟩:=jiH n t ty hchk fuel _ d p h
 refine ⟨x,⟨hx,fun hm=> ?_,fun hm=> ?_⟩,hw,fun W' sp hb hsp=>⟨fuel,hk W' sp (fun k y hy=>by rw [hb.block k (jc.1 hy).1];exact hy) hsp⟩⟩
 ·cases n with
  | zero=>simp [jff] at hchk
  | succ n=>
   unfold jff at hchk
   split at hchk
   ·have:=ky hchk;subst this;simp [j96,Ty.agg] at hm
   ·have:=ky hchk;subst this;simp [j96,Ty.agg] at hm
   ·have:=ky hchk;subst this;simp [j96,Ty.agg] at hm
   ·split at hchk
    ·simp [j96,Ty.agg] at hm
    ·simp at hchk
   ·rename_i hu
    unfold Value.okWide at hok
    rw [hu] at hok
    obtain ⟨cs,hcs,_⟩:=hok
    exact ⟨cs,hcs⟩
   ·simp at hchk
 ·cases n with
  | zero=>simp [jff] at hchk
  | succ n=>
   unfold jff at hchk
   split at hchk
   ·rename_i k hu;exact jcL hu (.inl ⟨k,rfl⟩) hok
   ·rename_i hu;exact jcL hu (.inr (.inl rfl)) hok
   ·rename_i hu;exact jcL hu (.inr (.inr (.inl rfl))) hok
   ·rename_i e hu;exact jcL hu (.inr (.inr (.inr ⟨e,rfl⟩))) hok
   ·rename_i hu
    simp only [ja] at hchk
    have h2:=hchk.2
    split at h2
    ·simp [j96,Ty.agg] at hm
    ·simp [j96,Ty.agg] at hm
    ·simp at h2
   ·simp at hchk
def OLe {α:Type} (a b:Option α):Prop:=∀ r,a=some r→b=some r
theorem OLe.refl {α:Type} (a:Option α):OLe a a:=fun _ h=>h
theorem OLe.none {α:Type} (a:Option α):OLe none a:=fun _ h=>by simp at h
theorem OLe.bind {α β:Type} {a b:Option α} {f g:α→Option β} (h:OLe a b) (h':∀ x,OLe (f x) (g x)):OLe (a.bind f) (b.bind g):=by
 intro r hr
 cases a with
 | none=>simp at hr
 | some x=>rw [h x rfl];exact h' x r hr
theorem OLe.cond {α:Type} {c:Bool} {a b a' b':Option α} (h:OLe a a') (h':OLe b b'):OLe (cond c a b) (cond c a' b'):=by
 cases c with
 | true=>exact h
 | false=>exact h'
theorem OLe.sumC {α β γ:Type} {x:α ⊕ β} {f f':α→Option γ} {g g':β→Option γ} (h:∀ x,OLe (f x) (f' x)) (h':∀ x,OLe (g x) (g' x)):OLe (sumC x f g) (Lft.sumC x f' g'):=by
 cases x with
 | inl a=>exact h a
 | inr b=>exact h' b
theorem OLe.loopN {α β:Type} {f g:α→Option (α ⊕ β)} (h:∀ s,OLe (f s) (g s)):∀ (n:Nat) (s:α),OLe (Lft.loopN f n s) (Lft.loopN g n s)
 | 0,_=> .none _
 | n+1,s=>by
  intro r hr
  simp only [Lft.loopN] at hr ⊢
  cases hf:f s with
  | none=>simp [hf] at hr
  | some x=>
   rw [h s x hf]
   cases x with
   | inl a=>simp only [hf] at hr;exact OLe.loopN h n a r hr
   | inr b=>simpa [hf] using hr
theorem OLe.loop {α β:Type} {f g:α→Option (α ⊕ β)} (n:Nat) (s:α) (h:∀ s,OLe (f s) (g s)):OLe (Lft.loopN f n s) (loopOpt g s):=
 fun r hr=>jaE (OLe.loopN h n s r hr)
theorem OLe.loopOpt {α β:Type} {f g:α→Option (α ⊕ β)} (s:α) (h:∀ s,OLe (f s) (g s)):OLe (Lft.loopOpt f s) (Lft.loopOpt g s):=by
 intro r hr
 obtain ⟨n,hn⟩:=jaF hr
 exact jaE (OLe.loopN h n s r hn)
theorem jmY {α β:Type} {B B':(α→Option β)→α→Option β} (h:∀ g g',(∀ a,OLe (g a) (g' a))→∀ a,OLe (B g a) (B' g' a)):∀ n a,OLe (jh1 B n a) (jh1 B' n a)
 | 0,_=> .none _
 | n+1,a=>h _ _ (jmY h n) a
theorem jjl {α β:Type} {B:(α→Option β)→α→Option β} (h:∀ g g',(∀ a,OLe (g a) (g' a))→∀ a,OLe (B g a) (B g' a)):∀ (k n:Nat) (a:α),OLe (jh1 B n a) (jh1 B (n+k) a)
 | k,0,a=> .none _
 | k,n+1,a=>by
  rw [show n+1+k=(n+k)+1 by omega]
  exact h _ _ (jjl h k n) a
theorem OLe.rec {α β:Type} {B B':(α→Option β)→α→Option β} (n:Nat) (a:α) (h:∀ g g',(∀ a,OLe (g a) (g' a))→∀ a,OLe (B g a) (B' g' a)) (h':∀ g g',(∀ a,OLe (g a) (g' a))→∀ a,OLe (B' g a) (B' g' a)) :
  OLe (jh1 B n a) (jmX B' a):=by
 intro r hr
 have h1:=jmY h n a r hr
 refine jpk ⟨n,h1⟩ fun m y hy=> ?_
 have e1:=jjl h' m n a r h1
 have e2:=jjl h' n m a y hy
 rw [Nat.add_comm m n] at e2
 rw [e1] at e2
 simpa using e2.symm
theorem oR {α:Type} (a:Option α):OLe a a:=OLe.refl a
theorem oN {α:Type} (a:Option α):OLe none a:=OLe.none a
theorem oB {α β:Type} {a b:Option α} {f g:α→Option β} (h:OLe a b) (h':∀ x,OLe (f x) (g x)):OLe (a.bind f) (b.bind g):=OLe.bind h h'
theorem oC {α:Type} {c:Bool} {a b a' b':Option α} (h:OLe a a') (h':OLe b b'):OLe (cond c a b) (cond c a' b'):=OLe.cond h h'
theorem oS {α β γ:Type} {x:α ⊕ β} {f f':α→Option γ} {g g':β→Option γ} (h:∀ x,OLe (f x) (f' x)) (h':∀ x,OLe (g x) (g' x)):OLe (sumC x f g) (Lft.sumC x f' g'):=OLe.sumC h h'
end Go.Lft
