/- Shapes of arguments and snapshots: what is known of them but the data. Loops. -/
import Derived.Test.YtllkgjaoejhneaaGreatDELC
import Derived.KernelRfl
import Derived.IntWalk
import Derived.Below
import Derived.ChangeSame
open _root_ renaming List->D,Option->I,Nat->O,DecidableEq->Â,Bool->Ä,True->Ö,Int->Ø,Array->Ü
open Option renaming some->J,none->X,map_eq_some_iff->Ì
open Go.DataW renaming trod->U,TrodAll->Ó,Trod->Û
open Bool renaming true->Y,false->À
open Go renaming Program->Z,Value->Á,World->Å,TypeId->Æ,Code->Ç,MemPlace->È,DataW->Í,Addr->Ý
open Decidable renaming decide->Ã
open Go.Value renaming okWide->É
open List renaming getElem?_append_left->Ê,cons_append->Ë,length_range->Î,length->Ï,find?_cons->Ð,range->Ñ,isEmpty->Ô
noncomputable section
set_option linter.unusedVariables false
namespace Go.Lft
inductive CPat where
 | v (t:Ty)
 | p (ts:D Ty)
 deriving Â
inductive LPat where
 | dead | nil
 | d (t:Ty)
 | ol (k:O)
 | bp (k c:O)
 | ep (k i c:O)
 | tl (k:O)
 | hd (k:O)
 | ip (ts:D Ty)
 | clo (f:O) (caps:D CPat)
 | clr (f:O) (ks:D O)
 deriving Â
inductive KPat where
 | one (l:LPat)
 | st (ls:D LPat)
 | av (n:O) (a:Ty)
 deriving Â
inductive BPat where
 | free | gone
 | cell (ls:D LPat) (frz:Ä)
 | lst (e:O) (a:Ty) (frz:Ä)
 | arr (n:O) (a:Ty)
 | row (e:O) (a:Ty) (n:O) (ls:D LPat)
 deriving Â
inductive IPat where
 | s (c:KPat)
 | b (x:BPat)
 deriving Â
abbrev iT:Ty:= .int .i64
abbrev sI:IPat:= .s (.one (.d iT))
abbrev sD (t:Ty):IPat:= .s (.one (.d t))
abbrev sO (k:O):IPat:= .s (.one (.ol k))
abbrev sB (k c:O):IPat:= .s (.one (.bp k c))
abbrev sC (f:O) (l:D CPat):IPat:= .s (.one (.clo f l))
inductive APat where
 | v (t:Ty)
 | ref (ts:D Ty)
 | rl (e:O) (t:Ty)
 | ip (ts:D Ty)
 | clo (f:O) (caps:D CPat)
 | mv (e:O) (t:Ty)
 deriving Â
@[reducible] def HL:List Ty→Type
 | []=>Unit
 | [t]=>t.den
 | t::t'::ts=>t.den×HL (t'::ts)
def ofHL:(ts:D Ty)→HL ts→D TV
 | [],_=>[]
 | [t],h=>[⟨t,h⟩]
 | t::t'::ts,h=>⟨t,h.1⟩::ofHL (t'::ts) h.2
def toHL:(ts:D Ty)→D TV→I (HL ts)
 | [],[]=>J ()
 | [t],[x]=>x.to t
 | t::t'::ts,x::xs=>match x.to t with
  | some v=>match toHL (t'::ts) xs with
   | some r=>J (v,r)
   | none=>X
  | none=>X
 | _,_=>X
theorem jmx:∀ {ts:D Ty} {xs:D TV} {h:HL ts},toHL ts xs=J h→xs=ofHL ts h
 | [],[],_,_=>rfl
 | [],_::_,_,h=>by simp [toHL] at h
 | [_],[],_,h=>by simp [toHL] at h
 | [t],[x],hl,h=>by
  simp only [toHL] at h
  rw [jfh h];rfl
 | [t],x::y::xs,hl,h=>by simp [toHL] at h
 | _::_::_,[],_,h=>by simp [toHL] at h
 | t::t'::ts,x::xs,hl,h=>by
  simp only [toHL] at h
  split at h
  ·rename_i v hv
   split at h
   ·rename_i r hr
    simp only [jb] at h
    subst h
    rw [jfh hv,jmx hr]
    rfl
   ·simp at h
  ·simp at h
def capP:Cap→CPat×D TV
 | .v x=>(.v x.t,[x])
 | .p ls=>(.p (ls.map (·.t)),ls)
def jgM:D Cap→D CPat×D TV
 | []=>([],[])
 | c::cs=>((capP c).1::(jgM cs).1,(capP c).2++(jgM cs).2)
def tv0:TV:=⟨.unit,()⟩
def capF:CPat→D TV→Cap
 | .v _,xs=> .v (xs.headD tv0)
 | .p ts,xs=> .p (xs.take ts.length)
def CPat.n:CPat→O
 | .v _=>1
 | .p ts=>ts.length
def jss:D CPat→D TV→D Cap
 | [],_=>[]
 | c::cs,xs=>capF c xs::jss cs (xs.drop c.n)
def jst:D CPat→O
 | []=>0
 | c::cs=>c.n+jst cs
theorem jz8 (c:Cap) (r:D TV):capF (capP c).1 ((capP c).2++r)=c∧(capP c).1.n=(capP c).2.length:=by
 cases c with
 | v x=>exact ⟨rfl,rfl⟩
 | p ls=>simp [capP,capF,CPat.n]
theorem jmy:∀ (cs:D Cap) (r:D TV),jss (jgM cs).1 ((jgM cs).2++r)=cs∧jst (jgM cs).1=(jgM cs).2.length
 | [],r=>⟨rfl,rfl⟩
 | c::cs,r=>by
  simp only [jgM,jss,jst,jr,jo]
  have h1:=jz8 c ((jgM cs).2++r)
  have h2:=jmy cs r
  rw [h1.1,h1.2,vr,h2.1,h2.2]
  exact ⟨rfl,rfl⟩
def jkO:Leaf→LPat×D TV
 | .dead=>(.dead,[])
 | .nil=>(.nil,[])
 | .d t v=>(.d t,[⟨t,v⟩])
 | .ol k=>(.ol k,[])
 | .bp k c=>(.bp k c,[])
 | .ep k i c=>(.ep k i c,[])
 | .tl k i=>(.tl k,[⟨.int .i64,(i:Ø)⟩])
 | .hd k i=>(.hd k,[⟨.int .i64,(i:Ø)⟩])
 | .ip ls=>(.ip (ls.map (·.t)),ls)
 | .clo f caps=>(.clo f (jgM caps).1,(jgM caps).2)
 | .clr f ks=>(.clr f ks,[])
def jy6:TV→O
 | ⟨.int _,v⟩=>Int.toNat v
 | _=>0
def LPat.n:LPat→O
 | .d _=>1
 | .tl _=>1
 | .hd _=>1
 | .ip ts=>ts.length
 | .clo _ cs=>jst cs
 | _=>0
def ju6:LPat→D TV→Leaf
 | .dead,_=> .dead
 | .nil,_=> .nil
 | .d _,xs=> .d (xs.headD tv0).t (xs.headD tv0).v
 | .ol k,_=> .ol k
 | .bp k c,_=> .bp k c
 | .ep k i c,_=> .ep k i c
 | .tl k,xs=> .tl k (jy6 (xs.headD tv0))
 | .hd k,xs=> .hd k (jy6 (xs.headD tv0))
 | .ip ts,xs=> .ip (xs.take ts.length)
 | .clo f cs,xs=> .clo f (jss cs xs)
 | .clr f ks,_=> .clr f ks
theorem ju7 (l:Leaf) (r:D TV):ju6 (jkO l).1 ((jkO l).2++r)=l∧(jkO l).1.n=(jkO l).2.length:=by
 cases l with
 | ip ls=>simp [jkO,ju6,LPat.n]
 | clo f cs=>
  have:=jmy cs r
  simp only [jkO,ju6,LPat.n]
  exact ⟨by rw [this.1],this.2⟩
 | _=>exact ⟨rfl,rfl⟩
def j7E:D Leaf→D LPat×D TV
 | []=>([],[])
 | c::cs=>((jkO c).1::(j7E cs).1,(jkO c).2++(j7E cs).2)
def jhO:D LPat→D TV→D Leaf
 | [],_=>[]
 | c::cs,xs=>ju6 c xs::jhO cs (xs.drop c.n)
def jhP:D LPat→O
 | []=>0
 | c::cs=>c.n+jhP cs
theorem jgN:∀ (cs:D Leaf) (r:D TV),jhO (j7E cs).1 ((j7E cs).2++r)=cs∧jhP (j7E cs).1=(j7E cs).2.length
 | [],r=>⟨rfl,rfl⟩
 | c::cs,r=>by
  simp only [j7E,jhO,jhP,jr,jo]
  have h1:=ju7 c ((j7E cs).2++r)
  have h2:=jgN cs r
  rw [h1.1,h1.2,vr,h2.1,h2.2]
  exact ⟨rfl,rfl⟩
def celP:Cel→KPat×D TV
 | .one l=>(.one (jkO l).1,(jkO l).2)
 | .st ls=>(.st (j7E ls).1,(j7E ls).2)
 | .av n a xs=>(.av n a,[⟨.list a,xs⟩])
def joc (a:Ty) (xs:D TV):D a.den:=((xs.headD tv0).to (.list a)).getD []
theorem jfU (a:Ty) (xs:D a.den) (r:D TV):joc a (⟨.list a,xs⟩::r)=xs:=by
 simp [joc,TV.to]
def KPat.n:KPat→O
 | .one l=>l.n
 | .st ls=>jhP ls
 | .av _ _=>1
def celF:KPat→D TV→Cel
 | .one l,xs=> .one (ju6 l xs)
 | .st ls,xs=> .st (jhO ls xs)
 | .av n a,xs=> .av n a (joc a xs)
theorem jz9 (c:Cel) (r:D TV):celF (celP c).1 ((celP c).2++r)=c∧(celP c).1.n=(celP c).2.length:=by
 cases c with
 | one l=>have:=ju7 l r;exact ⟨by simp only [celP,celF];rw [this.1],this.2⟩
 | st ls=>have:=jgN ls r;exact ⟨by simp only [celP,celF];rw [this.1],this.2⟩
 | av n a xs=>exact ⟨by simp only [celP,celF,Ë,kg];rw [jfU],rfl⟩
def bsP:BS→BPat×D TV
 | .free=>(.free,[])
 | .gone=>(.gone,[])
 | .live (.cell ls f)=>(.cell (j7E ls).1 f,(j7E ls).2)
 | .live (.lst e a xs f)=>(.lst e a f,[⟨.list a,xs⟩])
 | .live (.arr n a xs)=>(.arr n a,[⟨.list a,xs⟩])
 | .live (.row e a n ls)=>(.row e a n (j7E ls).1,(j7E ls).2)
def BPat.n:BPat→O
 | .free | .gone=>0
 | .cell ls _=>jhP ls
 | .lst _ _ _=>1
 | .arr _ _=>1
 | .row _ _ _ ls=>jhP ls
def bsF:BPat→D TV→BS
 | .free,_=> .free
 | .gone,_=> .gone
 | .cell ls f,xs=> .live (.cell (jhO ls xs) f)
 | .lst e a f,xs=> .live (.lst e a (joc a xs) f)
 | .arr n a,xs=> .live (.arr n a (joc a xs))
 | .row e a n ls,xs=> .live (.row e a n (jhO ls xs))
theorem jAa (c:BS) (r:D TV):bsF (bsP c).1 ((bsP c).2++r)=c∧(bsP c).1.n=(bsP c).2.length:=by
 cases c with
 | free=>exact ⟨rfl,rfl⟩
 | gone=>exact ⟨rfl,rfl⟩
 | live b=>
  cases b with
  | cell ls f=>have:=jgN ls r;exact ⟨by simp only [bsP,bsF];rw [this.1],this.2⟩
  | lst e a xs f=>exact ⟨by simp only [bsP,bsF,Ë,kg];rw [jfU],rfl⟩
  | arr n a xs=>exact ⟨by simp only [bsP,bsF,Ë,kg];rw [jfU],rfl⟩
  | row e a n ls=>have:=jgN ls r;exact ⟨by simp only [bsP,bsF];rw [this.1],this.2⟩
def itP:Item→IPat×D TV
 | .s c=>(.s (celP c).1,(celP c).2)
 | .b x=>(.b (bsP x).1,(bsP x).2)
def IPat.n:IPat→O
 | .s c=>c.n
 | .b x=>x.n
def itF:IPat→D TV→Item
 | .s c,xs=> .s (celF c xs)
 | .b x,xs=> .b (bsF x xs)
theorem jza (c:Item) (r:D TV):itF (itP c).1 ((itP c).2++r)=c∧(itP c).1.n=(itP c).2.length:=by
 cases c with
 | s c=>have:=jz9 c r;exact ⟨by simp only [itP,itF];rw [this.1],this.2⟩
 | b x=>have:=jAa x r;exact ⟨by simp only [itP,itF];rw [this.1],this.2⟩
def jep:Snap→D IPat×D TV
 | []=>([],[])
 | c::cs=>((itP c).1::(jep cs).1,(itP c).2++(jep cs).2)
def jpT:D IPat→D TV→Snap
 | [],_=>[]
 | c::cs,xs=>itF c xs::jpT cs (xs.drop c.n)
theorem ju8:∀ (cs:Snap),jpT (jep cs).1 (jep cs).2=cs
 | []=>rfl
 | c::cs=>by
  simp only [jep,jpT]
  have h1:=jza c (jep cs).2
  rw [h1.1,h1.2,vr,ju8 cs]
def pack (ps:D IPat) (ts:D Ty) (h:HL ts):Snap:=jpT ps (ofHL ts h)
def jeq (ps:D IPat) (ts:D Ty) (s:Snap):I (HL ts):=
 if (jep s).1=ps then toHL ts (jep s).2 else X
theorem jcu {ps:D IPat} {ts:D Ty} {s:Snap} {h:HL ts} (hs:jeq ps ts s=J h):s=pack ps ts h:=by
 unfold jeq at hs
 split at hs
 ·rename_i hp
  have:=jmx hs
  rw [pack,←this,←hp,ju8]
 ·simp at hs
def argP:Arg→APat×D TV
 | .v x=>(.v x.t,[x])
 | .ref ls=>(.ref (ls.map (·.t)),ls)
 | .rl e x=>(.rl e x.t,[x])
 | .ip ls=>(.ip (ls.map (·.t)),ls)
 | .clo f cs=>(.clo f (jgM cs).1,(jgM cs).2)
 | .mv e x=>(.mv e x.t,[x])
def APat.n:APat→O
 | .v _=>1
 | .ref ts=>ts.length
 | .rl _ _=>1
 | .ip ts=>ts.length
 | .clo _ cs=>jst cs
 | .mv _ _=>1
def argF:APat→D TV→Arg
 | .v _,xs=> .v (xs.headD tv0)
 | .ref ts,xs=> .ref (xs.take ts.length)
 | .rl e _,xs=> .rl e (xs.headD tv0)
 | .ip ts,xs=> .ip (xs.take ts.length)
 | .clo f cs,xs=> .clo f (jss cs xs)
 | .mv e _,xs=> .mv e (xs.headD tv0)
theorem jzb (c:Arg) (r:D TV):argF (argP c).1 ((argP c).2++r)=c∧(argP c).1.n=(argP c).2.length:=by
 cases c with
 | v x=>exact ⟨rfl,rfl⟩
 | rl e x=>exact ⟨rfl,rfl⟩
 | mv e x=>exact ⟨rfl,rfl⟩
 | ref ls=>simp [argP,argF,APat.n]
 | ip ls=>simp [argP,argF,APat.n]
 | clo f cs=>
  have:=jmy cs r
  exact ⟨by simp only [argP,argF];rw [this.1],this.2⟩
def jmz:D Arg→D APat×D TV
 | []=>([],[])
 | c::cs=>((argP c).1::(jmz cs).1,(argP c).2++(jmz cs).2)
def ju9:D APat→D TV→D Arg
 | [],_=>[]
 | c::cs,xs=>argF c xs::ju9 cs (xs.drop c.n)
theorem jua:∀ (cs:D Arg),ju9 (jmz cs).1 (jmz cs).2=cs
 | []=>rfl
 | c::cs=>by
  simp only [jmz,ju9]
  have h1:=jzb c (jmz cs).2
  rw [h1.1,h1.2,vr,jua cs]
def jjN (ps:D APat) (ts:D Ty) (h:HL ts):D Arg:=ju9 ps (ofHL ts h)
def jmA (ps:D APat) (ts:D Ty) (s:D Arg):I (HL ts):=
 if (jmz s).1=ps then toHL ts (jmz s).2 else X
theorem jhQ {ps:D APat} {ts:D Ty} {s:D Arg} {h:HL ts} (hs:jmA ps ts s=J h):s=jjN ps ts h:=by
 unfold jmA at hs
 split at hs
 ·rename_i hp
  have:=jmx hs
  rw [jjN,←this,←hp,jua]
 ·simp at hs
theorem jjO {α β:Type} {f:α→I (α ⊕ β)}:∀ {n m:O} {s:α} {x y:β},loopN f n s=J x→loopN f m s=J y→x=y
 | 0,_,_,_,_,h,_=>by simp [loopN] at h
 | _+1,0,_,_,_,_,h=>by simp [loopN] at h
 | n+1,m+1,s,x,y,h,h'=>by
  simp only [loopN] at h h'
  cases hf:f s with
  | none=>simp [hf] at h
  | some r=>
   cases r with
   | inl s'=>simp only [hf] at h h';exact jjO h h'
   | inr z=>simp only [hf,jb] at h h';rw [←h,←h']
open Classical in
def loopOpt {α β:Type} (f:α→I (α ⊕ β)) (s:α):I β:=
 match loopN f 100000 s with
 | some x=>J x
 | none=>if h:∃ x n,loopN f n s=J x then J h.choose else X
theorem jcv {α β:Type} {f:α→I (α ⊕ β)} {s:α} {n:O} {x:β} (h:loopN f n s=J x):loopOpt f s=J x:=by
 unfold loopOpt
 split
 ·rename_i y hy
  rw [jjO hy h]
 have hx:∃ x n,loopN f n s=J x:=⟨x,n,h⟩
 rw [dif_pos hx]
 obtain ⟨m,hm⟩:=hx.choose_spec
 rw [jjO hm h]
theorem jcw {α β:Type} {f:α→I (α ⊕ β)} {s:α} {x:β} (h:loopOpt f s=J x):∃ n,loopN f n s=J x:=by
 unfold loopOpt at h
 split at h
 ·rename_i hy
  exact ⟨100000,by rw [hy,h]⟩
 split at h
 ·rename_i hx
  simp only [jb] at h
  obtain ⟨m,hm⟩:=hx.choose_spec
  exact ⟨m,by rw [←h];exact hm⟩
 ·simp at h
theorem jod {α β:Type} {f:α→I (α ⊕ β)} {s s':α} (h:f s=J (.inl s')):loopOpt f s=loopOpt f s':=by
 cases hq:loopOpt f s' with
 | some x=>
  obtain ⟨n,hn⟩:=jcw hq
  exact jcv (n:=n+1) (by simp only [loopN,h];exact hn)
 | none=>
  cases hp:loopOpt f s with
  | none=>rfl
  | some x=>
   obtain ⟨n,hn⟩:=jcw hp
   cases n with
   | zero=>simp [loopN] at hn
   | succ n=>
    simp only [loopN,h] at hn
    rw [jcv hn] at hq
    simp at hq
theorem jpU {α β:Type} {f:α→I (α ⊕ β)} {s:α} {x:β} (h:f s=J (.inr x)):loopOpt f s=J x:=
 jcv (n:=1) (by simp only [loopN,h])
theorem joe {α β A B:Type} {f:α→I (α ⊕ β)} {g:A→I (A ⊕ B)} {p:A→α} {q:B→β}
  (h:∀ a r,g a=J r→f (p a)=J (match r with | .inl a'=> .inl (p a') | .inr b=> .inr (q b))):∀ {n:O} {a:A} {x:B},loopN g n a=J x→loopN f n (p a)=J (q x)
 | 0,_,_,hn=>by simp [loopN] at hn
 | n+1,a,x,hn=>by
  simp only [loopN] at hn
  cases hg:g a with
  | none=>simp [hg] at hn
  | some r=>
   have:=h a r hg
   cases r with
   | inl a'=>simp only [hg] at hn;simp only [loopN,this];exact joe h hn
   | inr b=>simp only [hg,jb] at hn;subst hn;simp only [loopN,this]
def sumC {α β γ:Type} (x:α ⊕ β) (f:α→γ) (g:β→γ):γ:=match x with
 | .inl a=>f a
 | .inr b=>g b
structure XD where
 ex:Ex
 ps:D IPat
 ts:D Ty
@[reducible] def XT:List XD→Type
 | []=>Empty
 | [x]=>HL x.ts
 | x::y::r=>HL x.ts ⊕ XT (y::r)
def jjP:(l:D XD)→XT l→Ex×Snap
 | [],h=>nomatch h
 | [x],h=>(x.ex,pack x.ps x.ts h)
 | x::y::r,h=>match h with
  | .inl a=>(x.ex,pack x.ps x.ts a)
  | .inr b=>jjP (y::r) b
def jub {R:Type}:(l:D XD)→XT l→(Ex→Snap→I R)→I R
 | [],_,_=>X
 | [x],h,k=>k x.ex (pack x.ps x.ts h)
 | x::y::r,h,k=>sumC h (fun a=>k x.ex (pack x.ps x.ts a)) (fun b=>jub (y::r) b k)
theorem jmB {R:Type}:∀ (l:D XD) (h:XT l) (k:Ex→Snap→I R),jub l h k=k (jjP l h).1 (jjP l h).2
 | [],h,_=>nomatch h
 | [x],h,k=>rfl
 | x::y::r,h,k=>by
  cases h with
  | inl a=>rfl
  | inr b=>exact jmB (y::r) b k
def unX:(l:D XD)→Ex→Snap→I (XT l)
 | [],_,_=>X
 | [x],e,s=>if e=x.ex then jeq x.ps x.ts s else X
 | x::y::r,e,s=>if e=x.ex∧(jep s).1=x.ps then match jeq x.ps x.ts s with
   | some a=>J (.inl a)
   | none=>X
  else match unX (y::r) e s with
   | some b=>J (.inr b)
   | none=>X
theorem jrk:∀ (l:D XD) (e:Ex) (s:Snap) (x:XT l),unX l e s=J x→jjP l x=(e,s)
 | [],_,_,_,h=>by simp [unX] at h
 | [x],e,s,h,he=>by
  simp only [unX] at he
  split at he
  ·rename_i h1
   rw [jjP,←jcu he,h1]
  ·simp at he
 | x::y::r,e,s,h,he=>by
  simp only [unX] at he
  split at he
  ·rename_i h1
   split at he
   ·rename_i a ha
    simp only [jb] at he;subst he
    show (x.ex,pack x.ps x.ts a)=(e,s)
    rw [←jcu ha,h1.1]
   ·simp at he
  ·split at he
   ·rename_i b hb
    simp only [jb] at he;subst he
    exact jrk (y::r) e s b hb
   ·simp at he
structure jer where
 b:O
 ps:D IPat
 ts:D Ty
 exits:D XD
 step:HL ts→I (HL ts ⊕ XT exits)
def jmC:D jer→O→Snap→(R:Type)→(Ex→Snap→I R)→I R
 | [],_,_,_,_=>X
 | d::ds,b,s,R,k=>if d.b=b then match jeq d.ps d.ts s with
   | some h=>(loopOpt d.step h).bind fun x=>jub d.exits x k
   | none=>X
  else jmC ds b s R k
theorem jjQ:∀ ds:D jer,LFun (jmC ds)
 | []=>fun _ _=>⟨X,fun _ _=>rfl⟩
 | d::ds=>fun b s=>by
  simp only [jmC]
  split
  ·split
   ·rename_i h _
    cases hq:loopOpt d.step h with
    | none=>exact ⟨X,fun _ _=>rfl⟩
    | some x=>exact ⟨J (jjP d.exits x),fun R k=>jmB d.exits x k⟩
   ·exact ⟨X,fun _ _=>rfl⟩
  ·exact jjQ ds b s
structure MrD where
 b:O
 m:O
 nm:O
 ps:D IPat
 ts:D Ty
 em:O
 v:Ty
 G:HL ts→Ø→v.den→(R:Type)→(v.den→I R)→I R
def mrL:D MrD→O→Snap→(R:Type)→(Snap→I R)→I R
 | [],_,_,_,_=>X
 | d::ds,b,s,R,k=>if d.b=b then match jeq d.ps d.ts s,jig d.em d.v s with
   | some h,J xs=>(jcX (fun q z=>d.G h q z d.v.den J) xs).bind fun ys=>k (j47 s d.em d.v ys)
   | _,_=>X
  else mrL ds b s R k
def mrF:D MrD→O→I (O×O)
 | [],_=>X
 | d::ds,b=>if d.b=b then J (d.m,d.nm) else mrF ds b
theorem jpV:∀ ds:D MrD,MFun (mrL ds)
 | []=>fun _ _=>⟨X,fun _ _=>rfl⟩
 | d::ds=>fun b s=>by
  simp only [mrL]
  split
  ·split
   ·rename_i h xs _ _
    cases jcX (fun q z=>d.G h q z d.v.den J) xs with
    | none=>exact ⟨X,fun _ _=>rfl⟩
    | some ys=>exact ⟨J (j47 s d.em d.v ys),fun _ _=>rfl⟩
   ·exact ⟨X,fun _ _=>rfl⟩
  ·exact jpV ds b s
theorem jwU {b m nm:O}:∀ {ds:D MrD},mrF ds b=J (m,nm)→∃ d∈ds,d.b=b∧d.m=m∧d.nm=nm∧∀ s R k,mrL ds b s R k=match jeq d.ps d.ts s,jig d.em d.v s with
   | some h,J xs=>(jcX (fun q z=>d.G h q z d.v.den J) xs).bind fun ys=>k (j47 s d.em d.v ys)
   | _,_=>X
 | [],h=>by simp [mrF] at h
 | d::ds,h=>by
  simp only [mrF] at h
  split at h
  ·rename_i hb
   simp only [jb,jf] at h
   refine ⟨d,smp_,hb,h.1,h.2,fun s R k=> ?_⟩
   simp only [mrL,hb,if_true]
  ·rename_i hb
   obtain ⟨d',hm,h1,h2,h3,h4⟩:=jwU h
   refine ⟨d',by simp [hm],h1,h2,h3,fun s R k=> ?_⟩
   rw [←h4]
   simp only [mrL,hb,zd]
def mrPd (b:O) (c:Ç):MrP:=(mrP b c).getD ⟨0,0,0,0,0, #[],.skip⟩
structure jy7 (E:Env) (c:Ç) (d:MrD):Prop where
 em:isM d.em=Y
 bx:∀ h zs,(j0J E.np (E.keep d.b) (j47 (pack d.ps d.ts h) d.em d.v zs)).bx d.nm = .live (.lst d.em (.pair (.int .i64) d.v) zs À)
 sl:∀ h zs,(j0J E.np (E.keep d.b) (j47 (pack d.ps d.ts h) d.em d.v zs)).sl d.m = .one (.one (.ol d.nm))
 step:∀ h zs q z (R:Type) (k:Snap→I R),jlk E d.b (mrPd d.b c) d.m (j47 (pack d.ps d.ts h) d.em d.v zs) d.v q z k=
  d.G h q z R (fun y=>k (j47 (pack d.ps d.ts h) d.em d.v (@j6J _ _ (Ty.int .i64).keq zs q y)))
theorem jy8 (t:Ty) (v:t.den):(TV.mk t v).to t=J v:=by simp [TV.to]
theorem jsu (s:Snap) (em:O) (v:Ty) (zs:D (Ø×v.den)):jig em v (j47 s em v zs)=J zs:=by
 unfold jig j47
 simp only [yd,vj,Option.some_or,if_true]
 exact jy8 (.list (.pair (.int .i64) v)) zs
theorem juc {em:O} {v:Ty} {s:Snap} {xs:D (Ø×v.den)} (h:jig em v s=J xs):s=j47 s em v xs:=by
 unfold jig at h
 split at h
 ·rename_i e a zs hl
  split at h
  ·rename_i he
   subst he
   have:=jfh h
   cases this
   obtain ⟨pre,rfl⟩:=List.getLast?_eq_some_iff.1 hl
   unfold j47
   rw [yc]
  ·simp at h
 ·simp at h
theorem jjR {α β:Type} {G:α→β→I β}:∀ {xs ys:D (α×β)},jcX G xs=J ys→All2 (fun x y=>y.1=x.1∧G x.1 x.2=J y.2) xs ys
 | [],ys,h=>by
  simp only [jcX,jb] at h
  subst h;trivial
 | x::r,ys,h=>by
  simp only [jcX] at h
  cases hg:G x.1 x.2 with
  | none=>rw [hg] at h;simp at h
  | some z=>
   rw [hg,ja] at h
   cases hr:jcX G r with
   | none=>rw [hr] at h;simp at h
   | some r'=>
    rw [hr,ja,jb] at h
    subst h
    exact ⟨⟨rfl,hg⟩,jjR hr⟩
theorem jy9 {E:Env} (hF:CFun E.C) (hz:E.nz=À) (hL:LFun E.L∧MFun E.M) {c:Ç} {ds:D MrD} {b:O} (hm:E.mr=mrF ds) (hM:E.M=mrL ds) (hs:∀ d∈ds,d.b=b→jy7 E c d):MrOK E b c:=by
 intro m nm p hb hp s R k r h
 rw [hm] at hb
 obtain ⟨d,hd,rfl,rfl,rfl,he⟩:=jwU hb
 have hok:=hs d hd rfl
 rw [hM,he] at h
 split at h
 case h_2=>simp at h
 rename_i hh xs hu hg
 cases hq:jcX (fun q z=>d.G hh q z d.v.den J) xs with
 | none=>rw [hq] at h;simp at h
 | some ys=>
 rw [hq,ja] at h
 obtain rfl:=jcu hu
 have hpd:mrPd d.b c=p:=by unfold mrPd;rw [hp];rfl
 refine ⟨d.em,d.v,xs,ys,hok.em,juc hg,fun zs=>⟨hok.bx hh zs,hok.sl hh zs⟩,(jjR hq).mono fun x y hxy=>⟨hxy.1,fun zs=> ?_⟩,h⟩
 obtain ⟨o,ho⟩:=jsq hF hz hL d.b p d.m (j47 (pack d.ps d.ts hh) d.em d.v []) d.v x.1 x.2
 have hst:=fun zs R k=>hok.step hh zs x.1 x.2 R k
 rw [hpd] at hst
 let inv:Snap→d.v.den:=fun s=>match jig d.em d.v s with
  | some ((_,y)::_)=>y
  | _=>d.v.dflt
 have hinv:∀ y,inv (j47 (pack d.ps d.ts hh) d.em d.v (@j6J _ _ (Ty.int .i64).keq [] x.1 y))=y:=fun y=>by
  show (match jig d.em d.v _ with
   | some ((_,y)::_)=>y
   | _=>d.v.dflt)=y
  rw [jsu]
  rfl
 have hG:∀ (R:Type) (κ:d.v.den→I R),d.G hh x.1 x.2 R κ=o.bind fun s=>κ (inv s):=fun R κ=>by
  rw [←ho]
  show _=jlk E d.b p d.m (j47 (pack d.ps d.ts hh) d.em d.v []) d.v x.1 x.2 fun s=>κ (inv s)
  rw [hst]
  congr 1
  funext y
  rw [hinv]
 rw [hst,hG]
 have h2:=hxy.2
 rw [hG] at h2
 cases o with
 | none=>simp at h2
 | some s0=>
  rw [ja,jb] at h2
  rw [ja,h2]
def mrAt (c:Ç) (b:O):Code:=(((j1z 0 c).find? fun x=>Nat.beq x.1 b).getD (0,.skip)).2
def jpW (E:Env) (c:Ç):D MrD→Prop
 | []=>Ö
 | d::ds=>jy7 E (mrAt c d.b) d∧jpW E c ds
theorem jpW.get {E:Env} {c:Ç}:∀ {ds:D MrD},jpW E c ds→∀ d∈ds,jy7 E (mrAt c d.b) d
 | [],_,d,h=>by simp at h
 | x::r,hs,d,h=>by
  rcases jl.1 h with rfl | h
  ·exact hs.1
  ·exact jpW.get hs.2 d h
theorem jud:∀ {l:D (O×Ç)} {x:O×Ç},(l.map (·.1)).Nodup→x∈l→l.find? (fun y=>Nat.beq y.1 x.1)=J x
 | [],x,_,h=>by simp at h
 | y::r,x,hn,h=>by
  have hc:=qx.1 (show (y.1::r.map (·.1)).Nodup from hn)
  rcases jl.1 h with rfl | h
  ·rw [Ð,Nat.beq_refl]
  ·have hne:y.1≠x.1:=fun e=>hc.1 (e▸kp.2 ⟨x,h,rfl⟩)
   rw [Ð,beqF hne]
   exact jud hc.2 h
def uk (E:Env) (d:jer) (e:Ex) (σ:St):I (HL d.ts ⊕ XT d.exits):=
 match e with
 | .normal=>match j5P E.np (E.keep d.b) σ with
  | some s=>match jeq d.ps d.ts s with
   | some h=>J (.inl h)
   | none=>X
  | none=>X
 | e=>match j5P E.np (E.keepX d.b e) σ with
  | some s=>match unX d.exits e s with
   | some x=>J (.inr x)
   | none=>X
  | none=>X
def ukR (E:Env) (d:jer) (ps:Ü O) (x y:Ç) (p:I (D Item)) (e:Ex) (σ:St):I (HL d.ts ⊕ XT d.exits):=
 match p,e with
 | some q,.normal=>match j5P E.np (E.keep d.b) σ with
  | some s=>match jeq d.ps d.ts (q++s) with
   | some h=>J (.inl h)
   | none=>X
  | none=>X
 | _,e=>cond (pinK ps x y (E.keepX d.b e)) (match j5P E.np (E.keepX d.b e) σ with
  | some s=>match unX d.exits e s with
   | some x=>J (.inr x)
   | none=>X
  | none=>X) X
def jw2 (E:Env) (d:jer) (h:HL d.ts):Ç→I (HL d.ts ⊕ XT d.exits)
 | .rangeFunc g ps x y=>jjh E d.b g ps x y (pack d.ps d.ts h) (ukR E d ps x y)
 | c=>j0S E d.b c (j0J E.np (E.keep d.b) (pack d.ps d.ts h)) (uk E d)
def jrl (E:Env) (c:Ç) (d:jer):Prop:=∀ h,jw2 E d h c=d.step h
def outS (d:jer) (r:HL d.ts ⊕ XT d.exits):Snap ⊕ Ex×Snap:=match r with
 | .inl a=> .inl (pack d.ps d.ts a)
 | .inr x=> .inr (jjP d.exits x)
theorem jzc {E:Env} (hF:CFun E.C) (hz:E.nz=À) (hL:LFun E.L∧MFun E.M) {g:Operand} {ps:Ü O} {x y:Ç} {d:jer} (hs:jrl E (.rangeFunc g ps x y) d) (h:HL d.ts) (r:HL d.ts ⊕ XT d.exits):d.step h=J r→
  jlj E d.b g ps x y (pack d.ps d.ts h)=J (outS d r):=by
 intro hr
 obtain ⟨o,ho⟩:=jpS hF hz hL d.b g ps x y (pack d.ps d.ts h)
 rw [←hs h] at hr
 have h1:J r=_:=hr.symm.trans (ho _ (fun z=>ukR E d ps x y z.1 z.2.1 z.2.2))
 cases o with
 | none=>simp at h1
 | some z=>
  obtain ⟨p,e,σ⟩:=z
  simp only [ja] at h1
  have h2:=ho _ (fun z:I (D Item)×Ex×St=>match z.1,z.2.1 with
   | some q,.normal=>match j5P E.np (E.keep d.b) z.2.2 with
    | some s'=>J (Sum.inl (q++s'))
    | none=>X
   | _,e=>cond (pinK ps x y (E.keepX d.b e)) (match j5P E.np (E.keepX d.b e) z.2.2 with
    | some s'=>J (Sum.inr (e,s'))
    | none=>X) X)
  have h3:jlj E d.b g ps x y (pack d.ps d.ts h)=_:=h2
  rw [h3,ja]
  clear h3 h2 hr ho
  dsimp only
  have h1:=h1.symm
  unfold ukR at h1
  have hx:∀ e,(cond (pinK ps x y (E.keepX d.b e)) (match j5P E.np (E.keepX d.b e) σ with
    | some s=>match unX d.exits e s with
     | some x=>J (Sum.inr x)
     | none=>X
    | none=>X) X:I (HL d.ts ⊕ XT d.exits))=J r→(cond (pinK ps x y (E.keepX d.b e)) (match j5P E.np (E.keepX d.b e) σ with
    | some s'=>J (Sum.inr (e,s'))
    | none=>X) X:I (Snap ⊕ Ex×Snap))=J (outS d r):=by
   intro e h1
   cases hp:pinK ps x y (E.keepX d.b e) with
   | false=>rw [hp] at h1;simp at h1
   | true=>
    rw [hp,jc] at h1
    rw [jc]
    split at h1
    ·rename_i s hs'
     split at h1
     ·rename_i hh hu
      simp only [jb] at h1;subst h1
      simp only [outS]
      rw [jrk _ _ _ _ hu]
     ·simp at h1
    ·simp at h1
  cases p with
  | none=>exact hx e h1
  | some q=>
   cases e with
   | normal=>
    dsimp only at h1 ⊢
    split at h1
    ·rename_i s hs'
     split at h1
     ·rename_i hh hu
      simp only [jb] at h1;subst h1
      simp only [outS]
      rw [←jcu hu]
     ·simp at h1
    ·simp at h1
   | exit i=>exact hx _ h1
   | ret=>exact hx _ h1
theorem jw3 {E:Env} (hF:CFun E.C) (hz:E.nz=À) (hL:LFun E.L∧MFun E.M) {c:Ç} {d:jer} (hs:∀ h,j0S E d.b c (j0J E.np (E.keep d.b) (pack d.ps d.ts h)) (uk E d)=d.step h) (h:HL d.ts) (r:HL d.ts ⊕ XT d.exits):d.step h=J r→
  jcY E d.b c (pack d.ps d.ts h)=J (match r with | .inl a=> .inl (pack d.ps d.ts a) | .inr x=> .inr (jjP d.exits x)):=by
 intro hr
 obtain ⟨o,ho⟩:=j92 hF hz hL c d.b (j0J E.np (E.keep d.b) (pack d.ps d.ts h))
 rw [←hs h] at hr
 have h1:J r=_:=hr.symm.trans (ho _ (fun z=>uk E d z.1 z.2))
 cases o with
 | none=>simp at h1
 | some z=>
  obtain ⟨e,σ⟩:=z
  simp only [ja] at h1
  have h2:=ho _ (fun z:Ex×St=>match z.1 with
   | .normal=>match j5P E.np (E.keep d.b) z.2 with
    | some s'=>J (Sum.inl s')
    | none=>X
   | e=>match j5P E.np (E.keepX d.b e) z.2 with
    | some s'=>J (Sum.inr (e,s'))
    | none=>X)
  have h3:jcY E d.b c (pack d.ps d.ts h)=_:=h2
  rw [h3,ja]
  clear h3 h2 hr ho
  dsimp only
  have h1:=h1.symm
  unfold uk at h1
  cases e with
  | normal=>
   dsimp only at h1 ⊢
   split at h1
   ·rename_i s hs'
    split at h1
    ·rename_i hh hu
     simp only [jb] at h1;subst h1
     dsimp only
     rw [←jcu hu]
    ·simp at h1
   ·simp at h1
  | exit i=>
   dsimp only at h1 ⊢
   split at h1
   ·rename_i s hs'
    split at h1
    ·rename_i hh hu
     simp only [jb] at h1;subst h1
     dsimp only
     rw [jrk _ _ _ _ hu]
    ·simp at h1
   ·simp at h1
  | ret=>
   dsimp only at h1 ⊢
   split at h1
   ·rename_i s hs'
    split at h1
    ·rename_i hh hu
     simp only [jb] at h1;subst h1
     dsimp only
     rw [jrk _ _ _ _ hu]
    ·simp at h1
   ·simp at h1
theorem jue {E:Env} (hF:CFun E.C) (hz:E.nz=À) (hL:LFun E.L∧MFun E.M) {c:Ç} {d:jer} (hs:jrl E c d)
  (he:∀ s R k,E.L d.b s R k=match jeq d.ps d.ts s with | some h=>(loopOpt d.step h).bind fun x=>jub d.exits x k | none=>X):jo3 E d.b c:=by
 intro s R k r h
 rw [he] at h
 split at h
 ·rename_i hl hu
  cases hq:loopOpt d.step hl with
  | none=>simp [hq] at h
  | some x=>
   rw [hq,ja,jmB] at h
   obtain ⟨n,hn⟩:=jcw hq
   refine ⟨n,(jjP d.exits x).1,(jjP d.exits x).2,?_,h⟩
   rw [jcu hu]
   exact joe (f:=jt1 E d.b c) (p:=pack d.ps d.ts) (q:=jjP d.exits) (fun a r hr=>by
    cases c with
    | rangeFunc g ps x y=>have:=jzc hF hz hL hs a r hr;cases r<;>exact this
    | _=>have:=jw3 hF hz hL hs a r hr;cases r<;>exact this) hn
 ·simp at h
def lpAt (c:Ç) (j:O):Code:=((j1z 0 c).getD j (0,.skip)).2
def jes (E:Env) (c:Ç):O→D jer→Prop
 | _,[]=>Ö
 | j,d::ds=>jrl E (lpAt c j) d∧jes E c (j+1) ds
theorem jes.get {E:Env} {c:Ç}:∀ {ds:D jer} {i j:O} {d:jer},jes E c i ds→ds[j]? = J d→jrl E (lpAt c (i+j)) d
 | [],_,_,_,_,h=>by simp at h
 | x::xs,i,0,d,hs,h=>by simp at h;subst h;exact hs.1
 | x::xs,i,j+1,d,hs,h=>by
  have:=jes.get (i:=i+1) (j:=j) hs.2 (by simpa using h)
  rwa [show i+(j+1)=i+1+j by omega]
theorem jrm:∀ {ds:D jer} {j:O} {d:jer},jbe (ds.map (·.b))=Y→ds[j]? = J d→∀ s R k,jmC ds d.b s R k=match jeq d.ps d.ts s with | some h=>(loopOpt d.step h).bind fun x=>jub d.exits x k | none=>X
 | [],_,_,_,h=>by simp at h
 | x::xs,0,d,_,h=>by simp at h;subst h;intro s R k;simp only [jmC,if_true]
 | x::xs,j+1,d,hn,h=>by
  simp only [qu,jbe,ji,qd,qi,ko] at hn
  have hm:d∈xs:=ki (by simpa using h)
  have hne:x.b≠d.b:=fun e=>hn.1 (e▸kp.2 ⟨d,hm,rfl⟩)
  intro s R k
  simp only [jmC,hne,zd]
  exact jrm (j:=j) hn.2 (by simpa using h) s R k
theorem jw4 {E:Env} (hF:CFun E.C) (hz:E.nz=À) {c:Ç} {ds:D jer} (hE:E.L=jmC ds) (hm:(j1z 0 c).map (·.1)=ds.map (·.b)) (hn:jbe (ds.map (·.b))=Y) (hs:jes E c 0 ds) {ms:D MrD} (hmr:E.mr=mrF ms) (hM:E.M=mrL ms) (hms:jpW E c ms) :
  ∀ x∈j1z 0 c,jo3 E x.1 x.2∧MrOK E x.1 x.2:=by
 intro x hx
 have hLM:LFun E.L∧MFun E.M:=⟨hE▸jjQ ds,hM▸jpV ms⟩
 have hnd:((j1z 0 c).map (·.1)).Nodup:=hm▸j8n hn
 refine ⟨?_,jy9 hF hz hLM hmr hM fun d hd hb=> ?_⟩
 rotate_left
 ·have:=hms.get d hd
  unfold mrAt at this
  rw [hb,jud hnd hx] at this
  exact this
 obtain ⟨j,hj⟩:=za.1 hx
 have hjm:(ds.map (·.b))[j]? = J x.1:=by rw [←hm];simp [hj]
 rw [qn] at hjm
 cases hd:ds[j]? with
 | none=>simp [hd] at hjm
 | some d=>
  simp only [hd,kz,jb] at hjm
  have h1:=jes.get hs hd
  rw [kj] at h1
  have h2:lpAt c j=x.2:=by simp [lpAt,List.getD,hj]
  rw [h2] at h1
  have:=jue (E:=E) hF hz hLM h1 (fun s R k=>by rw [hE];exact jrm hn hd s R k)
  rwa [hjm] at this
inductive VPat where
 | v (t:Ty)
 | own (e:O) (t:Ty)
 | box (ts:D Ty)
 | hd
 | vn (t:Ty) (ns:D O)
 | clo (f:O) (caps:D CPat)
 | so (ls:D (I O×Ty))
 | raw (ns:D O) (ps:D IPat)
 deriving Â
inductive OPat where
 | ref (ts:D Ty)
 | rl (t:Ty)
 deriving Â
def rlP:RL→(I O×Ty)×TV
 | .d x=>((X,x.t),x)
 | .own e x=>((J e,x.t),x)
def rlsF:D (I O×Ty)→D TV→D RL
 | [],_=>[]
 | (X,_)::ps,xs=> .d (xs.headD tv0)::rlsF ps xs.tail
 | (J e,_)::ps,xs=> .own e (xs.headD tv0)::rlsF ps xs.tail
theorem juf:∀ (ls:D RL) (r:D TV),rlsF (ls.map fun l=>(rlP l).1) ((ls.map fun l=>(rlP l).2)++r)=ls
 | [],r=>rfl
 | .d x::ls,r=>by
  have:=juf ls r
  show RL.d _::rlsF _ (_++r)=_
  rw [this];rfl
 | .own e x::ls,r=>by
  have:=juf ls r
  show RL.own e _::rlsF _ (_++r)=_
  rw [this];rfl
def jw5:D IPat→O
 | []=>0
 | c::cs=>c.n+jw5 cs
theorem jpX:∀ (cs:Snap) (r:D TV),jpT (jep cs).1 ((jep cs).2++r)=cs∧jw5 (jep cs).1=(jep cs).2.length
 | [],r=>⟨rfl,rfl⟩
 | c::cs,r=>by
  simp only [jep,jpT,jw5,jr,jo]
  have h1:=jza c ((jep cs).2++r)
  have h2:=jpX cs r
  rw [h1.1,h1.2,vr,h2.1,h2.2]
  exact ⟨rfl,rfl⟩
def rvP:RV→VPat×D TV
 | .v x=>(.v x.t,[x])
 | .own e x=>(.own e x.t,[x])
 | .box ls=>(.box (ls.map (·.t)),ls)
 | .hd n=>(.hd,[⟨.int .i64,(n:Ø)⟩])
 | .vn x ns=>(.vn x.t ns,[x])
 | .clo f caps=>(.clo f (jgM caps).1,(jgM caps).2)
 | .so ls=>(.so (ls.map fun l=>(rlP l).1),ls.map fun l=>(rlP l).2)
 | .raw ns s=>(.raw ns (jep s).1,(jep s).2)
def VPat.n:VPat→O
 | .v _=>1
 | .own _ _=>1
 | .box ts=>ts.length
 | .hd=>1
 | .vn _ _=>1
 | .clo _ cs=>jst cs
 | .so ls=>ls.length
 | .raw _ ps=>jw5 ps
def rvF:VPat→D TV→RV
 | .v _,xs=> .v (xs.headD tv0)
 | .own e _,xs=> .own e (xs.headD tv0)
 | .box ts,xs=> .box (xs.take ts.length)
 | .hd,xs=> .hd (jy6 (xs.headD tv0))
 | .vn _ ns,xs=> .vn (xs.headD tv0) ns
 | .clo f cs,xs=> .clo f (jss cs xs)
 | .so ls,xs=> .so (rlsF ls xs)
 | .raw ns ps,xs=> .raw ns (jpT ps xs)
theorem jAb (c:RV) (r:D TV):rvF (rvP c).1 ((rvP c).2++r)=c∧(rvP c).1.n=(rvP c).2.length:=by
 cases c with
 | v x=>exact ⟨rfl,rfl⟩
 | own e x=>exact ⟨rfl,rfl⟩
 | hd n=>exact ⟨rfl,rfl⟩
 | vn x ns=>exact ⟨rfl,rfl⟩
 | box ls=>simp [rvP,rvF,VPat.n]
 | clo f cs=>
  have:=jmy cs r
  simp only [rvP,rvF,VPat.n]
  exact ⟨by rw [this.1],this.2⟩
 | so ls=>exact ⟨by simp only [rvP,rvF];rw [juf],by simp [rvP,VPat.n]⟩
 | raw ns s=>exact ⟨by simp only [rvP,rvF];rw [(jpX s r).1],(jpX s r).2⟩
def outP:Out→OPat×D TV
 | .ref ls=>(.ref (ls.map (·.t)),ls)
 | .rl x=>(.rl x.t,[x])
def OPat.n:OPat→O
 | .ref ts=>ts.length
 | .rl _=>1
def outF:OPat→D TV→Out
 | .ref ts,xs=> .ref (xs.take ts.length)
 | .rl _,xs=> .rl (xs.headD tv0)
theorem jzd (c:Out) (r:D TV):outF (outP c).1 ((outP c).2++r)=c∧(outP c).1.n=(outP c).2.length:=by
 cases c with
 | rl x=>exact ⟨rfl,rfl⟩
 | ref ls=>simp [outP,outF,OPat.n]
def rvsP:D RV→D VPat×D TV
 | []=>([],[])
 | c::cs=>((rvP c).1::(rvsP cs).1,(rvP c).2++(rvsP cs).2)
def rvsF:D VPat→D TV→D RV
 | [],_=>[]
 | c::cs,xs=>rvF c xs::rvsF cs (xs.drop c.n)
def rvsN:D VPat→O
 | []=>0
 | c::cs=>c.n+rvsN cs
theorem jug:∀ (cs:D RV) (r:D TV),rvsF (rvsP cs).1 ((rvsP cs).2++r)=cs∧rvsN (rvsP cs).1=(rvsP cs).2.length
 | [],r=>⟨rfl,rfl⟩
 | c::cs,r=>by
  simp only [rvsP,rvsF,rvsN,jr,jo]
  have h1:=jAb c ((rvsP cs).2++r)
  have h2:=jug cs r
  rw [h1.1,h1.2,vr,h2.1,h2.2]
  exact ⟨rfl,rfl⟩
def jof:D Out→D OPat×D TV
 | []=>([],[])
 | c::cs=>((outP c).1::(jof cs).1,(outP c).2++(jof cs).2)
def jw6:D OPat→D TV→D Out
 | [],_=>[]
 | c::cs,xs=>outF c xs::jw6 cs (xs.drop c.n)
theorem juh:∀ (cs:D Out) (r:D TV),jw6 (jof cs).1 ((jof cs).2++r)=cs
 | [],r=>rfl
 | c::cs,r=>by
  simp only [jof,jw6,jr]
  have h1:=jzd c ((jof cs).2++r)
  rw [h1.1,h1.2,vr,juh cs r]
structure RPat where
 vs:D VPat
 os:D OPat
 deriving Â
def jkP (rp:RPat) (ts:D Ty) (h:HL ts):Ret:=⟨rvsF rp.vs (ofHL ts h),jw6 rp.os ((ofHL ts h).drop (rvsN rp.vs))⟩
def jmD (rp:RPat) (ts:D Ty) (r:Ret):I (HL ts):=
 if (rvsP r.vals).1=rp.vs∧(jof r.outs).1=rp.os then toHL ts ((rvsP r.vals).2++(jof r.outs).2) else X
theorem jsv {rp:RPat} {ts:D Ty} {r:Ret} {h:HL ts} (hs:jmD rp ts r=J h):r=jkP rp ts h:=by
 unfold jmD at hs
 split at hs
 ·rename_i hp
  have:=jmx hs
  unfold jkP
  rw [←this,←hp.1,←hp.2,(jug r.vals _).1,(jug r.vals []).2,vr]
  have h2:=juh r.outs []
  rw [ql] at h2
  rw [h2]
 ·simp at hs
structure Con where
 f:O
 ps:D APat
 ts:D Ty
 rp:RPat
 rs:D Ty
 F:HL ts→I (HL rs)
def Con.C (c:Con) (args:D Arg) (R:Type) (k:Ret→I R):I R:=
 match jmA c.ps c.ts args with
 | some h=>(c.F h).bind fun x=>k (jkP c.rp c.rs x)
 | none=>X
def Con.OK (P:Z) (c:Con):Prop:=FnOK P c.f c.C
def conC:D Con→O→D Arg→(R:Type)→(Ret→I R)→I R
 | [],_,_,_,_=>X
 | c::cs,f,args,R,k=>if c.f=f then (if (jmz args).1=c.ps then c.C args R k else conC cs f args R k) else conC cs f args R k
theorem jui {P:Z} {f:O}:FnOK P f (fun _ _ _=>X):=by
 intro args R k r h;simp at h
def juj (P:Z):D Con→Prop
 | []=>Ö
 | c::cs=>c.OK P∧juj P cs
theorem jjS {P:Z}:∀ cs:D Con,juj P cs→j7n P (conC cs)
 | [],_,_=>jui
 | c::cs,h,f=>by
  have ih:=jjS cs h.2 f
  intro args R k r hk
  simp only [conC] at hk
  split at hk
  ·rename_i hf;subst hf
   split at hk
   ·exact h.1 args R k r hk
   ·exact ih args R k r hk
  ·exact ih args R k r hk
theorem jmE:∀ cs:D Con,CFun (conC cs)
 | []=>fun _ _=>⟨X,fun _ _=>rfl⟩
 | c::cs=>fun f args=>by
  have ih:=jmE cs f args
  simp only [conC]
  split
  ·split
   ·unfold Con.C
    split
    ·rename_i h _
     cases hq:c.F h with
     | none=>exact ⟨X,fun _ _=>rfl⟩
     | some x=>exact ⟨J (jkP c.rp c.rs x),fun _ _=>rfl⟩
    ·exact ⟨X,fun _ _=>rfl⟩
   ·exact ih
  ·exact ih
def jya:D (O×Keep)→O→Keep
 | [],_=>⟨[],[],[],[]⟩
 | x::r,b=>if x.1=b then x.2 else jya r b
def juk:D (O×Ex×Keep)→O→Ex→Keep
 | [],_,_=>⟨[],[],[],[]⟩
 | x::r,b,e=>if x.1=b∧x.2.1=e then x.2.2 else juk r b e
def jul:D (O×D Ä)→O→D Ä
 | [],_=>[]
 | x::r,b=>if x.1=b then x.2 else jul r b
def dwL:D (O×D (D O))→O→D (D O)
 | [],_=>[]
 | x::r,b=>if x.1=b then x.2 else dwL r b
def bwL:D (O×(Ä×Ty))→O→I (Ä×Ty)
 | [],_=>X
 | x::r,f=>if x.1=f then J x.2 else bwL r f
def jw7 (P:Z):D (O×(Ä×Ty))→Prop
 | []=>Ö
 | x::r=>BwK P x.1 x.2∧jw7 P r
theorem jwV {P:Z}:∀ {l:D (O×(Ä×Ty))},jw7 P l→∀ f t,bwL l f=J t→BwK P f t
 | [],_,f,t,h=>by simp [bwL] at h
 | x::r,hl,f,t,h=>by
  simp only [bwL] at h
  split at h
  ·rename_i e
   simp only [jb] at h
   rw [←e,←h]
   exact hl.1
  ·exact jwV hl.2 f t h
structure FnD where
 N:O
 np:O
 cs:D Con:=[]
 ds:D jer:=[]
 modes:D (O×D Ä):=[]
 keep:D (O×Keep):=[]
 keepX:D (O×Ex×Keep):=[]
 ro:D Bool:=[]
 dw:D (O×D (D O)):=[]
 hd:Bool:=À
 ns:D Nat:=[]
 bw:D (O×(Ä×Ty)):=[]
 so:D SoK:=[]
 cr:D Nat:=[]
 un:D Nat:=[]
 unr:Nat:=2
 pre:D (O×D Gh):=[]
 rw:Bool:=À
 rn:D Nat:=[]
 b1:D Nat:=[]
 ks:D Nat:=[]
 ms:D MrD:=[]
 mvf:D Nat:=[]
 pa:D (O×O×Ty):=[]
 sc:Bool:=À
def paL:D (O×O×Ty)→O→I (O×Ty)
 | [],_=>X
 | x::r,i=>if x.1=i then J x.2 else paL r i
def preL:D (O×D Gh)→O→D Gh
 | [],_=>[]
 | x::r,i=>if x.1=i then x.2 else preL r i
def FnD.env (d:FnD) (T:D (I TyI)):Env:=⟨⟨d.N,fun _=>À⟩,d.np,tab T,conC d.cs,jul d.modes,jmC d.ds,jya d.keep,juk d.keepX,d.ro,dwL d.dw,À,d.hd,d.ns,bwL d.bw,d.so,d.cr,fun b=>cond (d.un.contains b) d.unr 0,preL d.pre,d.rw,d.rn,d.b1,fun i=>d.ks.contains i,fun f=>d.mvf.contains f,mrF d.ms,mrL d.ms,paL d.pa,d.sc⟩
theorem jze {P:Z} {T:D (I TyI)} (hT:j1Q P (tab T)) (hmix:P.follows .mixedOrders=Y) (d:FnD) (con:Con) (fn:Func) (c:Ç) (hf:P.funcs[con.f]? = J fn) (hb:fn.body=J c)
  (hN : fn.ntmps = d.N) (hnp : d.np ≤ d.N) (hnm : (fn.name == "runtime.NumGoroutine") = À) (hcs : juj P d.cs) (hm : (j1z 0 c).map (·.1) = d.ds.map (·.b)) (hn : jbe (d.ds.map (·.b)) = Y)
  (hs:jes (d.env T) c 0 d.ds) (hF:∀ h,jgy (d.env T) fn (jjN con.ps con.ts h) (jmD con.rp con.rs)=con.F h) (hbw:jw7 P d.bw:=by trivial) (hms:jpW (d.env T) c d.ms:=by trivial):con.OK P:=by
 have hC:j7n P (d.env T).C:=jjS d.cs hcs
 have hfun:CFun (d.env T).C:=jmE d.cs
 have hL:LFun (d.env T).L∧MFun (d.env T).M:=⟨jjQ d.ds,jpV d.ms⟩
 have hfn:=jri (E:=d.env T) hT hC hfun hmix hf hb hN rfl (jwV hbw) hnp hnm (jw4 hfun rfl rfl hm hn hs rfl rfl hms)
 intro args R k r hk
 unfold Con.C at hk
 split at hk
 ·rename_i h hu
  rw [jhQ hu]
  cases hq:con.F h with
  | none=>simp [hq] at hk
  | some x=>
   rw [hq,ja] at hk
   refine hfn _ R k r ?_
   obtain ⟨o,ho⟩:=jsr hfun rfl hL fn (jjN con.ps con.ts h)
   have h1:J x=_:=((hF h).trans hq).symm.trans (ho _ _)
   cases o with
   | none=>simp at h1
   | some ret=>
    rw [ja] at h1
    show jgy (d.env T) fn (jjN con.ps con.ts h) k=J r
    refine (ho _ _).trans ?_
    rw [ja,jsv h1.symm]
    exact hk
 ·simp at hk
theorem cOf {P:Z} {T:D (I TyI)} (hT:j1Q P (tab T)) (hmix:P.follows .mixedOrders=Y) (d:FnD) (con:Con) {fn:Func} (hf:P.funcs[con.f]? = J fn) (hcs:juj P d.cs)
  (hs:jes (d.env T) (fn.body.getD .skip) 0 d.ds) (hbw:jw7 P d.bw:=by trivial) (hb:fn.body=J (fn.body.getD .skip):=by kernel_rfl) (hN:fn.ntmps=d.N:=by kernel_rfl)
  (hnp : Nat.ble d.np d.N = true := by kernel_rfl) (hnm : (fn.name == "runtime.NumGoroutine") = false := by kernel_rfl) (hm : (j1z 0 (fn.body.getD .skip)).map (·.1) = d.ds.map (·.b) := by kernel_rfl)
  (hn:jbe (d.ds.map (·.b))=true:=by kernel_rfl) (hF:∀ h,jgy (d.env T) fn (jjN con.ps con.ts h) (jmD con.rp con.rs)=con.F h:=by intro h;kernel_rfl) (hms:jpW (d.env T) (fn.body.getD .skip) d.ms:=by trivial):con.OK P:=
 jze hT hmix d con fn _ hf hb hN (zb hnp) hnm hcs hm hn hs hF hbw hms
def jdb {α β:Type} (B:(α→I β)→α→I β):O→α→I β
 | 0,_=>X
 | n+1,a=>B (jdb B n) a
open Classical in
def jio {α β:Type} (B:(α→I β)→α→I β) (a:α):I β:=
 if h:∃ x n,jdb B n a=J x then J h.choose else X
theorem jum {α β:Type} {B:(α→I β)→α→I β} {a:α} {x:β} (h:jio B a=J x):∃ n,jdb B n a=J x:=by
 unfold jio at h
 split at h
 ·rename_i hx
  simp only [jb] at h
  obtain ⟨m,hm⟩:=hx.choose_spec
  exact ⟨m,by rw [←h];exact hm⟩
 ·simp at h
theorem jog {α β:Type} {B:(α→I β)→α→I β} {a:α} {x:β} (h1:∃ n,jdb B n a=J x) (h2:∀ n y,jdb B n a=J y→y=x):jio B a=J x:=by
 obtain ⟨n,hn⟩:=h1
 have hx:∃ x n,jdb B n a=J x:=⟨x,n,hn⟩
 unfold jio
 rw [dif_pos hx]
 obtain ⟨m,hm⟩:=hx.choose_spec
 rw [h2 m _ hm]
theorem jzf {P:Z} {f:O} {ps:D APat} {ts:D Ty} {rp:RPat} {rs:D Ty} {B:(HL ts→I (HL rs))→HL ts→I (HL rs)}
  (hstep:∀ g,Con.OK P ⟨f,ps,ts,rp,rs,g⟩→Con.OK P ⟨f,ps,ts,rp,rs,B g⟩):Con.OK P ⟨f,ps,ts,rp,rs,jio B⟩:=by
 have all:∀ n,Con.OK P ⟨f,ps,ts,rp,rs,jdb B n⟩:=by
  intro n
  induction n with
  | zero=>
   intro args R k r hk
   unfold Con.C at hk
   split at hk
   ·simp [jdb] at hk
   ·simp at hk
  | succ n ih=>exact hstep _ ih
 intro args R k r hk
 unfold Con.C at hk
 split at hk
 ·rename_i h hu
  cases hq:jio B h with
  | none=>simp [hq] at hk
  | some x=>
   obtain ⟨n,hn⟩:=jum hq
   refine all n args R k r ?_
   unfold Con.C
   rw [hu]
   dsimp only
   rw [hn]
   dsimp only at hk
   rw [hq] at hk
   exact hk
 ·simp at hk
def FnD.envN (d:FnD) (T:D (I TyI)):Env:=⟨⟨d.N,fun _=>À⟩,d.np,tab T,conC d.cs,jul d.modes,jmC d.ds,jya d.keep,juk d.keepX,d.ro,dwL d.dw,Y,d.hd,d.ns,fun _=>X,d.so,d.cr,fun _=>0,fun _=>[],À,[],[],fun _=>À,fun _=>À,fun _=>X,fun _ _ _ _=>X,fun _=>X,À⟩
theorem jun {α R:Type} (xs:D α) (K:D α→I R) {r:R} (h:(cond (Ã (([]:D α).length+xs.length≤j05)) (J (([]:D α)++xs)) X).bind K=J r) :
  jje (Ô xs) (K []) (cond (Ã (([]:D α).length+xs.length≤j05)) (K (([]:D α)++xs)) X)=J r:=by
 cases hd:Ã (([]:D α).length+xs.length≤j05) with
 | false=>rw [hd] at h;simp at h
 | true=>
  rw [hd] at h
  simp only [jc,ja] at h ⊢
  cases xs with
  | nil=>simp only [ql] at h ⊢;rw [jpp];exact h
  | cons x r=>exact h
theorem juo {P:Z} {T:D (I TyI)} (hT:j1Q P (tab T)) (hmix:P.follows .mixedOrders=Y) (d:FnD) (f:O) (a:Ty) (e:O) (fn:Func) (c:Ç) (hf:P.funcs[f]? = J fn) (hb:fn.body=J c)
  (hN : fn.ntmps = d.N) (hnp : d.np ≤ d.N) (hnm : (fn.name == "runtime.NumGoroutine") = À) (hcs : juj P d.cs) (hl : j1z 0 c = [])
  (hF:∀ (h:D a.den) (R:Type) (k:Ret→I R),jgy (d.envN T) fn [.v ⟨.list a,h⟩] k=jje (Ô h) (k ⟨[.own e ⟨.list a,([]:D a.den)⟩],[]⟩)
   (cond (Ã (([]:D a.den).length+Ï h≤j05)) (k ⟨[.own e ⟨.list a,([]:D a.den)++h⟩],[]⟩) X)) :
  Con.OK P ⟨f,[.v (.list a)],[.list a],⟨[.own e (.list a)],[]⟩,[.list a],fun h=>cond (Ã (([]:D a.den).length+Ï h≤j05)) (J (([]:D a.den)++h)) X⟩:=by
 have hC:j7n P (d.envN T).C:=jjS d.cs hcs
 have hfun:CFun (d.envN T).C:=jmE d.cs
 have hfn:=jri (E:=d.envN T) hT hC hfun hmix hf hb hN rfl (fun f t h=>by simp [FnD.envN] at h) hnp hnm (by rw [hl];simp)
 intro args R k r hk
 unfold Con.C at hk
 split at hk
 ·rename_i h hu
  rw [jhQ hu]
  refine hfn _ R k r ?_
  refine (hF h R k).trans ?_
  exact jun (α:=a.den) h (fun x=>k ⟨[.own e ⟨.list a,x⟩],[]⟩) hk
 ·simp at hk
def w64 (x:Ø):Int:=IntKind.wrap .i64 x
class LP where
 lp:{α β:Type}→(α→I (α ⊕ β))→α→I β
 rp:{α β:Type}→((α→I β)→α→I β)→α→I β
noncomputable instance realLP:LP:=⟨loopOpt,jio⟩
abbrev jAr (N:O):LP:=⟨fun f a=>loopN f N a,fun B a=>jdb B N a⟩
theorem j5C {x:Ø} (h1 : -9223372036854775808≤x) (h2:x≤9223372036854775807):w64 x=x:=IntWalk.i64_in x ⟨h1,h2⟩
def lpK {α β:Type} (r:I (α ⊕ β)) (f:α→I β):I β:=match r with
 | none=>X
 | some (.inl s)=>f s
 | some (.inr x)=>J x
theorem j06 {α β:Type} (s:α) (f:α→I β):lpK (J (.inl s)) f=f s:=rfl
theorem j08 {α β:Type} (x:β) (f:α→I β):lpK (J (.inr x)) f=J x:=rfl
theorem j7F {α β γ:Type} (x:α) (f:α→γ) (g:β→γ):sumC (.inl x) f g=f x:=rfl
theorem j48 {α β γ:Type} (x:β) (f:α→γ) (g:β→γ):sumC (.inr x) f g=g x:=rfl
theorem j03 {α β:Type} (f:α→I (α ⊕ β)) (s:α):loopOpt f s=lpK (f s) (loopOpt f):=by
 cases h:f s with
 | none=>
  cases hq:loopOpt f s with
  | none=>rfl
  | some x=>
   obtain ⟨n,hn⟩:=jcw hq
   cases n<;>simp [loopN,h] at hn
 | some r=>
  cases r with
  | inl s'=>exact jod h
  | inr x=>exact jpU h
section
variable {S0:j0e} {w0:Å} {refs:Refs}
end
section
variable {S0:j0e} {w0:Å} {refs:Refs}
def g3 (σ:St):I Int:=match σ.sl 3 with
 | .one (.one (.d (.int .i64) v))=>J v
 | _=>X
def g1 (σ:St):I (Ä×Ø):=match σ.sl 8,σ.sl 3 with
 | .one (.one (.d .bool b)),.one (.one (.d (.int .i64) v))=>J (b,v)
 | _,_=>X
def lstP (t:Ty) (xs:D t.den):Cel:= .one (.ip [⟨.list t,xs⟩])
end
section
variable {P:Z} {E:Env} {ops pre:Ü Oper} {cl:D O} {τ:O→St} {S0:j0e} {w0:Å} {refs:Ä→Refs}
end
section
variable {S0:j0e} {w0:Å} {refs:Refs}
def g7 (σ:St):I (Ä×Ø):=match σ.sl 7,σ.sl 3 with
 | .one (.one (.d .bool b)),.one (.one (.d (.int .i64) v))=>J (b,v)
 | _,_=>X
theorem Grew.trans {w w' w'':Å} (h:Grew w w') (h':Grew w' w''):Grew w w'':=
 ⟨fun g hg=>(h'.old g (zf hg h.size)).trans (h.old g hg),q7 h.size h'.size,h'.os.trans h.os,h'.tape.trans h.tape,h'.output.trans h.output⟩
end
open Go.RowKit Go.WideShapes Go.ChangeShapes
theorem jup {P:Z} {f:O} {ps:D APat} {ts:D Ty} {F:HL ts→I Ä} (hok:Con.OK P ⟨f,ps,ts,⟨[.v .bool],[]⟩,[.bool],F⟩) (h:HL ts) (hF:F h=J Y)
  (w:Å) (S:j0e) (vals:D Á) (ha:All2 (jbg S w) (jjN ps ts h) vals) (hr:j1J (jjN ps ts h) vals=[]) (hS:∀ g o,S g o→g<w.heap.size) (hu:jmA ps ts (jjN ps ts h)=J h) :
  Calls P f vals.toArray w fun e w'=>e = .returned (.bool Y)∧Below w.heap.size w w':=by
 have:=(hok (jjN ps ts h) Ret J (jkP ⟨[.v .bool],[]⟩ [.bool] Y) (by
  unfold Con.C
  rw [hu]
  show (F h).bind _=_
  rw [hF];rfl)).2
 refine (this w S vals ha (by rw [hr];exact List.nodup_nil) hS).mono ?_
 rintro e w' ⟨ret,hret,v,S',vs,rfl,hok⟩
 simp only [jb] at hret
 subst hret
 have hrep:All2 (jiC S' w') [.v ⟨.bool,Y⟩] vs:=hok.rep
 refine ⟨?_,hok.os,hok.tape,hok.output,hok.grow,fun k hk=>hok.below k hk (by rw [hr];simp)⟩
 rw [hok.val]
 match vs,hrep with
 | [u],hrep=>
  have h1:=hrep.1
  have h2:u.cells.toList=[.bool Y]∧(jb5 Ty.bool=Y→∃ cs,u=Value.agg cs)∧(jb5 Ty.bool=À→One u):=h1
  have h3:=jcl (h2.2.2 rfl)
  rw [h2.1] at h3
  simp only [yl,and_true] at h3
  rw [←h3]
  rfl
 | [],hrep=>exact absurd hrep (by simp [All2])
 | _::_::_,hrep=>exact absurd hrep (by simp [All2])
theorem jmF {H:Type} {enc:Æ×Á→H} {P:Z} {f:Func} {s:ChangeSpec} {apart fresh handsOn again:Ä} {W W':Å} {args:Ü Á} {v:Á} {ds gs:D (Í H)} {before pa pv:D È}
  (hW:DataW.Whole enc P f.params.toList s.vars apart W args.toList ds gs before)
  (hres:∀ (b:O) (sp:O→Ä) (hd:Ä),Ó enc P W' b sp hd f.resultTypes.toList (v.resultList f.resultTypes.size) (s.fn H (ds++gs)).results [])
  (hargs:∀ sp:O→Ä,(∀ p∈before,sp p.block=Y)→Ó enc P W' 0 sp Y f.params.toList args.toList (s.fn H (ds++gs)).args pa)
  (hvars:∀ sp:O→Ä,(∀ p∈before,sp p.block=Y)→DataW.TrodVars enc P W' sp s.vars (s.fn H (ds++gs)).vars pv)
  (hps:before=pa++pv) (hb:Below W.heap.size W W')
  (hok:∀ (j:O) (t:Æ) (r:Á),f.resultTypes[j]? = J t→(v.resultList f.resultTypes.size)[j]? = J r→É P W' .any 0 t r) :
  s.post enc P f apart fresh handsOn again W args v W':=by
 have hlt:∀ p∈before,p.block<W.heap.size:=fun p hp=>hW.lt p hp
 have hold:∀ p∈before,(fun b=>Ã (b<W.heap.size)) p.block=true:=fun p hp=>by simpa using hlt p hp
 refine ⟨ds,gs,before,[],pa,pv,hW,hres _ _ _,hargs _ hold,hvars _ hold,World.keptBut_mono (fun p hp=>⟨hp,?_⟩) (hb.frame (· ∈ before)),fun _=> ?_⟩
 ·rw [hps,js] at hp
  exact Or.inr hp
 ·obtain ⟨_,_,_,_,_,hz,hn⟩:=hW
  refine ⟨hok,_,_,([]++pa)++pv,⟨[]++pa,pv,trodAll_append (hargs _ (fun _ _=>rfl)) (hres _ _ _),hvars _ (fun _ _=>rfl),rfl,?_,?_⟩,?_⟩
  ·intro b off hp
   have hin:MemPlace.cell b off∈before:=by rw [hps];simpa using hp
   rw [hb.frozen (hlt _ hin)]
   exact hz b off hin
  ·intro ha
   have:=hn ha
   rw [hps] at this
   simpa using this
  ·intro p hp _
   rw [hps]
   simpa using hp
open Go.RowKit Go.WideShapes Go.ChangeShapes
def jip (P:Z) (f:Æ→Ty→Ä):D Field→O→Ty→Ä
 | [],_,_=>À
 | [x],off,b=>Ã (x.offset=off)&&Ã (P.cellsOf x.type=b.size)&&f x.type b
 | x::y::r,off,.pair a b=>Ã (x.offset=off)&&Ã (P.cellsOf x.type=a.size)&&f x.type a&&jip P f (y::r) (off+a.size) b
 | _,_,_=>À
def jhR (P:Z):O→Æ→Ty→Ä
 | 0,_,_=>À
 | n+1,t,ty=>match P.underlying t with
  | some (.int k)=>Ã (ty = .int k)
  | some .bool=>Ã (ty = .bool)
  | some .string=>Ã (ty = .str)
  | some (.slice e)=>match ty with
   | .list a=>jhR P n e a&&Ã (P.cellsOf e=a.size)&&Ã (0<a.size)
   | _=>À
  | some (.struct fs)=>Ã (P.cellsOf t=ty.size)&&match fs.toList,ty with
   | [x],.wrap a=>jip P (jhR P n) [x] 0 a
   | x::y::r,.pair a b=>jip P (jhR P n) (x::y::r) 0 (.pair a b)
   | _,_=>À
  | _=>À
def Wf:(t:Ty)→t.den→Prop
 | .int k,n=>(Lit.int k n).wf=Y
 | .bool,_=>Ö
 | .str,s=>s.size≤maxLen
 | .unit,_=>Ö
 | .wrap a,v=>Wf a v
 | .pair a b,v=>Wf a v.1∧Wf b v.2
 | .list a,xs=>Ï xs≤maxLen∧∀ x∈(show D a.den from xs),Wf a x
 | .arr _ _,_=>Ö
theorem jj4 {α β:Type} {f:α→I β}:∀ {l:D α} {ys:D β},l.mapM f=J ys→ys.length=l.length∧∀ (i:O) (x:α),l[i]? = J x→∃ y,ys[i]? = J y∧f x=J y
 | [],ys,h=>by
  simp at h;subst h
  exact ⟨rfl,fun i x hx=>by simp at hx⟩
 | a::l,ys,h=>by
  rw [v6] at h
  cases ha:f a with
  | none=>simp [ha] at h
  | some y=>
   cases hl:l.mapM f with
   | none=>simp [ha,hl] at h
   | some zs=>
    simp [ha,hl] at h
    subst h
    obtain ⟨h1,h2⟩:=jj4 hl
    refine ⟨by simp [h1],fun i x hx=> ?_⟩
    cases i with
    | zero=>simp at hx;subst hx;exact ⟨y,rfl,ha⟩
    | succ i=>simp at hx;obtain ⟨z,hz,hf⟩:=h2 i x hx;exact ⟨z,by simpa using hz,hf⟩
theorem jjT {α β:Type} {f:α→I β}:∀ {l:D α} {ys:D β},ys.length=l.length→(∀ (i:O) (x:α),l[i]? = J x→f x=ys[i]?)→l.mapM f=J ys
 | [],ys,h,_=>by
  have:ys=[]:=ka (by simpa using h)
  subst this;rfl
 | a::l,[],h,_=>by simp at h
 | a::l,y::ys,h,hg=>by
  have h0:f a=J y:=by simpa using hg 0 a rfl
  rw [v6,h0,jjT (ys:=ys) (by simpa using h) (fun i x hx=>by simpa using hg (i+1) x (by simpa using hx))]
  rfl
theorem jgO {α β:Type} {f g:α→I β}:∀ {l:D α} {ys:D β},l.mapM f=J ys→(∀ x∈l,∀ y,y∈ys→f x=J y→g x=J y)→l.mapM g=J ys
 | [],ys,h,_=>by simpa using h
 | a::l,ys,h,hk=>by
  rw [v6] at h ⊢
  cases ha:f a with
  | none=>simp [ha] at h
  | some y=>
   cases hl:l.mapM f with
   | none=>simp [ha,hl] at h
   | some zs=>
    simp [ha,hl] at h
    subst h
    rw [hk a smp_ y smp_ ha,jgO hl (fun x hx z hz hf=>hk x (by simp [hx]) z (by simp [hz]) hf)]
    rfl
theorem jjU {α:Type} {Q:O→α→Prop}:∀ n,(∀ i,i<n→∃ x,Q i x)→∃ xs:D α,xs.length=n∧∀ i x,xs[i]? = J x→Q i x
 | 0,_=>⟨[],rfl,fun i x h=>by simp at h⟩
 | n+1,h=>by
  obtain ⟨xs,hl,hx⟩:=jjU n (fun i hi=>h i omg_)
  obtain ⟨x,hq⟩:=h n omg_
  refine ⟨xs++[x],by simp [hl],fun i y hy=> ?_⟩
  rcases qt i n with hi | hi
  ·rw [Ê omg_] at hy;exact hx i y hy
  ·have:i=n:=by
    have:=(kb.1 hy).1
    simp [hl] at this;omega
   subst this
   rw [ku omg_,hl,Nat.sub_self] at hy
   simp at hy;subst hy;exact hq
theorem juq {α β:Type} {R:α→β→Prop}:∀ {as:D α} {bs:D β},as.length=bs.length→(∀ (i:O) (a:α) (b:β),as[i]? = J a→bs[i]? = J b→R a b)→All2 R as bs
 | [],[],_,_=>trivial
 | a::as,b::bs,hl,h=>⟨h 0 a b rfl rfl,juq (by simpa using hl) fun i x y hx hy=>h (i+1) x y (by simpa using hx) (by simpa using hy)⟩
 | [],_::_,hl,_=>by simp at hl
 | _::_,[],hl,_=>by simp at hl
theorem jlK {m:O}:∀ {css:D (D Á)},(∀ c∈css,c.length=m)→∀ {j:O} {v:Á},css.flatten[j]? = J v→∃ i r c,j=i*m+r∧r<m∧css[i]? = J c∧c[r]? = J v
 | [],_,j,v,h=>by simp at h
 | c::css,hl,j,v,h=>by
  simp only [kx] at h
  have hc:=hl c smp_
  rcases qt j c.length with hj | hj
  ·rw [Ê hj] at h
   exact ⟨0,j,c,omg_,omg_,rfl,h⟩
  ·rw [ku hj] at h
   obtain ⟨i,r,c',e,hr,hi,hv⟩:=jlK (fun x hx=>hl x (by simp [hx])) h
   exact ⟨i+1,r,c',by rw [Nat.add_mul];omega,hr,by simpa using hi,hv⟩
def Ext (W W':Å):Prop:=∀ (k:O) x,W.heap[k]? = J x→W'.heap[k]? = J x
theorem Ext.cell {W W':Å} (h:Ext W W') {a:Ý} {v:Á} (hc:W.cell? a=J v):W'.cell? a=J v:=by
 unfold World.cell? at hc ⊢
 split at hc
 ·rename_i c _ _ hb
  rw [h _ _ hb];exact hc
 ·simp at hc
theorem Ext.cells {W W':Å} (h:Ext W W') {a:Ý} {n:O} {cs:D Á} (hc:W.cells? 0 a n=J cs):W'.cells? 0 a n=J cs:=by
 unfold World.cells? at hc ⊢
 simp only [kq,if_true] at hc ⊢
 exact jgO hc fun i _ y _ hf=>h.cell hf
theorem jjV {W:Å} {a:Ý} {n:O} {cs:D Á} (hc:W.cells? 0 a n=J cs):cs.length=n∧∀ i v,cs[i]? = J v→W.cell? (a.add i)=J v:=by
 unfold World.cells? at hc
 simp only [kq,if_true] at hc
 obtain ⟨h1,h2⟩:=jj4 hc
 simp only [Î] at h1
 refine ⟨h1,fun i v hv=> ?_⟩
 have hi:i<n:=by rw [←h1];exact (kb.1 hv).1
 obtain ⟨y,hy,hf⟩:=h2 i i (by simp [hi])
 rw [hv] at hy;simp at hy;subst hy
 exact hf
theorem jlL {W:Å} {a:Ý} {v:Á} (h:W.cell? a=J v):a.block<W.heap.size∧a.spot=none:=by
 unfold World.cell? at h
 split at h
 ·rename_i c _ _ hb
  refine ⟨(jn.1 hb).1,?_⟩
  split at h
  ·simp at h
  ·rename_i hs;simpa using hs
 ·simp at h
def oldS (W:Å):j0e:=fun g _=>g<W.heap.size
def jur {H:Type} (enc:Æ×Á→H) (P:Z) (W:Å) (held:Ä) (fuel:O) (t:Æ) (ty:Ty) (cs:D Á) (d:Í H) (ps:D È):Prop:=
 cs.length=ty.size∧(∃ v:ty.den,Rep (oldS W) W ty v cs∧Wf ty v)∧
  ∀ W' sp,Ext W W'→(∀ q∈ps,sp q.block=Y)→U enc P W' 0 sp held fuel t cs=J (d,ps)
section
variable {H:Type} {enc:Æ×Á→H} {P:Z} {W:Å} {held:Ä}
theorem jus {a:Ý} {n:O} (hn:0<n):∃ q∈MemPlace.row a n,q.block=a.block:=
 ⟨.cell a.block (a.off+0),kp.2 ⟨0,by simp [hn],rfl⟩,rfl⟩
theorem jpY {n:O} {t e:Æ} {el:Ty} (hu:P.underlying t=J (.slice e)) (hsz:P.cellsOf e=el.size) (hpos:0<el.size) {fuel:O} {cs:D Á} {d:Í H} {ps:D È}
  (ih:∀ (m:O) (cs:D Á) (d:Í H) (ps:D È),U enc P W 0 (fun _=>Y) held m e cs=J (d,ps)→jur enc P W held m e el cs d ps)
  (h:U enc P W 0 (fun _=>Y) held fuel t cs=J (d,ps)):jur enc P W held fuel t (.list el) cs d ps:=by
 cases fuel with
 | zero=>simp [U] at h
 | succ m=>
  have h':=h
  unfold U at h
  rw [hu] at h
  split at h
  all_goals (try (rename_i heq _;simp at heq;done))
  all_goals (try (rename_i heq;simp at heq;done))
  ·rename_i heq
   refine ⟨rfl,⟨[],⟨X,0,rfl,jz _,kq _,fun _=>rfl,fun b hb=>by simp at hb⟩,⟨kq _,smp_⟩⟩,fun W' sp _ _=> ?_⟩
   unfold U
   rw [hu]
   exact h
  ·rename_i e' a len cap heq
   simp only [jb,TypeDesc.slice.injEq] at heq
   subst heq
   simp only [kq,qm,if_true] at h
   split at h
   ·rename_i hc
    cases hel:(Ñ len).mapM (fun i=>(W.cells? 0 (a.add (i*P.cellsOf e)) (P.cellsOf e)).bind (U enc P W 0 (fun _=>Y) held m e)) with
    | none=>rw [hel] at h;simp at h
    | some elems=>
     rw [hel] at h
     simp only [ja] at h
     cases hre:(Ñ (cap-len)).mapM (fun j=>(W.cells? 0 (a.add ((len+j)*P.cellsOf e)) (P.cellsOf e)).bind (U enc P W 0 (fun _=>Y) held m e)) with
     | none=>rw [hre] at h;simp at h
     | some rest=>
      rw [hre] at h
      simp only [kz,jb,jf] at h
      obtain ⟨rfl,rfl⟩:=h
      obtain ⟨l1,g1⟩:=jj4 hel
      obtain ⟨l2,g2⟩:=jj4 hre
      simp only [Î] at l1 l2
      have one:∀ i y,(W.cells? 0 (a.add (i*P.cellsOf e)) (P.cellsOf e)).bind (U enc P W 0 (fun _=>Y) held m e)=J y→∃ c,W.cells? 0 (a.add (i*P.cellsOf e)) (P.cellsOf e)=J c∧jur enc P W held m e el c y.1 y.2:=by
       intro i y hy
       cases hc:W.cells? 0 (a.add (i*P.cellsOf e)) (P.cellsOf e) with
       | none=>rw [hc] at hy;simp at hy
       | some c=>rw [hc] at hy;exact ⟨c,rfl,ih m c y.1 y.2 hy⟩
      refine ⟨rfl,?_,?_⟩
      ·have each:∀ i,i<len→∃ x:el.den×D Á,W.cells? 0 (a.add (i*P.cellsOf e)) (P.cellsOf e)=J x.2∧Rep (oldS W) W el x.1 x.2∧Wf el x.1:=by
        intro i hi
        obtain ⟨y,hy,hf⟩:=g1 i i (by simp [hi])
        obtain ⟨c,hc1,_,⟨v,hv,hw⟩,_⟩:=one i y hf
        exact ⟨(v,c),hc1,hv,hw⟩
       obtain ⟨xs,hxl,hxs⟩:=jjU len each
       have hclen:∀ c∈xs.map (·.2),c.length=P.cellsOf e:=by
        intro c hc
        obtain ⟨x,hx,rfl⟩:=kp.1 hc
        obtain ⟨i,hi⟩:=za.1 hx
        exact (jjV (hxs i x hi).1).1
       refine ⟨xs.map (·.1),?_,?_⟩
       ·refine ⟨J a,cap,by simp [hxl],by simp [hxl,hc.1],hc.2,smp_,fun b hb=> ?_⟩
        simp only [jb] at hb;subst hb
        have hspot:len≠0→a.spot=none:=by
         intro hl
         obtain ⟨x,hx⟩:∃ x,xs[0]? = J x:=⟨xs[0],jv omg_⟩
         obtain ⟨k1,k2⟩:=jjV (hxs 0 x hx).1
         obtain ⟨v,hv⟩:∃ v,x.2[0]? = J v:=⟨x.2[0],jv omg_⟩
         have:=(jlL (k2 0 v hv)).2
         simpa [Addr.add] using this
        refine ⟨fun hne=>hspot (fun h0=>hne (by rw [List.map_eq_nil_iff];exact ka omg_)),xs.map (·.2),juq smp_ (fun i x c hx hc=> ?_),fun j v hv=> ?_⟩
        ·simp only [qn,Ì] at hx hc
         obtain ⟨y,hy,rfl⟩:=hx
         obtain ⟨z,hz,rfl⟩:=hc
         rw [hy] at hz;simp at hz;subst hz
         exact (hxs i y hy).2.1
        ·obtain ⟨i,r,c,hj,hr,hci,hcr⟩:=jlK hclen hv
         simp only [qn,Ì] at hci
         obtain ⟨x,hx,rfl⟩:=hci
         have hcell:=(jjV (hxs i x hx).1).2 r v hcr
         have hil:i<len:=by rw [←hxl];exact (kb.1 hx).1
         have hs:=hspot omg_
         have hadd:(a.add (i*P.cellsOf e)).add r=⟨a.block,a.off+j,X⟩:=by
          obtain ⟨g,o,s⟩:=a
          simp only at hs;subst hs
          simp only [Addr.add]
          split<;>split<;>simp<;>omega
         rw [hadd] at hcell
         exact ⟨(jlL hcell).1,hcell⟩
       ·refine ⟨by simp only [qa,hxl];omega,fun x hx=> ?_⟩
        obtain ⟨y,hy,rfl⟩:=kp.1 hx
        obtain ⟨i,hi⟩:=za.1 hy
        exact (hxs i y hi).2.2
      ·intro W' sp hE hsp
       have keep:∀ i y,y∈elems++rest→(W.cells? 0 (a.add (i*P.cellsOf e)) (P.cellsOf e)).bind (U enc P W 0 (fun _=>Y) held m e)=J y→
         (W'.cells? 0 (a.add (i*P.cellsOf e)) (P.cellsOf e)).bind (U enc P W' 0 sp held m e)=J y:=by
        intro i y hy hf
        obtain ⟨c,hc1,_,_,hk⟩:=one i y hf
        rw [hE.cells hc1]
        exact hk W' sp hE (fun q hq=>hsp q (kc _ (zg.2 ⟨y,hy,hq⟩)))
       unfold U
       rw [hu]
       simp only [kq,qm]
       rw [if_pos hc,jgO hel (fun i _ y hy hf=>keep i y (ke _ hy) hf)]
       simp only [ja]
       have hrest:(if sp a.block=Y then (Ñ (cap-len)).mapM (fun j=>(W'.cells? 0 (a.add ((len+j)*P.cellsOf e)) (P.cellsOf e)).bind (U enc P W' 0 sp held m e)) else J [])=J rest:=by
        split
        ·exact jgO hre (fun j _ y hy hf=>keep (len+j) y (kc _ hy) hf)
        ·rename_i hsf
         rcases yn ((elems.length+rest.length)*P.cellsOf e) with h0 | h0
         ·have:rest=[]:=by
           rcases Nat.mul_eq_zero.1 h0 with h | h
           ·exact ka omg_
           ·omega
          rw [this]
         ·obtain ⟨q,hq,hb⟩:=jus (a:=a) h0
          have:=hsp q (ke _ hq)
          rw [hb] at this
          exact absurd this hsf
       rw [hrest]
       rfl
   ·simp at h
  ·simp at h
theorem jcx {n m:O} (ih:∀ (t:Æ) (ty:Ty),jhR P n t ty=Y→∀ (cs:D Á) (d:Í H) (ps:D È),U enc P W 0 (fun _=>Y) held m t cs=J (d,ps)→jur enc P W held m t ty cs d ps) (cs:D Á) :
  ∀ (fs:D Field) (off:O) (ty:Ty) (xs:D (Í H×D È)),jip P (jhR P n) fs off ty=Y→cs.length=off+ty.size→
   fs.mapM (fun f=>U enc P W 0 (fun _=>Y) held m f.type ((cs.drop f.offset).take (P.cellsOf f.type)))=J xs→
   (∃ v:ty.den,Rep (oldS W) W ty v (cs.drop off)∧Wf ty v)∧
    ∀ W' sp,Ext W W'→(∀ q∈xs.flatMap (·.2),sp q.block=Y)→fs.mapM (fun f=>U enc P W' 0 sp held m f.type ((cs.drop f.offset).take (P.cellsOf f.type)))=J xs
 | [],_,_,_,hc,_,_=>by simp [jip] at hc
 | [f],off,ty,xs,hc,hl,hm=>by
  simp only [jip,ji,jq] at hc
  obtain ⟨⟨ho,hz⟩,hc⟩:=hc
  rw [v6] at hm
  cases hf:U enc P W 0 (fun _=>Y) held m f.type ((cs.drop f.offset).take (P.cellsOf f.type)) with
  | none=>simp [hf] at hm
  | some y=>
   simp [hf] at hm
   subst hm
   obtain ⟨_,hv,hk⟩:=ih f.type ty hc _ y.1 y.2 hf
   rw [ho,hz,List.take_of_length_le sqo_] at hv
   refine ⟨hv,fun W' sp hE hsp=> ?_⟩
   rw [v6,hk W' sp hE (fun q hq=>hsp q (by simpa using hq))]
   rfl
 | f::g::r,off,ty,xs,hc,hl,hm=>by
  cases ty with
  | pair a b=>
   simp only [jip,ji,jq] at hc
   obtain ⟨⟨⟨ho,hz⟩,hc⟩,hr⟩:=hc
   rw [v6] at hm
   cases hf:U enc P W 0 (fun _=>Y) held m f.type ((cs.drop f.offset).take (P.cellsOf f.type)) with
   | none=>simp [hf] at hm
   | some y=>
    cases hrest:(g::r).mapM (fun f=>U enc P W 0 (fun _=>Y) held m f.type ((cs.drop f.offset).take (P.cellsOf f.type))) with
    | none=>rw [hf,hrest] at hm;simp at hm
    | some ys=>
     rw [hf,hrest] at hm
     simp at hm
     subst hm
     have hl':cs.length=off+(a.size+b.size):=hl
     obtain ⟨hyl,⟨v,hv,hw⟩,hk⟩:=ih f.type a hc _ y.1 y.2 hf
     obtain ⟨⟨v2,hv2,hw2⟩,hk2⟩:=jcx ih cs (g::r) (off+a.size) b ys hr omg_ hrest
     rw [ho,hz] at hv
     refine ⟨⟨(v,v2),⟨(cs.drop off).take a.size,cs.drop (off+a.size),?_,hv,hv2⟩,hw,hw2⟩,fun W' sp hE hsp=> ?_⟩
     ·rw [←List.drop_drop,qv]
     ·rw [v6,hk W' sp hE (fun q hq=>hsp q (by simp [hq])),hk2 W' sp hE (fun q hq=>hsp q (by simp at hq ⊢;exact .inr hq))]
      rfl
  | _=>simp [jip] at hc
theorem jlM:∀ (n:O) (t:Æ) (ty:Ty),jhR P n t ty=Y→∀ (fuel:O) (cs:D Á) (d:Í H) (ps:D È),U enc P W 0 (fun _=>Y) held fuel t cs=J (d,ps)→
  jur enc P W held fuel t ty cs d ps
 | 0,_,_,hc,_,_,_,_,_=>by simp [jhR] at hc
 | n+1,t,ty,hc,fuel,cs,d,ps,h=>by
  have ih:=jlM n
  cases fuel with
  | zero=>simp [U] at h
  | succ m=>
  have hc0:=hc
  unfold jhR at hc
  split at hc
  ·rename_i k hu
   have:=qe hc
   subst this
   obtain ⟨z,rfl,hx,hw⟩:=DataW.trod_int hu h
   refine ⟨rfl,⟨z,rfl,hw⟩,fun W' sp _ _=> ?_⟩
   simp only [jf] at hx
   rw [hx.1,hx.2]
   exact trod_int_mk m hu hw
  ·rename_i hu
   have:=qe hc
   subst this
   obtain ⟨z,rfl,hx⟩:=DataW.trod_bool hu h
   refine ⟨rfl,⟨z,rfl,trivial⟩,fun W' sp _ _=> ?_⟩
   unfold U at h ⊢
   rw [hu] at h ⊢
   exact h
  ·rename_i hu
   have:=qe hc
   subst this
   obtain ⟨z,rfl,hx,hw⟩:=DataW.trod_string hu h
   refine ⟨rfl,⟨z,rfl,hw⟩,fun W' sp _ _=> ?_⟩
   unfold U at h ⊢
   rw [hu] at h ⊢
   exact h
  ·rename_i e hu
   split at hc
   ·rename_i a
    simp only [ji,jq] at hc
    exact jpY (n:=n) hu hc.1.2 hc.2 (fun m cs d ps h=>ih e a hc.1.1 m cs d ps h) h
   ·simp at hc
  ·rename_i fs hu
   simp only [ji,jq] at hc
   obtain ⟨hsz,hc⟩:=hc
   have hstr:cs.length=P.cellsOf t∧∃ xs,fs.toList.mapM (fun f=>U enc P W 0 (fun _=>Y) held m f.type ((cs.drop f.offset).take (P.cellsOf f.type)))=J xs∧d = .agg (xs.map (·.1))∧ps=xs.flatMap (·.2):=by
    obtain ⟨xs,m',e1,e2,e3,e4,e5⟩:=DataW.trod_struct hu h
    have:m'=m:=omg_
    subst this
    simp only [jf] at e2
    exact ⟨e3,xs,jjT (by simpa using e4) (fun i x hx=>e5 i x (by simpa using hx)),e2.1,e2.2⟩
   obtain ⟨hl,xs,hm,rfl,rfl⟩:=hstr
   have mk:∀ W' sp,fs.toList.mapM (fun f=>U enc P W' 0 sp held m f.type ((cs.drop f.offset).take (P.cellsOf f.type)))=J xs→
     U enc P W' 0 sp held (m+1) t cs=J (.agg (xs.map (·.1)),xs.flatMap (·.2)):=by
    intro W' sp hm'
    exact trod_struct_mk hu hl (by
     first
     | exact hm'
     | (intros;exact hm'))
   refine ⟨omg_,?_,fun W' sp hE hsp=> ?_⟩
   all_goals split at hc
   ·rename_i x a hfs
    rw [hfs] at hm
    obtain ⟨⟨v,hv,hw⟩,_⟩:=jcx (fun t ty hc cs d ps h=>ih t ty hc m cs d ps h) cs [x] 0 a xs hc (by rw [hl,hsz];simp [Ty.size]) hm
    exact ⟨v,by simpa [Rep] using hv,hw⟩
   ·rename_i x y r a b hfs
    rw [hfs] at hm
    obtain ⟨⟨v,hv,hw⟩,_⟩:=jcx (fun t ty hc cs d ps h=>ih t ty hc m cs d ps h) cs (x::y::r) 0 (.pair a b) xs hc omg_ hm
    exact ⟨v,by simpa using hv,hw⟩
   ·simp at hc
   ·rename_i x a hfs
    rw [hfs] at hm
    obtain ⟨_,hk⟩:=jcx (fun t ty hc cs d ps h=>ih t ty hc m cs d ps h) cs [x] 0 a xs hc (by rw [hl,hsz];simp [Ty.size]) hm
    exact mk W' sp (by rw [hfs];exact hk W' sp hE hsp)
   ·rename_i x y r a b hfs
    rw [hfs] at hm
    obtain ⟨_,hk⟩:=jcx (fun t ty hc cs d ps h=>ih t ty hc m cs d ps h) cs (x::y::r) 0 (.pair a b) xs hc omg_ hm
    exact mk W' sp (by rw [hfs];exact hk W' sp hE hsp)
   ·simp at hc
  ·simp at hc
end
theorem jf1 {P:Z} {W:Å} {r:Reach} {base:O} {t:Æ} {v:Á} {d:TypeDesc} (hu:P.underlying t=J d) (hd:(∃ k,d = .int k)∨d = .bool∨d = .string∨∃ e,d = .slice e) (h:É P W r base t v):One v:=by
 have hc:Cell.ok P W r base t v:=by
  unfold É at h
  rw [hu] at h
  rcases hd with ⟨k,rfl⟩ | rfl | rfl | ⟨e,rfl⟩<;>(dsimp only at h;unfold Cell.okWide at h;rw [hu] at h;exact h)
 unfold Cell.ok at hc
 rw [hu] at hc
 rcases hd with ⟨k,rfl⟩ | rfl | rfl | ⟨e,rfl⟩<;>cases v<;>first | rfl | (exact absurd hc smp_)
theorem jgP {H:Type} {enc:Æ×Á→H} {P:Z} {W:Å} {n:O} {t:Æ} {ty:Ty} (hchk:jhR P n t ty=Y) {r:Reach} {base:O} {v:Á} (hok:É P W r base t v) {d:Í H} {p:D È}
  (h:Û enc P W 0 (fun _=>Y) Y t v d p) :
  ∃ x:ty.den,jbg (oldS W) W (.v ⟨ty,x⟩) v∧Wf ty x∧∀ W' sp,Below W.heap.size W W'→(∀ q∈p,sp q.block=Y)→Û enc P W' 0 sp Y t v d p:=by
 obtain ⟨fuel,h⟩:=h
 obtain ⟨_,⟨x,hx,hw⟩,hk⟩:=jlM n t ty hchk fuel _ d p h
 refine ⟨x,⟨hx,fun hm=> ?_,fun hm=> ?_⟩,hw,fun W' sp hb hsp=>⟨fuel,hk W' sp (fun k y hy=>by rw [hb.block k (jn.1 hy).1];exact hy) hsp⟩⟩
 ·cases n with
  | zero=>simp [jhR] at hchk
  | succ n=>
   unfold jhR at hchk
   split at hchk
   ·have:=qe hchk;subst this;simp [jb5,Ty.agg] at hm
   ·have:=qe hchk;subst this;simp [jb5,Ty.agg] at hm
   ·have:=qe hchk;subst this;simp [jb5,Ty.agg] at hm
   ·split at hchk
    ·simp [jb5,Ty.agg] at hm
    ·simp at hchk
   ·rename_i hu
    unfold É at hok
    rw [hu] at hok
    obtain ⟨cs,hcs,_⟩:=hok
    exact ⟨cs,hcs⟩
   ·simp at hchk
 ·cases n with
  | zero=>simp [jhR] at hchk
  | succ n=>
   unfold jhR at hchk
   split at hchk
   ·rename_i k hu;exact jf1 hu (.inl ⟨k,rfl⟩) hok
   ·rename_i hu;exact jf1 hu (.inr (.inl rfl)) hok
   ·rename_i hu;exact jf1 hu (.inr (.inr (.inl rfl))) hok
   ·rename_i e hu;exact jf1 hu (.inr (.inr (.inr ⟨e,rfl⟩))) hok
   ·rename_i hu
    simp only [ji] at hchk
    have h2:=hchk.2
    split at h2
    ·simp [jb5,Ty.agg] at hm
    ·simp [jb5,Ty.agg] at hm
    ·simp at h2
   ·simp at hchk
def OLe {α:Type} (a b:I α):Prop:=∀ r,a=J r→b=J r
theorem OLe.refl {α:Type} (a:I α):OLe a a:=fun _ h=>h
theorem OLe.none {α:Type} (a:I α):OLe X a:=fun _ h=>by simp at h
theorem OLe.bind {α β:Type} {a b:I α} {f g:α→I β} (h:OLe a b) (h':∀ x,OLe (f x) (g x)):OLe (a.bind f) (b.bind g):=by
 intro r hr
 cases a with
 | none=>simp at hr
 | some x=>rw [h x rfl];exact h' x r hr
theorem OLe.cond {α:Type} {c:Ä} {a b a' b':I α} (h:OLe a a') (h':OLe b b'):OLe (cond c a b) (cond c a' b'):=by
 cases c with
 | true=>exact h
 | false=>exact h'
theorem OLe.sumC {α β γ:Type} {x:α ⊕ β} {f f':α→I γ} {g g':β→I γ} (h:∀ x,OLe (f x) (f' x)) (h':∀ x,OLe (g x) (g' x)):OLe (sumC x f g) (Lft.sumC x f' g'):=by
 cases x with
 | inl a=>exact h a
 | inr b=>exact h' b
theorem OLe.loopN {α β:Type} {f g:α→I (α ⊕ β)} (h:∀ s,OLe (f s) (g s)):∀ (n:O) (s:α),OLe (Lft.loopN f n s) (Lft.loopN g n s)
 | 0,_=> .none _
 | n+1,s=>by
  intro r hr
  simp only [Lft.loopN] at hr ⊢
  cases hf:f s with
  | none=>simp [hf] at hr
  | some x=>
   rw [h s x hf]
   cases x with
   | inl a=>simp only [hf] at hr;exact OLe.loopN h n a r hr
   | inr b=>simpa [hf] using hr
theorem OLe.loop {α β:Type} {f g:α→I (α ⊕ β)} (n:O) (s:α) (h:∀ s,OLe (f s) (g s)):OLe (Lft.loopN f n s) (loopOpt g s):=
 fun r hr=>jcv (OLe.loopN h n s r hr)
theorem OLe.loopOpt {α β:Type} {f g:α→I (α ⊕ β)} (s:α) (h:∀ s,OLe (f s) (g s)):OLe (Lft.loopOpt f s) (Lft.loopOpt g s):=by
 intro r hr
 obtain ⟨n,hn⟩:=jcw hr
 exact jcv (OLe.loopN h n s r hn)
theorem jrn {α β:Type} {B B':(α→I β)→α→I β} (h:∀ g g',(∀ a,OLe (g a) (g' a))→∀ a,OLe (B g a) (B' g' a)):∀ n a,OLe (jdb B n a) (jdb B' n a)
 | 0,_=> .none _
 | n+1,a=>h _ _ (jrn h n) a
theorem jmG {α β:Type} {B:(α→I β)→α→I β} (h:∀ g g',(∀ a,OLe (g a) (g' a))→∀ a,OLe (B g a) (B g' a)):∀ (k n:O) (a:α),OLe (jdb B n a) (jdb B (n+k) a)
 | k,0,a=> .none _
 | k,n+1,a=>by
  rw [show n+1+k=(n+k)+1 by omega]
  exact h _ _ (jmG h k n) a
theorem OLe.rec {α β:Type} {B B':(α→I β)→α→I β} (n:O) (a:α) (h:∀ g g',(∀ a,OLe (g a) (g' a))→∀ a,OLe (B g a) (B' g' a)) (h':∀ g g',(∀ a,OLe (g a) (g' a))→∀ a,OLe (B' g a) (B' g' a)) :
  OLe (jdb B n a) (jio B' a):=by
 intro r hr
 have h1:=jrn h n a r hr
 refine jog ⟨n,h1⟩ fun m y hy=> ?_
 have e1:=jmG h' m n a r h1
 have e2:=jmG h' n m a y hy
 rw [Nat.add_comm m n] at e2
 rw [e1] at e2
 simpa using e2.symm
end Go.Lft
