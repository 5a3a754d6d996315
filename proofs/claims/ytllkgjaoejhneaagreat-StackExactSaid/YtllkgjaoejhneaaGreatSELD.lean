/- Mm of arguments and Bw: what is known of them but the data. UJ. -/
import Derived.Test.YtllkgjaoejhneaaGreatSELC
import Derived.KernelRfl
import Derived.IntWalk
import Derived.Below
import Derived.ChangeSame
open _root_ renaming List->D,Option->I,Nat->U,Int->Ç,DecidableEq->È,Bool->É,Array->Ó,True->å,Inv->è
open Option renaming some->O,none->X,map_eq_some_iff->Ö
open Bool renaming false->Y,true->Å
open Go.Exit renaming inBlock->Z
open Go.DataW renaming trod->À,TrodAll->á,Trod->ë
open Go renaming Program->Á,World->Â,Value->Ä,Act->Ê,Code->Í,TypeId->Ð,MemPlace->Õ,Oper->Ú,DataW->à,Func->æ,Addr->î
open Go.Code renaming region->Ã,cond->Ï,block->Ò
open List renaming length->Æ,getElem?_append_left->Ë,cons_append->Î,getD->Ù,range->Û,length_range->Ü,find?_cons->Ý,mapM_cons->Þ,isEmpty->â,range'->ç
open Decidable renaming decide->Ì
open Go.Region renaming wanted->Ñ
open Go.Value renaming okWide->Ô
open Int renaming toNat->Ø,ofNat->ì
noncomputable section
set_option linter.unusedVariables false
namespace Go.Lft
inductive CPat where
 |v (t:Ty)
 |p (ts:D Ty)
 deriving È
inductive LPat where
 |dead|nil
 |d (t:Ty)
 |ol (k:U)
 |bp (k c:U)
 |ep (k i c:U)
 |tl (k:U)
 |hd (k:U)
 |ip (ts:D Ty)
 |clo (f:U) (caps:D CPat)
 |clr (f:U) (ks:D U)
 deriving È
inductive KPat where
 |one (l:LPat)
 |st (ls:D LPat)
 |av (n:U) (a:Ty)
 deriving È
inductive BPat where
 |free|gone
 |cell (ls:D LPat) (frz:É)
 |lst (e:U) (a:Ty) (frz:É)
 |arr (n:U) (a:Ty)
 |row (e:U) (a:Ty) (n:U) (ls:D LPat)
 deriving È
inductive IPat where
 |s (c:KPat)
 |b (x:BPat)
 deriving È
abbrev iT:Ty:= .int .i64
abbrev sI:IPat:= .s (.one (.d iT))
abbrev sD(t:Ty):IPat:= .s (.one (.d t))
abbrev sO(k:U):IPat:= .s (.one (.ol k))
abbrev sB(k c:U):IPat:= .s (.one (.bp k c))
abbrev sC(f:U)(l:D CPat):IPat:= .s (.one (.clo f l))
inductive APat where
 |v (t:Ty)
 |ref (ts:D Ty)
 |rl (e:U) (t:Ty)
 |ip (ts:D Ty)
 |clo (f:U) (caps:D CPat)
 |mv (e:U) (t:Ty)
 deriving È
@[reducible] def HL:List Ty->Type
 |[]=>Unit
 |[t]=>t.den
 |t::t'::ts=>t.den×HL (t'::ts)
def ofHL:(ts:D Ty)->HL ts->D TV
 |[],_=>[]
 |[t],h=>[⟨t,h⟩]
 |t::t'::ts,h=>⟨t,h.1⟩::ofHL (t'::ts) h.2
def toHL:(ts:D Ty)->D TV->I (HL ts)
 |[],[]=>O ()
 |[t],[x]=>x.to t
 |t::t'::ts,x::xs=>match x.to t with
  |some v=>match toHL (t'::ts) xs with
   |some r=>O (v,r)
   |none=>X
  |none=>X
 |_,_=>X
theorem GW:∀{ts:D Ty}{xs:D TV}{h:HL ts},toHL ts xs=O h->xs=ofHL ts h
 |[],[],_,_=>rfl
 |[],_::_,_,h=>by simp[toHL]at h
 |[_],[],_,h=>by simp[toHL]at h
 |[t],[x],hl,h=>by
  simp only[toHL]at h;rw[mJ h];rfl
 |[t],x::y::xs,hl,h=>by simp[toHL]at h
 |_::_::_,[],_,h=>by simp[toHL]at h
 |t::t'::ts,x::xs,hl,h=>by
  simp only[toHL]at h;split at h
  .rename_i v hv;split at h
   .rename_i r hr;simp only[jb]at h;subst h;rw[mJ hv,GW hr];rfl
   .simp at h
  .simp at h
def capP:Cap->CPat×D TV
 |.v x=>(.v x.t,[x])
 |.p ls=>(.p (ls.map (·.t)),ls)
def ob:D Cap->D CPat×D TV
 |[]=>([],[])
 |c::cs=>((capP c).1::(ob cs).1,(capP c).2++(ob cs).2)
def tv0:TV:=⟨.unit,()⟩
def capF:CPat->D TV->Cap
 |.v _,xs=> .v (xs.headD tv0)
 |.p ts,xs=> .p (xs.take ts.length)
def CPat.n:CPat->U
 |.v _=>1
 |.p ts=>ts.length
def Bz:D CPat->D TV->D Cap
 |[],_=>[]
 |c::cs,xs=>capF c xs::Bz cs (xs.drop c.n)
def BA:D CPat->U
 |[]=>0
 |c::cs=>c.n+BA cs
theorem Ŧ(c:Cap)(r:D TV):capF (capP c).1 ((capP c).2++r)=c/\(capP c).1.n=(capP c).2.length:=by
 cases c with
 |v x=>exact⟨rfl,rfl⟩
 |p ls=>simp[capP,capF,CPat.n]
theorem GX:∀(cs:D Cap)(r:D TV),Bz (ob cs).1 ((ob cs).2++r)=cs/\BA (ob cs).1=(ob cs).2.length
 |[],r=>⟨rfl,rfl⟩
 |c::cs,r=>by
  simp only[ob,Bz,BA,jo,jn];have h1:=Ŧ c ((ob cs).2++r);have h2:=GX cs r;rw[h1.1,h1.2,vv,h2.1,h2.2];exact⟨rfl,rfl⟩
def sP:Leaf->LPat×D TV
 |.dead=>(.dead,[])
 |.nil=>(.nil,[])
 |.d t v=>(.d t,[⟨t,v⟩])
 |.ol k=>(.ol k,[])
 |.bp k c=>(.bp k c,[])
 |.ep k i c=>(.ep k i c,[])
 |.tl k i=>(.tl k,[⟨.int .i64,(i:Ç)⟩])
 |.hd k i=>(.hd k,[⟨.int .i64,(i:Ç)⟩])
 |.ip ls=>(.ip (ls.map (·.t)),ls)
 |.clo f caps=>(.clo f (ob caps).1,(ob caps).2)
 |.clr f ks=>(.clr f ks,[])
def Mn:TV->U
 |⟨.int _,v⟩=>Ø v
 |_=>0
def LPat.n:LPat->U
 |.d _=>1
 |.tl _=>1
 |.hd _=>1
 |.ip ts=>ts.length
 |.clo _ cs=>BA cs
 |_=>0
def D8:LPat->D TV->Leaf
 |.dead,_=> .dead
 |.nil,_=> .nil
 |.d _,xs=> .d (xs.headD tv0).t (xs.headD tv0).v
 |.ol k,_=> .ol k
 |.bp k c,_=> .bp k c
 |.ep k i c,_=> .ep k i c
 |.tl k,xs=> .tl k (Mn (xs.headD tv0))
 |.hd k,xs=> .hd k (Mn (xs.headD tv0))
 |.ip ts,xs=> .ip (xs.take ts.length)
 |.clo f cs,xs=> .clo f (Bz cs xs)
 |.clr f ks,_=> .clr f ks
theorem UK(l:Leaf)(r:D TV):D8 (sP l).1 ((sP l).2++r)=l/\(sP l).1.n=(sP l).2.length:=by
 cases l with
 |ip ls=>simp[sP,D8,LPat.n]
 |clo f cs=>have:=GX cs r;simp only[sP,D8,LPat.n];exact⟨by rw[this.1],this.2⟩
 |_=>exact⟨rfl,rfl⟩
def oc:D Leaf->D LPat×D TV
 |[]=>([],[])
 |c::cs=>((sP c).1::(oc cs).1,(sP c).2++(oc cs).2)
def BB:D LPat->D TV->D Leaf
 |[],_=>[]
 |c::cs,xs=>D8 c xs::BB cs (xs.drop c.n)
def BC:D LPat->U
 |[]=>0
 |c::cs=>c.n+BC cs
theorem GY:∀(cs:D Leaf)(r:D TV),BB (oc cs).1 ((oc cs).2++r)=cs/\BC (oc cs).1=(oc cs).2.length
 |[],r=>⟨rfl,rfl⟩
 |c::cs,r=>by
  simp only[oc,BB,BC,jo,jn];have h1:=UK c ((oc cs).2++r);have h2:=GY cs r;rw[h1.1,h1.2,vv,h2.1,h2.2];exact⟨rfl,rfl⟩
def celP:Cel->KPat×D TV
 |.one l=>(.one (sP l).1,(sP l).2)
 |.st ls=>(.st (oc ls).1,(oc ls).2)
 |.av n a xs=>(.av n a,[⟨.list a,xs⟩])
def D9(a:Ty)(xs:D TV):D a.den:=((xs.headD tv0).to (.list a)).getD []
theorem Mo(a:Ty)(xs:D a.den)(r:D TV):D9 a (⟨.list a,xs⟩::r)=xs:=by
 simp[D9,TV.to]
def KPat.n:KPat->U
 |.one l=>l.n
 |.st ls=>BC ls
 |.av _ _=>1
def celF:KPat->D TV->Cel
 |.one l,xs=> .one (D8 l xs)
 |.st ls,xs=> .st (BB ls xs)
 |.av n a,xs=> .av n a (D9 a xs)
theorem ŧ(c:Cel)(r:D TV):celF (celP c).1 ((celP c).2++r)=c/\(celP c).1.n=(celP c).2.length:=by
 cases c with
 |one l=>have:=UK l r;exact⟨by simp only[celP,celF];rw[this.1],this.2⟩
 |st ls=>have:=GY ls r;exact⟨by simp only[celP,celF];rw[this.1],this.2⟩
 |av n a xs=>exact⟨by simp only[celP,celF,Î,kc];rw[Mo],rfl⟩
def bsP:BS->BPat×D TV
 |.free=>(.free,[])
 |.gone=>(.gone,[])
 |.live (.cell ls f)=>(.cell (oc ls).1 f,(oc ls).2)
 |.live (.lst e a xs f)=>(.lst e a f,[⟨.list a,xs⟩])
 |.live (.arr n a xs)=>(.arr n a,[⟨.list a,xs⟩])
 |.live (.row e a n ls)=>(.row e a n (oc ls).1,(oc ls).2)
def BPat.n:BPat->U
 |.free|.gone=>0
 |.cell ls _=>BC ls
 |.lst _ _ _=>1
 |.arr _ _=>1
 |.row _ _ _ ls=>BC ls
def bsF:BPat->D TV->BS
 |.free,_=> .free
 |.gone,_=> .gone
 |.cell ls f,xs=> .live (.cell (BB ls xs) f)
 |.lst e a f,xs=> .live (.lst e a (D9 a xs) f)
 |.arr n a,xs=> .live (.arr n a (D9 a xs))
 |.row e a n ls,xs=> .live (.row e a n (BB ls xs))
theorem Ũ(c:BS)(r:D TV):bsF (bsP c).1 ((bsP c).2++r)=c/\(bsP c).1.n=(bsP c).2.length:=by
 cases c with
 |free=>exact⟨rfl,rfl⟩
 |gone=>exact⟨rfl,rfl⟩
 |live b=>
  cases b with
  |cell ls f=>have:=GY ls r;exact⟨by simp only[bsP,bsF];rw[this.1],this.2⟩
  |lst e a xs f=>exact⟨by simp only[bsP,bsF,Î,kc];rw[Mo],rfl⟩
  |arr n a xs=>exact⟨by simp only[bsP,bsF,Î,kc];rw[Mo],rfl⟩
  |row e a n ls=>have:=GY ls r;exact⟨by simp only[bsP,bsF];rw[this.1],this.2⟩
def itP:Item->IPat×D TV
 |.s c=>(.s (celP c).1,(celP c).2)
 |.b x=>(.b (bsP x).1,(bsP x).2)
def IPat.n:IPat->U
 |.s c=>c.n
 |.b x=>x.n
def itF:IPat->D TV->Item
 |.s c,xs=> .s (celF c xs)
 |.b x,xs=> .b (bsF x xs)
theorem UL(c:Item)(r:D TV):itF (itP c).1 ((itP c).2++r)=c/\(itP c).1.n=(itP c).2.length:=by
 cases c with
 |s c=>have:=ŧ c r;exact⟨by simp only[itP,itF];rw[this.1],this.2⟩
 |b x=>have:=Ũ x r;exact⟨by simp only[itP,itF];rw[this.1],this.2⟩
def my:Snap->D IPat×D TV
 |[]=>([],[])
 |c::cs=>((itP c).1::(my cs).1,(itP c).2++(my cs).2)
def yO:D IPat->D TV->Snap
 |[],_=>[]
 |c::cs,xs=>itF c xs::yO cs (xs.drop c.n)
theorem UM:∀(cs:Snap),yO (my cs).1 (my cs).2=cs
 |[]=>rfl
 |c::cs=>by
  simp only[my,yO];have h1:=UL c (my cs).2;rw[h1.1,h1.2,vv,UM cs]
def pack(ps:D IPat)(ts:D Ty)(h:HL ts):Snap:=yO ps (ofHL ts h)
def rI(ps:D IPat)(ts:D Ty)(s:Snap):I (HL ts):=
 if (my s).1=ps then toHL ts (my s).2 else X
theorem BD{ps:D IPat}{ts:D Ty}{s:Snap}{h:HL ts}(hs:rI ps ts s=O h):s=pack ps ts h:=by
 unfold rI at hs;split at hs
 .rename_i hp;have:=GW hs;rw[pack,<-this,<-hp,UM]
 .simp at hs
def argP:Arg->APat×D TV
 |.v x=>(.v x.t,[x])
 |.ref ls=>(.ref (ls.map (·.t)),ls)
 |.rl e x=>(.rl e x.t,[x])
 |.ip ls=>(.ip (ls.map (·.t)),ls)
 |.clo f cs=>(.clo f (ob cs).1,(ob cs).2)
 |.mv e x=>(.mv e x.t,[x])
def APat.n:APat->U
 |.v _=>1
 |.ref ts=>ts.length
 |.rl _ _=>1
 |.ip ts=>ts.length
 |.clo _ cs=>BA cs
 |.mv _ _=>1
def argF:APat->D TV->Arg
 |.v _,xs=> .v (xs.headD tv0)
 |.ref ts,xs=> .ref (xs.take ts.length)
 |.rl e _,xs=> .rl e (xs.headD tv0)
 |.ip ts,xs=> .ip (xs.take ts.length)
 |.clo f cs,xs=> .clo f (Bz cs xs)
 |.mv e _,xs=> .mv e (xs.headD tv0)
theorem ũ(c:Arg)(r:D TV):argF (argP c).1 ((argP c).2++r)=c/\(argP c).1.n=(argP c).2.length:=by
 cases c with
 |v x=>exact⟨rfl,rfl⟩
 |rl e x=>exact⟨rfl,rfl⟩
 |mv e x=>exact⟨rfl,rfl⟩
 |ref ls=>simp[argP,argF,APat.n]
 |ip ls=>simp[argP,argF,APat.n]
 |clo f cs=>have:=GX cs r;exact⟨by simp only[argP,argF];rw[this.1],this.2⟩
def uf:D Arg->D APat×D TV
 |[]=>([],[])
 |c::cs=>((argP c).1::(uf cs).1,(argP c).2++(uf cs).2)
def Ea:D APat->D TV->D Arg
 |[],_=>[]
 |c::cs,xs=>argF c xs::Ea cs (xs.drop c.n)
theorem UN:∀(cs:D Arg),Ea (uf cs).1 (uf cs).2=cs
 |[]=>rfl
 |c::cs=>by
  simp only[uf,Ea];have h1:=ũ c (uf cs).2;rw[h1.1,h1.2,vv,UN cs]
def rJ(ps:D APat)(ts:D Ty)(h:HL ts):D Arg:=Ea ps (ofHL ts h)
def GZ(ps:D APat)(ts:D Ty)(s:D Arg):I (HL ts):=
 if (uf s).1=ps then toHL ts (uf s).2 else X
theorem Mp{ps:D APat}{ts:D Ty}{s:D Arg}{h:HL ts}(hs:GZ ps ts s=O h):s=rJ ps ts h:=by
 unfold GZ at hs;split at hs
 .rename_i hp;have:=GW hs;rw[rJ,<-this,<-hp,UN]
 .simp at hs
theorem Mq{α β:Type}{f:α->I (α ⊕ β)}:∀{n m:U}{s:α}{x y:β},loopN f n s=O x->loopN f m s=O y->x=y
 |0,_,_,_,_,h,_=>by simp[loopN]at h
 |_+1,0,_,_,_,_,h=>by simp[loopN]at h
 |n+1,m+1,s,x,y,h,h'=>by
  simp only[loopN]at h h';cases hf:f s with
  |none=>simp[hf]at h
  |some r=>
   cases r with
   |inl s'=>simp only[hf]at h h';exact Mq h h'
   |inr z=>simp only[hf,jb]at h h';rw[<-h,<-h']
open Classical in
def loopOpt{α β:Type}(f:α->I (α ⊕ β))(s:α):I β:=
 match loopN f 100000 s with
 |some x=>O x
 |none=>if h:∃x n,loopN f n s=O x then O h.choose else X
theorem Eb{α β:Type}{f:α->I (α ⊕ β)}{s:α}{n:U}{x:β}(h:loopN f n s=O x):loopOpt f s=O x:=by
 unfold loopOpt;split
 .rename_i y hy;rw[Mq hy h]
 have hx:∃x n,loopN f n s=O x:=⟨x,n,h⟩;rw[dif_pos hx];obtain⟨m,hm⟩:=hx.choose_spec;rw[Mq hm h]
theorem Ec{α β:Type}{f:α->I (α ⊕ β)}{s:α}{x:β}(h:loopOpt f s=O x):∃n,loopN f n s=O x:=by
 unfold loopOpt at h;split at h
 .rename_i hy;exact⟨100000,by rw[hy,h]⟩
 split at h
 .rename_i hx;simp only[jb]at h;obtain⟨m,hm⟩:=hx.choose_spec;exact⟨m,by rw[<-h];exact hm⟩
 .simp at h
theorem Ū{α β:Type}{f:α->I (α ⊕ β)}{s s':α}(h:f s=O (.inl s')):loopOpt f s=loopOpt f s':=by
 cases hq:loopOpt f s' with
 |some x=>obtain⟨n,hn⟩:=Ec hq;exact Eb (n:=n+1) (by simp only[loopN,h];exact hn)
 |none=>
  cases hp:loopOpt f s with
  |none=>rfl
  |some x=>
   obtain⟨n,hn⟩:=Ec hp;cases n with
   |zero=>simp[loopN]at hn
   |succ n=>simp only[loopN,h]at hn;rw[Eb hn]at hq;simp at hq
theorem ū{α β:Type}{f:α->I (α ⊕ β)}{s:α}{x:β}(h:f s=O (.inr x)):loopOpt f s=O x:=
 Eb (n:=1) (by simp only[loopN,h])
theorem UO{α β A B:Type}{f:α->I (α ⊕ β)}{g:A->I (A ⊕ B)}{p:A->α}{q:B->β}
  (h:∀a r,g a=O r->f (p a)=O (match r with|.inl a'=> .inl (p a')|.inr b=> .inr (q b))):∀{n:U}{a:A}{x:B},loopN g n a=O x->loopN f n (p a)=O (q x)
 |0,_,_,hn=>by simp[loopN]at hn
 |n+1,a,x,hn=>by
  simp only[loopN]at hn;cases hg:g a with
  |none=>simp[hg]at hn
  |some r=>
   have:=h a r hg;cases r with
   |inl a'=>simp only[hg]at hn;simp only[loopN,this];exact UO h hn
   |inr b=>simp only[hg,jb]at hn;subst hn;simp only[loopN,this]
def sumC{α β γ:Type}(x:α ⊕ β)(f:α->γ)(g:β->γ):γ:=match x with
 |.inl a=>f a
 |.inr b=>g b
structure XD where
 ex:Ex
 ps:D IPat
 ts:D Ty
@[reducible] def XT:List XD->Type
 |[]=>Empty
 |[x]=>HL x.ts
 |x::y::r=>HL x.ts ⊕ XT (y::r)
def rK:(l:D XD)->XT l->Ex×Snap
 |[],h=>nomatch h
 |[x],h=>(x.ex,pack x.ps x.ts h)
 |x::y::r,h=>match h with
  |.inl a=>(x.ex,pack x.ps x.ts a)
  |.inr b=>rK (y::r) b
def Ed{R:Type}:(l:D XD)->XT l->(Ex->Snap->I R)->I R
 |[],_,_=>X
 |[x],h,k=>k x.ex (pack x.ps x.ts h)
 |x::y::r,h,k=>sumC h (λa=>k x.ex (pack x.ps x.ts a)) (λb=>Ed (y::r) b k)
theorem Mr{R:Type}:∀(l:D XD)(h:XT l)(k:Ex->Snap->I R),Ed l h k=k (rK l h).1 (rK l h).2
 |[],h,_=>nomatch h
 |[x],h,k=>rfl
 |x::y::r,h,k=>by
  cases h with
  |inl a=>rfl
  |inr b=>exact Mr (y::r) b k
def unX:(l:D XD)->Ex->Snap->I (XT l)
 |[],_,_=>X
 |[x],e,s=>if e=x.ex then rI x.ps x.ts s else X
 |x::y::r,e,s=>if e=x.ex/\(my s).1=x.ps then match rI x.ps x.ts s with
   |some a=>O (.inl a)
   |none=>X
  else match unX (y::r) e s with
   |some b=>O (.inr b)
   |none=>X
theorem G0:∀(l:D XD)(e:Ex)(s:Snap)(x:XT l),unX l e s=O x->rK l x=(e,s)
 |[],_,_,_,h=>by simp[unX]at h
 |[x],e,s,h,he=>by
  simp only[unX]at he;split at he
  .rename_i h1;rw[rK,<-BD he,h1]
  .simp at he
 |x::y::r,e,s,h,he=>by
  simp only[unX]at he;split at he
  .rename_i h1;split at he
   .rename_i a ha;simp only[jb]at he;subst he;show (x.ex,pack x.ps x.ts a)=(e,s);rw[<-BD ha,h1.1]
   .simp at he
  .split at he
   .rename_i b hb;simp only[jb]at he;subst he;exact G0 (y::r) e s b hb
   .simp at he
structure mz where
 b:U
 ps:D IPat
 ts:D Ty
 exits:D XD
 step:HL ts->I (HL ts ⊕ XT exits)
def ug:D mz->U->Snap->(R:Type)->(Ex->Snap->I R)->I R
 |[],_,_,_,_=>X
 |d::ds,b,s,R,k=>if d.b=b then match rI d.ps d.ts s with
   |some h=>(loopOpt d.step h).bind λx=>Ed d.exits x k
   |none=>X
  else ug ds b s R k
theorem Ms:∀ds:D mz,LFun (ug ds)
 |[]=>λ_ _=>⟨X,λ_ _=>rfl⟩
 |d::ds=>λb s=>by
  simp only[ug];split
  .split
   .rename_i h _;cases hq:loopOpt d.step h with
    |none=>exact⟨X,λ_ _=>rfl⟩
    |some x=>exact⟨O (rK d.exits x),λR k=>Mr d.exits x k⟩
   .exact⟨X,λ_ _=>rfl⟩
  .exact Ms ds b s
structure MrD where
 b:U
 m:U
 nm:U
 ps:D IPat
 ts:D Ty
 em:U
 v:Ty
 G:HL ts->Ç->v.den->(R:Type)->(v.den->I R)->I R
def mrL:D MrD->U->Snap->(R:Type)->(Snap->I R)->I R
 |[],_,_,_,_=>X
 |d::ds,b,s,R,k=>if d.b=b then match rI d.ps d.ts s,uY d.em d.v s with
   |some h,O xs=>(tn (λq z=>d.G h q z d.v.den O) xs).bind λys=>k (kG s d.em d.v ys)
   |_,_=>X
  else mrL ds b s R k
def mrF:D MrD->U->I (U×U)
 |[],_=>X
 |d::ds,b=>if d.b=b then O (d.m,d.nm) else mrF ds b
theorem Mt:∀ds:D MrD,MFun (mrL ds)
 |[]=>λ_ _=>⟨X,λ_ _=>rfl⟩
 |d::ds=>λb s=>by
  simp only[mrL];split
  .split
   .rename_i h xs _ _;cases tn (λq z=>d.G h q z d.v.den O) xs with
    |none=>exact⟨X,λ_ _=>rfl⟩
    |some ys=>exact⟨O (kG s d.em d.v ys),λ_ _=>rfl⟩
   .exact⟨X,λ_ _=>rfl⟩
  .exact Mt ds b s
theorem UP{b m nm:U}:∀{ds:D MrD},mrF ds b=O (m,nm)->∃d∈ds,d.b=b/\d.m=m/\d.nm=nm/\∀s R k,mrL ds b s R k=match rI d.ps d.ts s,uY d.em d.v s with
   |some h,O xs=>(tn (λq z=>d.G h q z d.v.den O) xs).bind λys=>k (kG s d.em d.v ys)
   |_,_=>X
 |[],h=>by simp[mrF]at h
 |d::ds,h=>by
  simp only[mrF]at h;split at h
  .rename_i hb;simp only[jb,jf]at h;refine⟨d,af,hb,h.1,h.2,λs R k=>?_⟩;simp only[mrL,hb,if_true]
  .rename_i hb;obtain⟨d',hm,h1,h2,h3,h4⟩:=UP h;refine⟨d',by simp[hm],h1,h2,h3,λs R k=>?_⟩;rw[<-h4];simp only[mrL,hb,zi]
def mrPd(b:U)(c:Í):MrP:=(mrP b c).getD ⟨0,0,0,0,0, #[],.skip⟩
structure Mu(E:Env)(c:Í)(d:MrD):Prop where
 em:isM d.em=Å
 bx:∀h zs,(dv E.np (E.keep d.b) (kG (pack d.ps d.ts h) d.em d.v zs)).bx d.nm = .live (.lst d.em (.pair (.int .i64) d.v) zs Y)
 sl:∀h zs,(dv E.np (E.keep d.b) (kG (pack d.ps d.ts h) d.em d.v zs)).sl d.m = .one (.one (.ol d.nm))
 step:∀h zs q z (R:Type) (k:Snap->I R),CH E d.b (mrPd d.b c) d.m (kG (pack d.ps d.ts h) d.em d.v zs) d.v q z k=
  d.G h q z R (λy=>k (kG (pack d.ps d.ts h) d.em d.v (@iq _ _ (Ty.int .i64).keq zs q y)))
theorem Ŭ(t:Ty)(v:t.den):(TV.mk t v).to t=O v:=by simp[TV.to]
theorem ŭ(s:Snap)(em:U)(v:Ty)(zs:D (Ç×v.den)):uY em v (kG s em v zs)=O zs:=by
 unfold uY kG;simp only[yg,vq,Option.some_or,if_true];exact Ŭ (.list (.pair (.int .i64) v)) zs
theorem Ů{em:U}{v:Ty}{s:Snap}{xs:D (Ç×v.den)}(h:uY em v s=O xs):s=kG s em v xs:=by
 unfold uY at h;split at h
 .rename_i e a zs hl;split at h
  .rename_i he;subst he;have:=mJ h;cases this;obtain⟨pre,rfl⟩:=List.getLast?_eq_some_iff.1 hl;unfold kG;rw[List.dropLast_concat]
  .simp at h
 .simp at h
theorem UQ{α β:Type}{G:α->β->I β}:∀{xs ys:D (α×β)},tn G xs=O ys->All2 (λx y=>y.1=x.1/\G x.1 x.2=O y.2) xs ys
 |[],ys,h=>by
  simp only[tn,jb]at h;subst h;trivial
 |x::r,ys,h=>by
  simp only[tn]at h;cases hg:G x.1 x.2 with
  |none=>rw[hg]at h;simp at h
  |some z=>
   rw[hg,ja]at h;cases hr:tn G r with
   |none=>rw[hr]at h;simp at h
   |some r'=>rw[hr,ja,jb]at h;subst h;exact⟨⟨rfl,hg⟩,UQ hr⟩
theorem ů{E:Env}(hF:CFun E.C)(hz:E.nz=Y)(hL:LFun E.L/\MFun E.M){c:Í}{ds:D MrD}{b:U}(hm:E.mr=mrF ds)(hM:E.M=mrL ds)(hs:∀d∈ds,d.b=b->Mu E c d):MrOK E b c:=by
 intro m nm p hb hp s R k r h;rw[hm]at hb;obtain⟨d,hd,rfl,rfl,rfl,he⟩:=UP hb;have bJ:=hs d hd rfl;rw[hM,he]at h;split at h
 case h_2=>simp at h
 rename_i hh xs hu hg;cases hq:tn (λq z=>d.G hh q z d.v.den O) xs with
 |none=>rw[hq]at h;simp at h
 |some ys=>
 rw[hq,ja]at h;obtain rfl:=BD hu;have Ű:mrPd d.b c=p:=by unfold mrPd;rw[hp];rfl
 refine⟨d.em,d.v,xs,ys,bJ.em,Ů hg,λzs=>⟨bJ.bx hh zs,bJ.sl hh zs⟩,(UQ hq).mono λx y jJ=>⟨jJ.1,λzs=>?_⟩,h⟩;obtain⟨o,ho⟩:=Ť hF hz hL d.b p d.m (kG (pack d.ps d.ts hh) d.em d.v []) d.v x.1 x.2;have aO:=λzs R k=>bJ.step hh zs x.1 x.2 R k;rw[Ű]at aO
 let inv:Snap->d.v.den:=λs=>match uY d.em d.v s with
  |some ((_,y)::_)=>y
  |_=>d.v.dflt
 have hinv:∀y,inv (kG (pack d.ps d.ts hh) d.em d.v (@iq _ _ (Ty.int .i64).keq [] x.1 y))=y:=λy=>by
  show (match uY d.em d.v _ with
   |some ((_,y)::_)=>y
   |_=>d.v.dflt)=y
  rw[ŭ];rfl
 have hG:∀(R:Type)(κ:d.v.den->I R),d.G hh x.1 x.2 R κ=o.bind λs=>κ (inv s):=λR κ=>by
  rw[<-ho];show _=CH E d.b p d.m (kG (pack d.ps d.ts hh) d.em d.v []) d.v x.1 x.2 λs=>κ (inv s);rw[aO];congr 1;funext y;rw[hinv]
 rw[aO,hG];have h2:=jJ.2;rw[hG]at h2;cases o with
 |none=>simp at h2
 |some s0=>rw[ja,jb]at h2;rw[ja,h2]
def mrAt(c:Í)(b:U):Code:=(((eD 0 c).find? λx=>Nat.beq x.1 b).getD (0,.skip)).2
def yP(E:Env)(c:Í):D MrD->Prop
 |[]=>å
 |d::ds=>Mu E (mrAt c d.b) d/\yP E c ds
theorem yP.get{E:Env}{c:Í}:∀{ds:D MrD},yP E c ds->∀d∈ds,Mu E (mrAt c d.b) d
 |[],_,d,h=>by simp at h
 |x::r,hs,d,h=>by
  rcases jl.1 h with rfl|h
  .exact hs.1
  .exact yP.get hs.2 d h
theorem UR:∀{l:D (U×Í)}{x:U×Í},(l.map (·.1)).Nodup->x∈l->l.find? (λy=>Nat.beq y.1 x.1)=O x
 |[],x,_,h=>by simp at h
 |y::r,x,hn,h=>by
  have hc:=zg.1 (show (y.1::r.map (·.1)).Nodup from hn);rcases jl.1 h with rfl|h
  .rw[Ý,Nat.beq_refl]
  .have br:y.1≠x.1:=λe=>hc.1 (e▸ki.2 ⟨x,h,rfl⟩);rw[Ý,beqF br];exact UR hc.2 h
def uk(E:Env)(d:mz)(e:Ex)(σ:St):I (HL d.ts ⊕ XT d.exits):=
 match e with
 |.normal=>match jM E.np (E.keep d.b) σ with
  |some s=>match rI d.ps d.ts s with
   |some h=>O (.inl h)
   |none=>X
  |none=>X
 |e=>match jM E.np (E.keepX d.b e) σ with
  |some s=>match unX d.exits e s with
   |some x=>O (.inr x)
   |none=>X
  |none=>X
def ukR(E:Env)(d:mz)(ps:Ó U)(x y:Í)(p:I (D Item))(e:Ex)(σ:St):I (HL d.ts ⊕ XT d.exits):=
 match p,e with
 |some q,.normal=>match jM E.np (E.keep d.b) σ with
  |some s=>match rI d.ps d.ts (q++s) with
   |some h=>O (.inl h)
   |none=>X
  |none=>X
 |_,e=>cond (pinK ps x y (E.keepX d.b e)) (match jM E.np (E.keepX d.b e) σ with
  |some s=>match unX d.exits e s with
   |some x=>O (.inr x)
   |none=>X
  |none=>X) X
def ű(E:Env)(d:mz)(h:HL d.ts):Í->I (HL d.ts ⊕ XT d.exits)
 |.rangeFunc g ps x y=>CG E d.b g ps x y (pack d.ps d.ts h) (ukR E d ps x y)
 |c=>fw E d.b c (dv E.np (E.keep d.b) (pack d.ps d.ts h)) (uk E d)
def G1(E:Env)(c:Í)(d:mz):Prop:=∀h,ű E d h c=d.step h
def outS(d:mz)(r:HL d.ts ⊕ XT d.exits):Snap ⊕ Ex×Snap:=match r with
 |.inl a=> .inl (pack d.ps d.ts a)
 |.inr x=> .inr (rK d.exits x)
theorem Ų{E:Env}(hF:CFun E.C)(hz:E.nz=Y)(hL:LFun E.L/\MFun E.M){g:Operand}{ps:Ó U}{x y:Í}{d:mz}(hs:G1 E (.rangeFunc g ps x y) d)(h:HL d.ts)(r:HL d.ts ⊕ XT d.exits):d.step h=O r->
  AB E d.b g ps x y (pack d.ps d.ts h)=O (outS d r):=by
 intro hr;obtain⟨o,ho⟩:=ţ hF hz hL d.b g ps x y (pack d.ps d.ts h);rw[<-hs h]at hr;have h1:O r=_:=hr.symm.trans (ho _ (λz=>ukR E d ps x y z.1 z.2.1 z.2.2));cases o with
 |none=>simp at h1
 |some z=>
  obtain⟨p,e,σ⟩:=z;simp only[ja]at h1
  have h2:=ho _ (λz:I (D Item)×Ex×St=>match z.1,z.2.1 with
   |some q,.normal=>match jM E.np (E.keep d.b) z.2.2 with
    |some s'=>O (Sum.inl (q++s'))
    |none=>X
   |_,e=>cond (pinK ps x y (E.keepX d.b e)) (match jM E.np (E.keepX d.b e) z.2.2 with
    |some s'=>O (Sum.inr (e,s'))
    |none=>X) X)
  have h3:AB E d.b g ps x y (pack d.ps d.ts h)=_:=h2;rw[h3,ja];clear h3 h2 hr ho;dsimp only;have h1:=h1.symm;unfold ukR at h1
  have hx:∀e,(cond (pinK ps x y (E.keepX d.b e)) (match jM E.np (E.keepX d.b e) σ with
    |some s=>match unX d.exits e s with
     |some x=>O (Sum.inr x)
     |none=>X
    |none=>X) X:I (HL d.ts ⊕ XT d.exits))=O r->(cond (pinK ps x y (E.keepX d.b e)) (match jM E.np (E.keepX d.b e) σ with
    |some s'=>O (Sum.inr (e,s'))
    |none=>X) X:I (Snap ⊕ Ex×Snap))=O (outS d r):=by
   intro e h1;cases hp:pinK ps x y (E.keepX d.b e) with
   |false=>rw[hp]at h1;simp at h1
   |true=>
    rw[hp,jc]at h1;rw[jc];split at h1
    .rename_i s dy;split at h1
     .rename_i hh hu;simp only[jb]at h1;subst h1;simp only[outS];rw[G0 _ _ _ _ hu]
     .simp at h1
    .simp at h1
  cases p with
  |none=>exact hx e h1
  |some q=>
   cases e with
   |normal=>
    dsimp only at h1 ⊢
    split at h1
    .rename_i s dy;split at h1
     .rename_i hh hu;simp only[jb]at h1;subst h1;simp only[outS];rw[<-BD hu]
     .simp at h1
    .simp at h1
   |exit i=>exact hx _ h1
   |ret=>exact hx _ h1
theorem ų{E:Env}(hF:CFun E.C)(hz:E.nz=Y)(hL:LFun E.L/\MFun E.M){c:Í}{d:mz}(hs:∀h,fw E d.b c (dv E.np (E.keep d.b) (pack d.ps d.ts h)) (uk E d)=d.step h)(h:HL d.ts)(r:HL d.ts ⊕ XT d.exits):d.step h=O r->
  xi E d.b c (pack d.ps d.ts h)=O (match r with|.inl a=> .inl (pack d.ps d.ts a)|.inr x=> .inr (rK d.exits x)):=by
 intro hr;obtain⟨o,ho⟩:=D7 hF hz hL c d.b (dv E.np (E.keep d.b) (pack d.ps d.ts h));rw[<-hs h]at hr;have h1:O r=_:=hr.symm.trans (ho _ (λz=>uk E d z.1 z.2));cases o with
 |none=>simp at h1
 |some z=>
  obtain⟨e,σ⟩:=z;simp only[ja]at h1
  have h2:=ho _ (λz:Ex×St=>match z.1 with
   |.normal=>match jM E.np (E.keep d.b) z.2 with
    |some s'=>O (Sum.inl s')
    |none=>X
   |e=>match jM E.np (E.keepX d.b e) z.2 with
    |some s'=>O (Sum.inr (e,s'))
    |none=>X)
  have h3:xi E d.b c (pack d.ps d.ts h)=_:=h2;rw[h3,ja];clear h3 h2 hr ho;dsimp only;have h1:=h1.symm;unfold uk at h1;cases e with
  |normal=>
   dsimp only at h1 ⊢
   split at h1
   .rename_i s dy;split at h1
    .rename_i hh hu;simp only[jb]at h1;subst h1;dsimp only;rw[<-BD hu]
    .simp at h1
   .simp at h1
  |exit i=>
   dsimp only at h1 ⊢
   split at h1
   .rename_i s dy;split at h1
    .rename_i hh hu;simp only[jb]at h1;subst h1;dsimp only;rw[G0 _ _ _ _ hu]
    .simp at h1
   .simp at h1
  |ret=>
   dsimp only at h1 ⊢
   split at h1
   .rename_i s dy;split at h1
    .rename_i hh hu;simp only[jb]at h1;subst h1;dsimp only;rw[G0 _ _ _ _ hu]
    .simp at h1
   .simp at h1
theorem Ŵ{E:Env}(hF:CFun E.C)(hz:E.nz=Y)(hL:LFun E.L/\MFun E.M){c:Í}{d:mz}(hs:G1 E c d)
  (he:∀s R k,E.L d.b s R k=match rI d.ps d.ts s with|some h=>(loopOpt d.step h).bind λx=>Ed d.exits x k|none=>X):Bn E d.b c:=by
 intro s R k r h;rw[he]at h;split at h
 .rename_i hl hu;cases hq:loopOpt d.step hl with
  |none=>simp[hq]at h
  |some x=>
   rw[hq,ja,Mr]at h;obtain⟨n,hn⟩:=Ec hq;refine⟨n,(rK d.exits x).1,(rK d.exits x).2,?_,h⟩;rw[BD hu]
   exact UO (f:=J7 E d.b c) (p:=pack d.ps d.ts) (q:=rK d.exits) (λa r hr=>by
    cases c with
    |rangeFunc g ps x y=>have:=Ų hF hz hL hs a r hr;cases r<;>exact this
    |_=>have:=ų hF hz hL hs a r hr;cases r<;>exact this) hn
 .simp at h
def lpAt(c:Í)(j:U):Code:=((eD 0 c).getD j (0,.skip)).2
def wA(E:Env)(c:Í):U->D mz->Prop
 |_,[]=>å
 |j,d::ds=>G1 E (lpAt c j) d/\wA E c (j+1) ds
theorem wA.get{E:Env}{c:Í}:∀{ds:D mz}{i j:U}{d:mz},wA E c i ds->ds[j]? = O d->G1 E (lpAt c (i+j)) d
 |[],_,_,_,_,h=>by simp at h
 |x::xs,i,0,d,hs,h=>by simp at h;subst h;exact hs.1
 |x::xs,i,j+1,d,hs,h=>by
  have:=wA.get (i:=i+1) (j:=j) hs.2 (by simpa using h);rwa[show i+(j+1)=i+1+j by omega]
theorem US:∀{ds:D mz}{j:U}{d:mz},nN (ds.map (·.b))=Å->ds[j]? = O d->∀s R k,ug ds d.b s R k=match rI d.ps d.ts s with|some h=>(loopOpt d.step h).bind λx=>Ed d.exits x k|none=>X
 |[],_,_,_,h=>by simp at h
 |x::xs,0,d,_,h=>by simp at h;subst h;intro s R k;simp only[ug,if_true]
 |x::xs,j+1,d,hn,h=>by
  simp only[qe,nN,ji,qi,qo,ku]at hn;have hm:d∈xs:=kp (by simpa using h);have br:x.b≠d.b:=λe=>hn.1 (e▸ki.2 ⟨d,hm,rfl⟩);intro s R k;simp only[ug,br,zi];exact US (j:=j) hn.2 (by simpa using h) s R k
theorem ŵ{E:Env}(hF:CFun E.C)(hz:E.nz=Y){c:Í}{ds:D mz}(hE:E.L=ug ds)(hm:(eD 0 c).map (·.1)=ds.map (·.b))(hn:nN (ds.map (·.b))=Å)(hs:wA E c 0 ds){ms:D MrD}(LY:E.mr=mrF ms)(hM:E.M=mrL ms)(Ee:yP E c ms) :
  ∀x∈eD 0 c,Bn E x.1 x.2/\MrOK E x.1 x.2:=by
 intro x hx;have UT:LFun E.L/\MFun E.M:=⟨hE▸Ms ds,hM▸Mt ms⟩;have dP:((eD 0 c).map (·.1)).Nodup:=hm▸xG hn;refine⟨?_,ů hF hz UT LY hM λd hd hb=>?_⟩
 rotate_left
 .have:=Ee.get d hd;unfold mrAt at this;rw[hb,UR dP hx]at this;exact this
 obtain⟨j,hj⟩:=vc.1 hx;have wh:(ds.map (·.b))[j]? = O x.1:=by rw[<-hm];simp[hj]
 rw[qt]at wh;cases hd:ds[j]? with
 |none=>simp[hd]at wh
 |some d=>
  simp only[hd,qa,jb]at wh;have h1:=wA.get hs hd;rw[ko]at h1;have h2:lpAt c j=x.2:=by simp[lpAt,Ù,hj]
  rw[h2]at h1;have:=Ŵ (E:=E) hF hz UT h1 (λs R k=>by rw[hE];exact US hn hd s R k);rwa[wh]at this
inductive VPat where
 |v (t:Ty)
 |own (e:U) (t:Ty)
 |box (ts:D Ty)
 |hd
 |vn (t:Ty) (ns:D U)
 |clo (f:U) (caps:D CPat)
 |so (ls:D (I U×Ty))
 |raw (ns:D U) (ps:D IPat)
 deriving È
inductive OPat where
 |ref (ts:D Ty)
 |rl (t:Ty)
 deriving È
def rlP:RL->(I U×Ty)×TV
 |.d x=>((X,x.t),x)
 |.own e x=>((O e,x.t),x)
def rlsF:D (I U×Ty)->D TV->D RL
 |[],_=>[]
 |(X,_)::ps,xs=> .d (xs.headD tv0)::rlsF ps xs.tail
 |(O e,_)::ps,xs=> .own e (xs.headD tv0)::rlsF ps xs.tail
theorem Mv:∀(ls:D RL)(r:D TV),rlsF (ls.map λl=>(rlP l).1) ((ls.map λl=>(rlP l).2)++r)=ls
 |[],r=>rfl
 |.d x::ls,r=>by
  have:=Mv ls r;show RL.d _::rlsF _ (_++r)=_;rw[this];rfl
 |.own e x::ls,r=>by
  have:=Mv ls r;show RL.own e _::rlsF _ (_++r)=_;rw[this];rfl
def G2:D IPat->U
 |[]=>0
 |c::cs=>c.n+G2 cs
theorem Mw:∀(cs:Snap)(r:D TV),yO (my cs).1 ((my cs).2++r)=cs/\G2 (my cs).1=(my cs).2.length
 |[],r=>⟨rfl,rfl⟩
 |c::cs,r=>by
  simp only[my,yO,G2,jo,jn];have h1:=UL c ((my cs).2++r);have h2:=Mw cs r;rw[h1.1,h1.2,vv,h2.1,h2.2];exact⟨rfl,rfl⟩
def rvP:RV->VPat×D TV
 |.v x=>(.v x.t,[x])
 |.own e x=>(.own e x.t,[x])
 |.box ls=>(.box (ls.map (·.t)),ls)
 |.hd n=>(.hd,[⟨.int .i64,(n:Ç)⟩])
 |.vn x ns=>(.vn x.t ns,[x])
 |.clo f caps=>(.clo f (ob caps).1,(ob caps).2)
 |.so ls=>(.so (ls.map λl=>(rlP l).1),ls.map λl=>(rlP l).2)
 |.raw ns s=>(.raw ns (my s).1,(my s).2)
def VPat.n:VPat->U
 |.v _=>1
 |.own _ _=>1
 |.box ts=>ts.length
 |.hd=>1
 |.vn _ _=>1
 |.clo _ cs=>BA cs
 |.so ls=>ls.length
 |.raw _ ps=>G2 ps
def rvF:VPat->D TV->RV
 |.v _,xs=> .v (xs.headD tv0)
 |.own e _,xs=> .own e (xs.headD tv0)
 |.box ts,xs=> .box (xs.take ts.length)
 |.hd,xs=> .hd (Mn (xs.headD tv0))
 |.vn _ ns,xs=> .vn (xs.headD tv0) ns
 |.clo f cs,xs=> .clo f (Bz cs xs)
 |.so ls,xs=> .so (rlsF ls xs)
 |.raw ns ps,xs=> .raw ns (yO ps xs)
theorem Ŷ(c:RV)(r:D TV):rvF (rvP c).1 ((rvP c).2++r)=c/\(rvP c).1.n=(rvP c).2.length:=by
 cases c with
 |v x=>exact⟨rfl,rfl⟩
 |own e x=>exact⟨rfl,rfl⟩
 |hd n=>exact⟨rfl,rfl⟩
 |vn x ns=>exact⟨rfl,rfl⟩
 |box ls=>simp[rvP,rvF,VPat.n]
 |clo f cs=>have:=GX cs r;simp only[rvP,rvF,VPat.n];exact⟨by rw[this.1],this.2⟩
 |so ls=>exact⟨by simp only[rvP,rvF];rw[Mv],by simp[rvP,VPat.n]⟩
 |raw ns s=>exact⟨by simp only[rvP,rvF];rw[(Mw s r).1],(Mw s r).2⟩
def outP:Out->OPat×D TV
 |.ref ls=>(.ref (ls.map (·.t)),ls)
 |.rl x=>(.rl x.t,[x])
def OPat.n:OPat->U
 |.ref ts=>ts.length
 |.rl _=>1
def outF:OPat->D TV->Out
 |.ref ts,xs=> .ref (xs.take ts.length)
 |.rl _,xs=> .rl (xs.headD tv0)
theorem ŷ(c:Out)(r:D TV):outF (outP c).1 ((outP c).2++r)=c/\(outP c).1.n=(outP c).2.length:=by
 cases c with
 |rl x=>exact⟨rfl,rfl⟩
 |ref ls=>simp[outP,outF,OPat.n]
def rvsP:D RV->D VPat×D TV
 |[]=>([],[])
 |c::cs=>((rvP c).1::(rvsP cs).1,(rvP c).2++(rvsP cs).2)
def rvsF:D VPat->D TV->D RV
 |[],_=>[]
 |c::cs,xs=>rvF c xs::rvsF cs (xs.drop c.n)
def rvsN:D VPat->U
 |[]=>0
 |c::cs=>c.n+rvsN cs
theorem Mx:∀(cs:D RV)(r:D TV),rvsF (rvsP cs).1 ((rvsP cs).2++r)=cs/\rvsN (rvsP cs).1=(rvsP cs).2.length
 |[],r=>⟨rfl,rfl⟩
 |c::cs,r=>by
  simp only[rvsP,rvsF,rvsN,jo,jn];have h1:=Ŷ c ((rvsP cs).2++r);have h2:=Mx cs r;rw[h1.1,h1.2,vv,h2.1,h2.2];exact⟨rfl,rfl⟩
def wB:D Out->D OPat×D TV
 |[]=>([],[])
 |c::cs=>((outP c).1::(wB cs).1,(outP c).2++(wB cs).2)
def G3:D OPat->D TV->D Out
 |[],_=>[]
 |c::cs,xs=>outF c xs::G3 cs (xs.drop c.n)
theorem UU:∀(cs:D Out)(r:D TV),G3 (wB cs).1 ((wB cs).2++r)=cs
 |[],r=>rfl
 |c::cs,r=>by
  simp only[wB,G3,jo];have h1:=ŷ c ((wB cs).2++r);rw[h1.1,h1.2,vv,UU cs r]
structure RPat where
 vs:D VPat
 os:D OPat
 deriving È
def sQ(rp:RPat)(ts:D Ty)(h:HL ts):Ret:=⟨rvsF rp.vs (ofHL ts h),G3 rp.os ((ofHL ts h).drop (rvsN rp.vs))⟩
def G4(rp:RPat)(ts:D Ty)(r:Ret):I (HL ts):=
 if (rvsP r.vals).1=rp.vs/\(wB r.outs).1=rp.os then toHL ts ((rvsP r.vals).2++(wB r.outs).2) else X
theorem Ÿ{rp:RPat}{ts:D Ty}{r:Ret}{h:HL ts}(hs:G4 rp ts r=O h):r=sQ rp ts h:=by
 unfold G4 at hs;split at hs
 .rename_i hp;have:=GW hs;unfold sQ;rw[<-this,<-hp.1,<-hp.2,(Mx r.vals _).1,(Mx r.vals []).2,vv];have h2:=UU r.outs [];rw[qh]at h2;rw[h2]
 .simp at hs
structure Con where
 f:U
 ps:D APat
 ts:D Ty
 rp:RPat
 rs:D Ty
 F:HL ts->I (HL rs)
def Con.C(c:Con)(args:D Arg)(R:Type)(k:Ret->I R):I R:=
 match GZ c.ps c.ts args with
 |some h=>(c.F h).bind λx=>k (sQ c.rp c.rs x)
 |none=>X
def Con.OK(P:Á)(c:Con):Prop:=FnOK P c.f c.C
def BE{α:Type}(a b:I α):I α:=match a with
 |some x=>O x
 |none=>b
theorem Ź{P:Á}{f:U}{ps:D APat}{ts:D Ty}{rp:RPat}{rs:D Ty}{F G:HL ts->I (HL rs)}(h1:Con.OK P ⟨f,ps,ts,rp,rs,F⟩)(h2:Con.OK P ⟨f,ps,ts,rp,rs,G⟩) :
  Con.OK P ⟨f,ps,ts,rp,rs,λh=>BE (F h) (G h)⟩:=by
 intro args R k r hk;unfold Con.C at hk;split at hk
 .rename_i h hu;have e1:=h1 args R k r;have e2:=h2 args R k r;unfold Con.C at e1 e2;simp only[hu]at e1 e2;cases hF:F h with
  |none=>simp only[BE,hF]at hk;exact e2 hk
  |some x=>simp only[BE,hF]at hk;rw[hF]at e1;exact e1 hk
 .simp at hk
def conC:D Con->U->D Arg->(R:Type)->(Ret->I R)->I R
 |[],_,_,_,_=>X
 |c::cs,f,args,R,k=>if c.f=f then (if (uf args).1=c.ps then c.C args R k else conC cs f args R k) else conC cs f args R k
theorem My{P:Á}{f:U}:FnOK P f (λ_ _ _=>X):=by
 intro args R k r h;simp at h
def Ef(P:Á):D Con->Prop
 |[]=>å
 |c::cs=>c.OK P/\Ef P cs
theorem Mz{P:Á}:∀cs:D Con,Ef P cs->jS P (conC cs)
 |[],_,_=>My
 |c::cs,h,f=>by
  have ih:=Mz cs h.2 f;intro args R k r hk;simp only[conC]at hk;split at hk
  .rename_i hf;subst hf;split at hk
   .exact h.1 args R k r hk
   .exact ih args R k r hk
  .exact ih args R k r hk
theorem MA:∀cs:D Con,CFun (conC cs)
 |[]=>λ_ _=>⟨X,λ_ _=>rfl⟩
 |c::cs=>λf args=>by
  have ih:=MA cs f args;simp only[conC];split
  .split
   .unfold Con.C;split
    .rename_i h _;cases hq:c.F h with
     |none=>exact⟨X,λ_ _=>rfl⟩
     |some x=>exact⟨O (sQ c.rp c.rs x),λ_ _=>rfl⟩
    .exact⟨X,λ_ _=>rfl⟩
   .exact ih
  .exact ih
def MB:D (U×Keep)->U->Keep
 |[],_=>⟨[],[],[],[]⟩
 |x::r,b=>if x.1=b then x.2 else MB r b
def MC:D (U×Ex×Keep)->U->Ex->Keep
 |[],_,_=>⟨[],[],[],[]⟩
 |x::r,b,e=>if x.1=b/\x.2.1=e then x.2.2 else MC r b e
def MD:D (U×D É)->U->D É
 |[],_=>[]
 |x::r,b=>if x.1=b then x.2 else MD r b
def dwL:D (U×D (D U))->U->D (D U)
 |[],_=>[]
 |x::r,b=>if x.1=b then x.2 else dwL r b
def bwL:D (U×(É×Ty))->U->I (É×Ty)
 |[],_=>X
 |x::r,f=>if x.1=f then O x.2 else bwL r f
def G5(P:Á):D (U×(É×Ty))->Prop
 |[]=>å
 |x::r=>BwK P x.1 x.2/\G5 P r
theorem UW{P:Á}:∀{l:D (U×(É×Ty))},G5 P l->∀f t,bwL l f=O t->BwK P f t
 |[],_,f,t,h=>by simp[bwL]at h
 |x::r,hl,f,t,h=>by
  simp only[bwL]at h;split at h
  .rename_i e;simp only[jb]at h;rw[<-e,<-h];exact hl.1
  .exact UW hl.2 f t h
structure FnD where
 N:U
 np:U
 cs:D Con:=[]
 ds:D mz:=[]
 modes:D (U×D É):=[]
 keep:D (U×Keep):=[]
 keepX:D (U×Ex×Keep):=[]
 ro:D Bool:=[]
 dw:D (U×D (D U)):=[]
 hd:Bool:=Y
 ns:D Nat:=[]
 bw:D (U×(É×Ty)):=[]
 so:D SoK:=[]
 cr:D Nat:=[]
 un:D Nat:=[]
 unr:Nat:=2
 pre:D (U×D Gh):=[]
 rw:Bool:=Y
 rn:D Nat:=[]
 b1:D Nat:=[]
 ks:D Nat:=[]
 ms:D MrD:=[]
 mvf:D Nat:=[]
 pa:D (U×U×Ty):=[]
 sc:Bool:=Y
def paL:D (U×U×Ty)->U->I (U×Ty)
 |[],_=>X
 |x::r,i=>if x.1=i then O x.2 else paL r i
def preL:D (U×D Gh)->U->D Gh
 |[],_=>[]
 |x::r,i=>if x.1=i then x.2 else preL r i
def FnD.env(d:FnD)(T:D (I TyI)):Env:=⟨⟨d.N,λ_=>Y⟩,d.np,tab T,conC d.cs,MD d.modes,ug d.ds,MB d.keep,MC d.keepX,d.ro,dwL d.dw,Y,d.hd,d.ns,bwL d.bw,d.so,d.cr,λb=>cond (d.un.contains b) d.unr 0,preL d.pre,d.rw,d.rn,d.b1,λi=>d.ks.contains i,λf=>d.mvf.contains f,mrF d.ms,mrL d.ms,paL d.pa,d.sc,0⟩
theorem ź{P:Á}{T:D (I TyI)}(hT:cI P (tab T))(h9:P.follows .mixedOrders=Å)(d:FnD)(jX:Con)(fn:æ)(c:Í)(hf:P.funcs[jX.f]? = O fn)(hb:fn.body=O c)
  (hN : fn.ntmps = d.N) (yL : d.np ≤ d.N) (bY : (fn.name == "runtime.NumGoroutine") = Y) (dj : Ef P d.cs) (hm : (eD 0 c).map (·.1) = d.ds.map (·.b)) (hn : nN (d.ds.map (·.b)) = Å)
  (hs:wA (d.env T) c 0 d.ds)(hF:∀h,tu (d.env T) fn (rJ jX.ps jX.ts h) (G4 jX.rp jX.rs)=jX.F h)(iP:G5 P d.bw:=by trivial)(Ee:yP (d.env T) c d.ms:=by trivial):jX.OK P:=by
 have hC:jS P (d.env T).C:=Mz d.cs dj;have rL:CFun (d.env T).C:=MA d.cs;have hL:LFun (d.env T).L/\MFun (d.env T).M:=⟨Ms d.ds,Mt d.ms⟩;have tN:=UB (E:=d.env T) hT hC rL h9 hf hb hN rfl (UW iP) yL bY (ŵ rL rfl rfl hm hn hs rfl rfl Ee);intro args R k r hk;unfold Con.C at hk;split at hk
 .rename_i h hu;rw[Mp hu];cases hq:jX.F h with
  |none=>simp[hq]at hk
  |some x=>
   rw[hq,ja]at hk;refine tN _ R k r ?_;obtain⟨o,ho⟩:=ť rL rfl hL fn (rJ jX.ps jX.ts h);have h1:O x=_:=((hF h).trans hq).symm.trans (ho _ _);cases o with
   |none=>simp at h1
   |some ret=>rw[ja]at h1;show tu (d.env T) fn (rJ jX.ps jX.ts h) k=O r;refine(ho _ _).trans ?_;rw[ja,Ÿ h1.symm];exact hk
 .simp at hk
theorem cOf{P:Á}{T:D (I TyI)}(hT:cI P (tab T))(h9:P.follows .mixedOrders=Å)(d:FnD)(jX:Con){fn:æ}(hf:P.funcs[jX.f]? = O fn)(dj:Ef P d.cs)
  (hs:wA (d.env T) (fn.body.getD .skip) 0 d.ds)(iP:G5 P d.bw:=by trivial)(hb:fn.body=O (fn.body.getD .skip):=by kernel_rfl)(hN:fn.ntmps=d.N:=by kernel_rfl)
  (yL : Nat.ble d.np d.N = true := by kernel_rfl) (bY : (fn.name == "runtime.NumGoroutine") = false := by kernel_rfl) (hm : (eD 0 (fn.body.getD .skip)).map (·.1) = d.ds.map (·.b) := by kernel_rfl)
  (hn:nN (d.ds.map (·.b))=true:=by kernel_rfl)(hF:∀h,tu (d.env T) fn (rJ jX.ps jX.ts h) (G4 jX.rp jX.rs)=jX.F h:=by intro h;kernel_rfl)(Ee:yP (d.env T) (fn.body.getD .skip) d.ms:=by trivial):jX.OK P:=
 ź hT h9 d jX fn _ hf hb hN (Nat.le_of_ble_eq_true yL) bY dj hm hn hs hF iP Ee
def lx{α β:Type}(B:(α->I β)->α->I β):U->α->I β
 |0,_=>X
 |n+1,a=>B (lx B n) a
open Classical in
def wC{α β:Type}(B:(α->I β)->α->I β)(a:α):I β:=
 if h:∃x n,lx B n a=O x then O h.choose else X
theorem Ż{α β:Type}{B:(α->I β)->α->I β}{a:α}{x:β}(h:wC B a=O x):∃n,lx B n a=O x:=by
 unfold wC at h;split at h
 .rename_i hx;simp only[jb]at h;obtain⟨m,hm⟩:=hx.choose_spec;exact⟨m,by rw[<-h];exact hm⟩
 .simp at h
theorem UX{α β:Type}{B:(α->I β)->α->I β}{a:α}{x:β}(h1:∃n,lx B n a=O x)(h2:∀n y,lx B n a=O y->y=x):wC B a=O x:=by
 obtain⟨n,hn⟩:=h1;have hx:∃x n,lx B n a=O x:=⟨x,n,hn⟩;unfold wC;rw[dif_pos hx];obtain⟨m,hm⟩:=hx.choose_spec;rw[h2 m _ hm]
theorem ż{P:Á}{f:U}{ps:D APat}{ts:D Ty}{rp:RPat}{rs:D Ty}{B:(HL ts->I (HL rs))->HL ts->I (HL rs)}
  (gQ:∀g,Con.OK P ⟨f,ps,ts,rp,rs,g⟩->Con.OK P ⟨f,ps,ts,rp,rs,B g⟩):Con.OK P ⟨f,ps,ts,rp,rs,wC B⟩:=by
 have all:∀n,Con.OK P ⟨f,ps,ts,rp,rs,lx B n⟩:=by
  intro n;induction n with
  |zero=>
   intro args R k r hk;unfold Con.C at hk;split at hk
   .simp[lx]at hk
   .simp at hk
  |succ n ih=>exact gQ _ ih
 intro args R k r hk;unfold Con.C at hk;split at hk
 .rename_i h hu;cases hq:wC B h with
  |none=>simp[hq]at hk
  |some x=>obtain⟨n,hn⟩:=Ż hq;refine all n args R k r ?_;unfold Con.C;rw[hu];dsimp only;rw[hn];dsimp only at hk;rw[hq]at hk;exact hk
 .simp at hk
def FnD.envN(d:FnD)(T:D (I TyI)):Env:=⟨⟨d.N,λ_=>Y⟩,d.np,tab T,conC d.cs,MD d.modes,ug d.ds,MB d.keep,MC d.keepX,d.ro,dwL d.dw,Å,d.hd,d.ns,λ_=>X,d.so,d.cr,λ_=>0,λ_=>[],Y,[],[],λ_=>Y,λ_=>Y,λ_=>X,λ_ _ _ _=>X,λ_=>X,Y,0⟩
theorem Ž{α R:Type}(xs:D α)(K:D α->I R){r:R}(h:(cond (Ì (([]:D α).length+xs.length<=aF)) (O (([]:D α)++xs)) X).bind K=O r) :
  xd (â xs) (K []) (cond (Ì (([]:D α).length+xs.length<=aF)) (K (([]:D α)++xs)) X)=O r:=by
 cases hd:Ì (([]:D α).length+xs.length<=aF) with
 |false=>rw[hd]at h;simp at h
 |true=>
  rw[hd]at h;simp only[jc,ja]at h ⊢;cases xs with
  |nil=>simp only[qh]at h ⊢;rw[f_];exact h
  |cons x r=>exact h
theorem ž{P:Á}{T:D (I TyI)}(hT:cI P (tab T))(h9:P.follows .mixedOrders=Å)(d:FnD)(f:U)(a:Ty)(e:U)(fn:æ)(c:Í)(hf:P.funcs[f]? = O fn)(hb:fn.body=O c)
  (hN : fn.ntmps = d.N) (yL : d.np ≤ d.N) (bY : (fn.name == "runtime.NumGoroutine") = Y) (dj : Ef P d.cs) (hl : eD 0 c = [])
  (hF:∀(h:D a.den)(R:Type)(k:Ret->I R),tu (d.envN T) fn [.v ⟨.list a,h⟩] k=xd (â h) (k ⟨[.own e ⟨.list a,([]:D a.den)⟩],[]⟩)
   (cond (Ì (([]:D a.den).length+Æ h<=aF)) (k ⟨[.own e ⟨.list a,([]:D a.den)++h⟩],[]⟩) X)) :
  Con.OK P ⟨f,[.v (.list a)],[.list a],⟨[.own e (.list a)],[]⟩,[.list a],λh=>cond (Ì (([]:D a.den).length+Æ h<=aF)) (O (([]:D a.den)++h)) X⟩:=by
 have hC:jS P (d.envN T).C:=Mz d.cs dj;have rL:CFun (d.envN T).C:=MA d.cs;have tN:=UB (E:=d.envN T) hT hC rL h9 hf hb hN rfl (λf t h=>by simp[FnD.envN]at h) yL bY (by rw[hl];simp);intro args R k r hk;unfold Con.C at hk;split at hk
 .rename_i h hu;rw[Mp hu];refine tN _ R k r ?_;refine(hF h R k).trans ?_;exact Ž (α:=a.den) h (λx=>k ⟨[.own e ⟨.list a,x⟩],[]⟩) hk
 .simp at hk
def w64(x:Ç):Int:=IntKind.wrap .i64 x
class LP where
 lp:{α β:Type}->(α->I (α ⊕ β))->α->I β
 rp:{α β:Type}->((α->I β)->α->I β)->α->I β
noncomputable instance realLP:LP:=⟨loopOpt,wC⟩
abbrev jD0(N:U):LP:=⟨λf a=>loopN f N a,λB a=>lx B N a⟩
theorem ik{x:Ç}(h1 : -9223372036854775808<=x)(h2:x<=9223372036854775807):w64 x=x:=IntWalk.i64_in x ⟨h1,h2⟩
def lpK{α β:Type}(r:I (α ⊕ β))(f:α->I β):I β:=match r with
 |none=>X
 |some (.inl s)=>f s
 |some (.inr x)=>O x
theorem aV{α β:Type}(s:α)(f:α->I β):lpK (O (.inl s)) f=f s:=rfl
theorem ba{α β:Type}(x:β)(f:α->I β):lpK (O (.inr x)) f=O x:=rfl
theorem pR{α β γ:Type}(x:α)(f:α->γ)(g:β->γ):sumC (.inl x) f g=f x:=rfl
theorem lN{α β γ:Type}(x:β)(f:α->γ)(g:β->γ):sumC (.inr x) f g=g x:=rfl
theorem bt{α β:Type}(f:α->I (α ⊕ β))(s:α):loopOpt f s=lpK (f s) (loopOpt f):=by
 cases h:f s with
 |none=>
  cases hq:loopOpt f s with
  |none=>rfl
  |some x=>obtain⟨n,hn⟩:=Ec hq;cases n<;>simp[loopN,h]at hn
 |some r=>
  cases r with
  |inl s'=>exact Ū h
  |inr x=>exact ū h
section
variable{S0:aU}{w0:Â}{refs:Refs}
theorem ME{P:Á}{E:Env}(hT:cI P E.T)(hC:jS P E.C){ops:Ó Ú}{R:Type}{k:St->I R}{r:R}{Q:Exit->Ê->Â->Prop}{n:U}{rest:D U}
  (hn:∀σ' a' w' S' γ',Rel E.N E.np S0 w0 refs σ' a' w' S' γ'->dn σ'->k σ'=O r->wpOpsIn (FR X) n P ops Q rest a' w') :
  ∀(l:D Ú)(i:U){σ:St}{a:Ê}{w:Â}{S:aU}{γ:U->Ä},(∀j o,l[j]? = O o->ops[i+j]? = O o/\o.guard=X)->Rel E.N E.np S0 w0 refs σ a w S γ->dn σ->oy E l σ k=O r->
   wpOpsIn (FR X) n P ops Q (ç i l.length++rest) a w
 |[],i,σ,a,w,S,γ,hl,hR,hc,h=>hn _ _ _ _ _ hR hc h
 |o::l,i,σ,a,w,S,γ,hl,hR,hc,h=>by
  simp only[oy]at h;split at h
  .rename_i hd;obtain⟨ho,hg⟩:=hl 0 o rfl;have hw:Ñ o (yielded ops a.tmps)=true:=by simp[Ñ,hg]
   simp only[jq,yk,Î,wpOpsIn,show ops[i]? = O o from ho,hw,if_true];refine GI (.inl rfl) (λ_ _ h=>h) (DC hT hC hR (act:=[]) (λg hg=>by simp at hg) (p:=Y) (λ_=>hc) hd h (λσ' a' w' S' γ' cT dr hk=>?_));exact ME hT hC hn l (i+1) (λj o' hj=>by rw[show i+1+j=i+(j+1) by omega];exact hl (j+1) o' (by simpa using hj)) cT (dr rfl) hk
  .simp at h
theorem Eg{N:NT}{np:U}{fx:U->I Ä}{σ:St}{a:Ê}{W:Â}{S:aU}(bT:a.tmps.size=N.n)(hd:a.defers=[])(bd:∀k,σ.bx k = .free)(hS:∀g o,S g o->g<W.heap.size)
  (ru:∀i,iH S W (λ_=>undef) σ.bx (tm a) (σ.sl i) (tm a i))(MF:∀i v,fx i=O v->N.pin i=Å/\tm a i=v):Rel N np S W { blks:=[],val:=λ_=>X,fix:=fx } σ a W S (λ_=>undef):=
 ⟨bT,hd,ru,λk b h=>by rw[bd]at h;simp at h,λk b g h=>by rw[bd]at h;simp at h,λk k' b b' g _ h=>by rw[bd]at h;simp at h,λ_ _ h=>h,λ_ _ h=> .inl h,hS,λ_ _ _=>rfl,jy _,rfl,rfl,rfl,
  λk v h=>by simp at h,λg o h=>by simp at h,MF⟩
theorem wD{N:NT}{np:U}{fx:U->I Ä}{σ:St}{a:Ê}{w:Â}{S:aU}{γ:U->Ä}(hR:Rel N np S0 w0 { blks:=[],val:=λ_=>X,fix:=fx } σ a w S γ):Grew w0 w:=
 ⟨λg hg=>hR.below g hg (λh=>by have h:g∈([]:D U):=h;simp at h),hR.grow,hR.os,hR.tape,hR.output⟩
theorem ſ{P:Á}{a:Ê}{w:Â}{o:Ú}{cl:Call}(ho:o.op = .call cl){x:Operand}(hc:cl.callee = .value x){l:U}(hx:a.eval x = .func (.yield l) #[] #[]){nx:Next}{w':Â}
  (hy:(Instr.yield l (cl.args.map a.eval)).run P w = .ok nx w'):(execOp a.eval o).run P w = .ok nx w':=by
 simp[execOp,ho,resolve,hc,Deferred.ofValue,hx,invoke,hy]
end
section
variable{S0:aU}{w0:Â}{refs:Refs}
def bwE(T:U->I TyI):Env:=
 { N:=⟨19,λi=>i==0||(i==1||i==11)⟩,np:=0,T:=T,C:=λ_ _ _ _=>X,modes:=λ_=>[],L:=λ_ _ _ _=>X,keep:=λ_=>⟨[],[],[],[]⟩,keepX:=λ_ _=>⟨[],[],[],[]⟩,ro:=[] }
def slF(l:D (U×Cel)):St:={ sl:=λj=>match l.find? (λx=>x.1==j) with|some x=> .one x.2|none=> .one (.one .dead),bx:=λ_=> .free }
def g3(σ:St):I Int:=match σ.sl 3 with
 |.one (.one (.d (.int .i64) v))=>O v
 |_=>X
def g1(σ:St):I (É×Ç):=match σ.sl 8,σ.sl 3 with
 |.one (.one (.d .bool b)),.one (.one (.d (.int .i64) v))=>O (b,v)
 |_,_=>X
def g18(σ:St):I (É×Ç):=match σ.sl 18,σ.sl 3 with
 |.one (.one (.d .bool b)),.one (.one (.d (.int .i64) v))=>O (b,v)
 |_,_=>X
def g16(t:Ty)(σ:St):I (Ç×t.den×Ç):=match σ.sl 12,σ.sl 16,σ.sl 3 with
 |.one (.one (.d (.int .i64) u)),.one c,.one (.one (.d (.int .i64) v))=>match px (λ_=> .gone) t c with
  |some (x,[])=>O (u,x,v)
  |_=>X
 |_,_,_=>X
def lstP(t:Ty)(xs:D t.den):Cel:= .one (.ip [⟨.list t,xs⟩])
def intP(i:Ç):Cel:= .one (.d (.int .i64) i)
theorem Eh(l:D (U×Cel)):dn (slF l):=λi=>by
 simp only[slF];split<;>rfl
theorem jyb{np:U}{σ:St}:RdF np σ (λ_=> .gone):=⟨λ_=> .inr rfl,λk e a xs f h=>by simp at h⟩
theorem Ei{S:aU}{W:Â}{γ:U->Ä}{l:D (U×Cel)}{MG:U->Ä}(h:∀x∈l,bM S W γ (λ_=> .free) x.2 (MG x.1))(i:U):iH S W γ (λ_=> .free) MG ((slF l).sl i) (MG i):=by
 simp only[slF];split
 .rename_i x hx;have:=h x (List.mem_of_find?_eq_some hx);have e:=List.find?_some hx;simp only[va]at e;rw[<-e];exact this
 .exact⟨trivial,λh=>absurd rfl h⟩
theorem MH{P:Á}{T:U->I TyI}(hT:cI P T){LZ n:U}{A:Ó Ú}{σ:St}{fx:U->I Ä}{a:Ê}{w:Â}{S:aU}{γ:U->Ä}{R:Type}{k:St->I R}{r:R}
  (hR:Rel (bwE T).N (bwE T).np S0 w0 { blks:=[],val:=λ_=>X,fix:=fx } σ a w S γ)(hc:dn σ)(h:pz (bwE T) A σ k=O r) :
  (Ã LZ A Y).wpIn (FR X) n P (λe a' w'=>e = .normal/\∃σ' S' γ',Rel (bwE T).N (bwE T).np S0 w0 { blks:=[],val:=λ_=>X,fix:=fx } σ' a' w' S' γ'/\k σ'=O r) a w:=
 wpIn_region (Bj (.inl rfl) (by rintro⟨a,w,h,_⟩;cases h) _ _ _ (Tt hT (λf=>My) hR hc (λσ' a' w' S' γ' cT _ hk=>⟨rfl,σ',S',γ',cT,hk⟩) h))
theorem UY{σ:St}{v:Ç}(h:g3 σ=O v):σ.sl 3 = .one (.one (.d (.int .i64) v)):=by
 unfold g3 at h;split at h
 .rename_i u hu;simp only[jb]at h;subst h;exact hu
 .simp at h
theorem jCH{σ:St}{b:É}{v:Ç}(h:g1 σ=O (b,v)):σ.sl 8 = .one (.one (.d .bool b))/\σ.sl 3 = .one (.one (.d (.int .i64) v)):=by
 unfold g1 at h;split at h
 .rename_i hb hu;simp only[jb,jf]at h;obtain⟨rfl,rfl⟩:=h;exact⟨hb,hu⟩
 .simp at h
theorem jBG{σ:St}{b:É}{v:Ç}(h:g18 σ=O (b,v)):σ.sl 18 = .one (.one (.d .bool b))/\σ.sl 3 = .one (.one (.d (.int .i64) v)):=by
 unfold g18 at h;split at h
 .rename_i hb hu;simp only[jb,jf]at h;obtain⟨rfl,rfl⟩:=h;exact⟨hb,hu⟩
 .simp at h
theorem jBH{t:Ty}{σ:St}{i:Ç}{x:t.den}{v:Ç}(h:g16 t σ=O (i,x,v)):σ.sl 12 = .one (.one (.d (.int .i64) i))/\σ.sl 3 = .one (.one (.d (.int .i64) v))/\∃c,σ.sl 16 = .one c/\px (λ_=> .gone) t c=O (x,[]):=by
 unfold g16 at h;split at h
 .rename_i c _ oG G6 h3;split at h
  .rename_i hx;simp only[jb,jf]at h;obtain⟨rfl,rfl,rfl⟩:=h;exact⟨oG,h3,c,G6,hx⟩
  .simp at h
 .simp at h
theorem BF{N:NT}{np:U}{σ:St}{a:Ê}{w:Â}{S:aU}{γ:U->Ä}(hR:Rel N np S0 w0 refs σ a w S γ){s:U}{v:Ç}(h:σ.sl s = .one (.one (.d (.int .i64) v))):tm a s = .int .i64 v:=by
 have:=hR.slot s;rw[h]at this;have h1:[a.tmps.getD s undef]=[Value.int .i64 v]:=this.1;simpa[tm]using h1
theorem UZ{N:NT}{np:U}{σ:St}{a:Ê}{w:Â}{S:aU}{γ:U->Ä}(hR:Rel N np S0 w0 refs σ a w S γ){s:U}{v:É}(h:σ.sl s = .one (.one (.d .bool v))):tm a s = .bool v:=by
 have:=hR.slot s;rw[h]at this;have h1:[a.tmps.getD s undef]=[Value.bool v]:=this.1;simpa[tm]using h1
theorem jCI{P:Á}{T:U->I TyI}(hT:cI P T){f:U}{t:Ty}{fn:æ}(hf:P.funcs[f]? = O fn){r0 b0 r1 b1 r3 r2:U}{A0 A1 A2:Ó Ú}{o0 o6 o7:Ú}{l3:D Ú}{cl:Call}
  (hb:fn.body=O ((Ã r0 A0 Y).seq (Ò b0 ((((Ã r1 A1 Y).seq (Ï (.tmp 8) .skip (.exit b0))).seq ((Ò b1 ((Ã r3 (o0::(l3++[o6,o7])).toArray Y).seq (Ï (.tmp 18) .ret .skip))).seq (Ã r2 A2 Y))).loop))))
  (MI : fn.ntmps = 19) (mw : fn.results = #[]) (bY : (fn.name == "runtime.NumGoroutine") = Y) (BG : l3.length = 5) (dt : (o0 :: (l3 ++ [o6, o7])).all (fun o => o.guard.isNone) = Å)
  (yQ:o0.op = .move (.tmp 0))(MJ:o0.dst=O 11)(yR:o6.op = .call cl)(MK:cl.callee = .value (.tmp 11))(G7:cl.args = #[.tmp 12,.tmp 16])(h6d:o6.dst=O 17)
  (e0:∀xs:D t.den,pz (bwE T) A0 (slF [(1,lstP t xs)]) g3=O (w64 (ì (Æ xs)-1)))
  (e1:∀i:Ç,pz (bwE T) A1 (slF [(3,intP i)]) g1=O (Ì (i>=0),i))
  (e2:∀i:Ç,pz (bwE T) A2 (slF [(3,intP i)]) g3=O (w64 (i-1)))
  (e3:∀(xs:D t.den)(i:Ç),oy (bwE T) l3 (slF [(1,lstP t xs),(3,intP i)]) (g16 t)=cond (inR i (Æ xs)) (O (i,Ù xs (Ø i) t.dflt,i)) X)
  (e7:∀(b:É)(i:Ç),oy (bwE T) [o7] (slF [(17,.one (.d .bool b)),(3,intP i)]) g18=O (!b,i)):BwOK P f t:=by
 refine⟨⟨fn,hf,by rw[hb];rfl,bY⟩,?_⟩;intro cv m l J Jx W S aO xM fJ hY nD Bq;have hC:jS P (bwE T).C:=λf=>My;obtain⟨S0,gW,hm,hS0,od⟩:=nD
 obtain⟨z0,qU⟩:∃z0,cv = #[z0]:=by
  have:=od.length;obtain⟨cl⟩:=cv;match cl,this with
  |[z],_=>exact⟨z,rfl⟩
 subst qU;refine callsIn_of_wp hf hb trivial ?_;rw[MI];obtain⟨yv,U0⟩:∃yv,yv=Value.func (.yield l) #[] #[]:=⟨_,rfl⟩;obtain⟨R,hR⟩:∃R:Ending->Â->Prop,R=λe W'=>(∃v,e = .returned v)/\((∃S',J m S' W')\/Jx W'):=⟨_,rfl⟩;rw[<-U0,<-hR];let fx:U->I Value:=λi=>if i=0 then O yv else if i=1 then O z0 else X
 let Fr:Ê->Prop:=λa=>a.tmps.size=19/\a.defers=[]/\tm a 0=yv/\tm a 1=z0
 let è:Ê->Â->Prop:=λa W=>Fr a/\∃j S,j<=m/\J j S W/\tm a 3 = .int .i64 ((m:Ç)-1-j)
 let μ:Ê->Â->Nat:=λa W=>match tm a 3 with
  |.int _ v=>(v+1).toNat
  |_=>0
 have ei:∀{a:Ê}{W':Â},a.defers=[]->((∃S',J m S' W')\/Jx W')->a.defers=[]/\∃v,(results fn a.tmps).run P W' = .ok v W'/\R (.returned v) W':=by intro a W' hd h;exact⟨hd,_,results_none mw _ _ _,by rw[hR];exact⟨⟨_,rfl⟩,h⟩⟩
 have gH:∀{σ:St}{a:Ê}{w w0:Â}{S S0:aU}{γ:U->Ä},Rel (bwE T).N (bwE T).np S0 w0 { blks:=[],val:=λ_=>X,fix:=fx } σ a w S γ->Fr a:=λhR=>
  ⟨hR.size,hR.defers,(hR.fix 0 yv rfl).2,(hR.fix 1 z0 rfl).2⟩
 have mA:∀{a:Ê},Fr a->∀i v,fx i=O v->(bwE T).N.pin i=Å/\tm a i=v:=by
  intro a ha i v hv;simp only[fx]at hv;split at hv
  .rename_i e;subst e;simp only[jb]at hv;subst hv;exact⟨rfl,ha.2.2.1⟩
  .split at hv
   .rename_i _ e;subst e;simp only[jb]at hv;subst hv;exact⟨rfl,ha.2.2.2⟩
   .simp at hv
 have same:∀{j:U}{S:aU}{W W':Â},J j S W->Grew W W'->Bl S W S W':=λhJ hg=>⟨λ_ _ h=>h,λ_ _ h=> .inl h,λg o h=>zb (fJ _ _ _ hJ g o h) hg.size⟩
 have hmlt:m<=9223372036854775807:=by
  obtain⟨g,o,cs,_,aw,_⟩:=od.1;match cs,aw with
  |[z],aw=>obtain⟨ad,cap,_,h1,h2,_⟩:=aw.1;simp only[maxLen]at h2;have h1:Æ gW<=cap:=h1;omega
 obtain⟨a0,GU⟩:∃a0:Ê,a0={ tmps:=#[yv] ++ #[z0]++Array.replicate (19-(#[yv] ++ #[z0]).size) undef,defers:=[] }:=⟨_,rfl⟩;rw[<-GU]
 have uh:Fr a0:=by
  subst GU;refine⟨?_,rfl,?_,?_⟩
  .simp
  .simp[tm]
  .simp[tm]
 have nD:Rel (bwE T).N (bwE T).np S0 W { blks:=[],val:=λ_=>X,fix:=fx } (slF [(1,lstP t gW)]) a0 W S0 (λ_=>undef):=
  Eg uh.1 uh.2.1 (λ_=>rfl) hS0 (Ei (λx hx=>by
   simp only[qk]at hx;subst hx;rw[uh.2.2.2];exact⟨od.1,λ_=>by obtain⟨g,o,cs,hu,_⟩:=od.1;rw[hu];rfl⟩)) (mA uh)
 refine wpIn_seq (wpIn_mono (MH hT nD (Eh _) (e0 gW)) ?_)
 rintro e a W1 ⟨rfl,σ1,S1,γ1,bB,dm⟩
 show (Ò b0 _).wpIn _ _ _ _ _ _;have h3:=BF bB (UY dm);refine wpIn_block (wpIn_loop è μ ⟨gH bB,0,S,kq _,aO _ _ _ _ _ (wD bB) (same Bq (wD bB)) Bq,?_⟩ ?_)
 .rw[h3,hm,ik ay ay];simp
 .rintro a W ⟨ML,j,S,wh,hJ,h3⟩
  have hint:∀{a:Ê}{W:Â}{S:aU}{v:Ç},tm a 3 = .int .i64 v->bM S W (λ_=>undef) (λ_=> .free) (intP v) (tm a 3):=λh=>by rw[h];exact⟨rfl,λ_=>rfl⟩
  have hRs:Rel (bwE T).N (bwE T).np S W { blks:=[],val:=λ_=>X,fix:=fx } (slF [(3,intP ((m:Ç)-1-j))]) a W S (λ_=>undef):=
   Eg ML.1 ML.2.1 (λ_=>rfl) (fJ _ _ _ hJ) (Ei (λx hx=>by
    simp only[qk]at hx;subst hx;exact hint h3)) (mA ML)
  refine wpIn_seq (wpIn_seq (wpIn_mono (MH hT hRs (Eh _) (e1 _)) ?_))
  rintro e a1 W1 ⟨rfl,σ1,S1,γ1,bB,dm⟩
  obtain⟨h8,MM⟩:=jCH dm;have MM:=BF bB MM;have h8:a1.eval (.tmp 8) = .bool (Ì ((m:Ç)-1-j>=0)):=UZ bB h8;have MN:=aO _ _ _ _ _ (wD bB) (same hJ (wD bB)) hJ;have nF:=gH bB;show (Ï _ _ _).wpIn _ _ _ _ _ _;by_cases bU:(m:Ç)-1-j>=0
  case neg=>rw[decide_eq_false bU]at h8;refine wpIn_cond_false h8 (wpIn_exit ?_);show Z b0 (bodyPost P fn R) (.exit b0) a1 W1;simp only[Z,if_true];have hj:j=m:=aa;subst hj;exact ei nF.2.1 (.inl ⟨S,MN⟩)
  case pos=>
  rw[decide_eq_true bU]at h8;refine wpIn_cond_true h8 (wpIn_skip ?_);show (Code.seq _ _).wpIn _ _ _ _ _ _;have MO:j<m:=aa;obtain⟨xs,dO,hlen,tJ⟩:=hY j S W1 MO MN;refine wpIn_seq (wpIn_block (wpIn_seq (wpIn_region ?_)));obtain⟨ops,yS⟩:∃ops,ops=(o0::(l3++[o6,o7])).toArray:=⟨_,rfl⟩;rw[<-yS];have oL:∀k,ops[k]? = (o0::(l3++[o6,o7]))[k]? := λk=>by rw[yS];exact List.getElem?_toArray
  have bm:∀o∈o0::(l3++[o6,o7]),o.guard=none:=λo ho=>by have:=ka.1 dt o ho;simpa using this
  have bT:ops.size=8:=by rw[yS];simp[BG]
  have hw:∀(o:Ú)(a:Ê),o∈o0::(l3++[o6,o7])->Ñ o (yielded ops a.tmps)=true:=λo a ho=>by simp[Ñ,bm o ho]
  rw[bT,show Û 8=0::(ç 1 l3.length++[6,7]) by rw[BG];rfl];have MP:ops[0]? = O o0:=by rw[oL];rfl
  simp only[wpOpsIn,MP,hw o0 _ (zk ..),if_true];refine GI (.inl rfl) (λ_ _ h=>h) ?_;unfold Oper.wp;rw[show (execOp a1.eval o0).run P W1 = .ok (.value (a1.eval (.tmp 0))) W1 by simp[execOp,yQ,go_sem],Oper.upon_value,MJ];have sR:a1.eval (.tmp 0)=yv:=nF.2.2.1;rw[sR];have Ej:11<a1.tmps.size:=by rw[nF.1];omega
  obtain⟨a2,sr⟩:∃a2,a2=a1.put (O 11) yv:=⟨_,rfl⟩;rw[<-sr];have ui:∀i,tm a2 i=if i=11 then yv else tm a1 i:=λi=>by rw[sr];exact Bc Ej yv i
  have uj:Fr a2:=⟨by rw[sr,Lf];exact nF.1,by rw[sr,Lg];exact nF.2.1,by rw[ui];exact nF.2.2.1,by rw[ui];exact nF.2.2.2⟩;let U1:U->I Value:=λi=>if i=11 then O yv else fx i
  have cB:Rel (bwE T).N (bwE T).np S W1 { blks:=[],val:=λ_=>X,fix:=U1 } (slF [(1,lstP t xs),(3,intP ((m:Ç)-1-j))]) a2 W1 S (λ_=>undef):=
   Eg uj.1 uj.2.1 (λ_=>rfl) (fJ _ _ _ MN) (Ei (λx hx=>by
    simp only[jl,vb,or_false]at hx;rcases hx with rfl|rfl
    .rw[uj.2.2.2];exact⟨dO.1,λ_=>by obtain⟨g,o,cs,hu,_⟩:=dO.1;rw[hu];rfl⟩
    .exact hint (by rw[ui];exact MM))) (λi v hv=>by
     simp only[U1]at hv;split at hv
     .rename_i e;subst e;simp only[jb]at hv;subst hv;exact⟨rfl,by rw[ui,if_pos rfl]⟩
     .exact mA uj i v hv)
  have hx:∃x,xs[m-1-j]? = O x/\Ù xs (Ø ((m:Ç)-1-j)) t.dflt=x:=by refine⟨xs[m-1-j]'hlen,kb hlen,?_⟩;rw[show Ø ((m:Ç)-1-j)=m-1-j by omega];simp[Ù,hlen]
  obtain⟨x,hx,hxd⟩:=hx;have U2:=e3 xs ((m:Ç)-1-j)
  rw[hxd,show inR ((m:Ç)-1-j) (Æ xs)=Å by
   unfold inR;rw[decide_eq_true (show (0:Ç)<=(m:Ç)-1-j by omega),decide_eq_true (show (m:Ç)-1-j<(Æ xs:Ç) by omega)];rfl,jc]at U2
  refine ME hT hC ?_ l3 1 (λk o hk=>⟨?_,?_⟩) cB (Eh _) U2
  rotate_left
  .rw[oL,Nat.add_comm,yo,Ë (kf.1 hk).1];exact hk
  .exact bm o (qv _ (jx _ (kp hk)))
  intro σ3 a3 W3 S3 γ3 fI _ jW;obtain⟨oG,MQ,c,G6,MR⟩:=jBH jW;have oG:=BF fI oG;have MQ:=BF fI MQ;have MS:VRep S3 W3 ⟨t,x⟩ (tm a3 16):=by have:=fI.slot 16;rw[G6]at this;exact(CS (np:=(bwE T).np) jyb fI.box MR this).2.1 S3 W3 (.refl _ _) (λy hy=>by simp at hy)
  have KL:=wD fI;have h11:tm a3 11=yv:=(fI.fix 11 yv rfl).2;have rM:Fr a3:=⟨fI.size,fI.defers,(fI.fix 0 yv rfl).2,(fI.fix 1 z0 rfl).2⟩;obtain⟨fn6,Ek,as6,bo6,hy6,rN⟩:=tJ S3 W3 x _ KL ⟨fI.ext,λg o h=>(fI.new g o h).imp id λh=>h.nil rfl,fI.here⟩ hx MS;have MT:ops[6]? = O o6:=by rw[oL,yo,kv aa,BG];rfl
  have MU:ops[7]? = O o7:=by rw[oL,yo,kv aa,BG];rfl
  simp only[wpOpsIn,MT,hw o6 _ af,if_true];refine⟨λ_ _=>trivial,?_⟩
  have aM:(execOp a3.eval o6).run P W3 = .ok (.round l fn6 Ek as6 bo6) W3:=by
   refine ſ yR MK (l:=l) (by rw[<-U0];exact h11) ?_;rw[G7];have um:a3.eval (.tmp 12) = .int .i64 ((m-1-j:U):Ç):=by rw[show ((m-1-j:U):Ç)=(m:Ç)-1-j by omega];exact oG
   have e16:a3.eval (.tmp 16)=tm a3 16:=rfl;simp only[List.map_toArray,qe,List.map_nil,um,e16];exact hy6
  rw[show o6.semAt (FR X).round a3.eval=execOp a3.eval o6 from rfl,aM,Oper.uponIn_round];refine⟨λhd=>by simp[FR,Fence.wide]at hd,?_⟩;refine RoundIn.mono ⟨rN.1,λc cs _=>rN.2 c cs (T0 _ _)⟩ ?_;have El:17<a3.tmps.size:=by rw[rM.1];omega
  have rest:∀(bb:É)(W4:Â)(S4:aU),(∀g o,S4 g o->g<W4.heap.size)->
    (∀a5 W5,Fr a5->Grew W4 W5->tm a5 18 = .bool (!bb)->tm a5 3 = .int .i64 ((m:Ç)-1-j)->(Exit.then ((Ï (.tmp 18) .ret .skip).wpIn (FR X) 0 P (Z b1 (Exit.then ((Ã r2 A2 Y).wpIn (FR X) 0 P (Exit.then (λa' W'=>è a' W'/\μ a' W'<μ a W) (Z b0 (bodyPost P fn R))))
     (Exit.then (λa' W'=>è a' W'/\μ a' W'<μ a W) (Z b0 (bodyPost P fn R)))))) (Z b1 (Exit.then ((Ã r2 A2 Y).wpIn (FR X) 0 P (Exit.then (λa' W'=>è a' W'/\μ a' W'<μ a W) (Z b0 (bodyPost P fn R))))
     (Exit.then (λa' W'=>è a' W'/\μ a' W'<μ a W) (Z b0 (bodyPost P fn R)))))) .normal a5 W5)->
    wpOpsIn (FR X) 0 P ops (Exit.then ((Ï (.tmp 18) .ret .skip).wpIn (FR X) 0 P (Z b1 (Exit.then ((Ã r2 A2 Y).wpIn (FR X) 0 P (Exit.then (λa' W'=>è a' W'/\μ a' W'<μ a W) (Z b0 (bodyPost P fn R))))
     (Exit.then (λa' W'=>è a' W'/\μ a' W'<μ a W) (Z b0 (bodyPost P fn R)))))) (Z b1 (Exit.then ((Ã r2 A2 Y).wpIn (FR X) 0 P (Exit.then (λa' W'=>è a' W'/\μ a' W'<μ a W) (Z b0 (bodyPost P fn R))))
     (Exit.then (λa' W'=>è a' W'/\μ a' W'<μ a W) (Z b0 (bodyPost P fn R)))))) [7] (a3.put o6.dst (.bool bb)) W4:=by
   intro bb W4 S4 hS4 ff;rw[h6d];obtain⟨a4,G8⟩:∃a4,a4=a3.put (O 17) (.bool bb):=⟨_,rfl⟩;rw[<-G8];have uq:∀i,tm a4 i=if i=17 then .bool bb else tm a3 i:=λi=>by rw[G8];exact Bc El _ i
   have yT:Fr a4:=⟨by rw[G8,Lf];exact rM.1,by rw[G8,Lg];exact rM.2.1,by rw[uq];exact rM.2.2.1,by rw[uq];exact rM.2.2.2⟩
   have nZ:Rel (bwE T).N (bwE T).np S4 W4 { blks:=[],val:=λ_=>X,fix:=fx } (slF [(17,.one (.d .bool bb)),(3,intP ((m:Ç)-1-j))]) a4 W4 S4 (λ_=>undef):=
    Eg yT.1 yT.2.1 (λ_=>rfl) hS4 (Ei (λx hx=>by
     simp only[jl,vb,or_false]at hx;rcases hx with rfl|rfl
     .rw[uq,if_pos rfl];exact⟨rfl,λ_=>rfl⟩
     .exact hint (by rw[uq];exact MQ))) (mA yT)
   refine ME (rest:=[]) hT hC (λσ5 a5 W5 S5 γ5 oa _ rD=>?_) [o7] 7 (λk o hk=>?_) nZ (Eh _) (e7 bb _)
   .obtain⟨q1,q2⟩:=jBG rD;exact ff a5 W5 (gH oa) (wD oa) (UZ oa q1) (BF oa q2)
   .cases k with
    |zero=>simp at hk;subst hk;exact⟨MU,bm _ af⟩
    |succ k=>simp at hk
  rintro e W4 (⟨rfl,S4,MV⟩|⟨rfl,hx4⟩)
  .refine rest Å W4 S4 (fJ _ _ _ MV) (λa5 W5 rO G9 MW U3=>?_);refine wpIn_cond_false (c:= .tmp 18) MW (wpIn_skip ?_);show (Ã r2 A2 Y).wpIn _ _ _ _ _ _;have MX:=aO _ _ _ _ _ G9 (same MV G9) MV
   have oa:Rel (bwE T).N (bwE T).np S4 W5 { blks:=[],val:=λ_=>X,fix:=fx } (slF [(3,intP ((m:Ç)-1-j))]) a5 W5 S4 (λ_=>undef):=
    Eg rO.1 rO.2.1 (λ_=>rfl) (fJ _ _ _ MX) (Ei (λx hx=>by
     simp only[qk]at hx;subst hx;exact hint U3)) (mA rO)
   refine wpIn_mono (MH hT oa (Eh _) (e2 _)) ?_
   rintro e a6 W6 ⟨rfl,σ6,S6,γ6,wz,hk6⟩
   have MY:=BF wz (UY hk6);rw[ik aa aa]at MY;refine⟨⟨gH wz,j+1,S4,aa,aO _ _ _ _ _ (wD wz) (same MX (wD wz)) MX,?_⟩,?_⟩
   .rw[MY];congr 1;push_cast;omega
   .simp only[μ,MY,h3];omega
  .refine rest Y W4 (λ_ _=>False) (λ_ _ h=>h.elim) (λa5 W5 rO G9 MW U3=>?_);refine wpIn_cond_true (c:= .tmp 18) MW (wpIn_ret ?_);exact ei rO.2.1 (.inr (xM _ _ G9 hx4))
end
def yU:Í->D (U×Ó Ú)
 |.seq x y=>yU x++yU y
 |.cond _ x y=>yU x++yU y
 |.block _ c=>yU c
 |.loop c=>yU c
 |.region id ops _=>[(id,ops)]
 |_=>[]
def bwA(fn:æ)(i:U):Ó Oper:=(((yU (fn.body.getD .skip)).find? λx=>x.1==i).getD (0, #[])).2
def opAt(A:Ó Ú)(i:U):Oper:=(A[i]?).getD default
def M0(o:Ú):Call:=match o.op with
 |.call c=>c
 |_=>default
theorem jBI{P:Á}{T:U->I TyI}(hT:cI P T){f:U}{t:Ty}{fn:æ}(hf:P.funcs[f]? = O fn){A0 A1 A2 A3:Ó Ú}
  (hb:fn.body=O ((Ã 0 A0 Y).seq (Ò 0 ((((Ã 1 A1 Y).seq (Ï (.tmp 8) .skip (.exit 0))).seq ((Ò 1 ((Ã 3 A3 Y).seq (Ï (.tmp 18) .ret .skip))).seq (Ã 2 A2 Y))).loop))))
  (hA:A3=(opAt A3 0::((A3.toList.drop 1).take 5++[opAt A3 6,opAt A3 7])).toArray)
  (MI : fn.ntmps = 19) (mw : fn.results = #[]) (bY : (fn.name == "runtime.NumGoroutine") = Y) (BG : ((A3.toList.drop 1).take 5).length = 5) (dt : (opAt A3 0 :: ((A3.toList.drop 1).take 5 ++ [opAt A3 6, opAt A3 7])).all (fun o => o.guard.isNone) = Å)
  (yQ:(opAt A3 0).op = .move (.tmp 0))(MJ:(opAt A3 0).dst=O 11)(yR:(opAt A3 6).op = .call (M0 (opAt A3 6)))(MK:(M0 (opAt A3 6)).callee = .value (.tmp 11))(G7:(M0 (opAt A3 6)).args = #[.tmp 12,.tmp 16]/\(opAt A3 6).dst=O 17)
  (e0:∀xs:D t.den,pz (bwE T) A0 (slF [(1,lstP t xs)]) g3=O (w64 (ì (Æ xs)-1)))
  (e1:∀i:Ç,pz (bwE T) A1 (slF [(3,intP i)]) g1=O (Ì (i>=0),i))
  (e2:∀i:Ç,pz (bwE T) A2 (slF [(3,intP i)]) g3=O (w64 (i-1)))
  (e3:∀(xs:D t.den)(i:Ç),oy (bwE T) ((A3.toList.drop 1).take 5) (slF [(1,lstP t xs),(3,intP i)]) (g16 t)=cond (inR i (Æ xs)) (O (i,Ù xs (Ø i) t.dflt,i)) X)
  (e7:∀(b:É)(i:Ç),oy (bwE T) [opAt A3 7] (slF [(17,.one (.d .bool b)),(3,intP i)]) g18=O (!b,i)):BwOK P f t:=by
 rw[hA]at hb;exact jCI hT hf hb MI mw bY BG dt yQ MJ yR MK G7.1 G7.2 e0 e1 e2 e3 e7
section
variable{P:Á}{E:Env}{ops pre:Ó Ú}{cl:D U}{τ:U->St}{S0:aU}{w0:Â}{refs:É->Refs}
end
section
variable{S0:aU}{w0:Â}{refs:Refs}
def g7(σ:St):I (É×Ç):=match σ.sl 7,σ.sl 3 with
 |.one (.one (.d .bool b)),.one (.one (.d (.int .i64) v))=>O (b,v)
 |_,_=>X
theorem Grew.trans{w w' xk:Â}(h:Grew w w')(h':Grew w' xk):Grew w xk:=
 ⟨λg hg=>(h'.old g (zb hg h.size)).trans (h.old g hg),qc h.size h'.size,h'.os.trans h.os,h'.tape.trans h.tape,h'.output.trans h.output⟩
end
open Go.RowKit Go.WideShapes Go.ChangeShapes
theorem jwd{P:Á}{f:U}{ps:D APat}{ts:D Ty}{F:HL ts->I É}(bJ:Con.OK P ⟨f,ps,ts,⟨[.v .bool],[]⟩,[.bool],F⟩)(h:HL ts)(hF:F h=O Å)
  (w:Â)(S:aU)(vals:D Ä)(ha:All2 (nT S w) (rJ ps ts h) vals)(hr:eh (rJ ps ts h) vals=[])(hS:∀g o,S g o->g<w.heap.size)(hu:GZ ps ts (rJ ps ts h)=O h) :
  Calls P f vals.toArray w λe w'=>e = .returned (.bool Å)/\Below w.heap.size w w':=by
 have:=(bJ (rJ ps ts h) Ret O (sQ ⟨[.v .bool],[]⟩ [.bool] Å) (by
  unfold Con.C;rw[hu];show (F h).bind _=_;rw[hF];rfl)).2
 refine(this w S vals ha (by rw[hr];exact List.nodup_nil) hS).mono ?_
 rintro e w' ⟨ret,bZ,v,S',vs,rfl,bJ⟩
 simp only[jb]at bZ;subst bZ;have bI:All2 (pL S' w') [.v ⟨.bool,Å⟩] vs:=bJ.rep;refine⟨?_,bJ.os,bJ.tape,bJ.output,bJ.grow,λk hk=>bJ.below k hk (by rw[hr];simp)⟩;rw[bJ.val];match vs,bI with
 |[u],bI=>have h1:=bI.1;have h2:u.cells.toList=[.bool Å]/\(jP Ty.bool=Å->∃cs,u=Value.agg cs)/\(jP Ty.bool=Y->One u):=h1;have h3:=AK (h2.2.2 rfl);rw[h2.1]at h3;simp only[yt,and_true]at h3;rw[<-h3];rfl
 |[],bI=>exact absurd bI (by simp[All2])
 |_::_::_,bI=>exact absurd bI (by simp[All2])
theorem jo4{H:Type}{enc:Ð×Ä->H}{P:Á}{f:æ}{s:ChangeSpec}{apart fresh handsOn again:É}{W W':Â}{args:Ó Ä}{v:Ä}{ds gs:D (à H)}{before pa pv:D Õ}
  (hW:DataW.Whole enc P f.params.toList s.vars apart W args.toList ds gs before)
  (mw:∀(b:U)(sp:U->É)(hd:É),á enc P W' b sp hd f.resultTypes.toList (v.resultList f.resultTypes.size) (s.fn H (ds++gs)).results [])
  (cS:∀sp:U->É,(∀p∈before,sp p.block=Å)->á enc P W' 0 sp Å f.params.toList args.toList (s.fn H (ds++gs)).args pa)
  (wE:∀sp:U->É,(∀p∈before,sp p.block=Å)->DataW.TrodVars enc P W' sp s.vars (s.fn H (ds++gs)).vars pv)
  (gU:before=pa++pv)(hb:Below W.heap.size W W')
  (bJ:∀(j:U)(t:Ð)(r:Ä),f.resultTypes[j]? = O t->(v.resultList f.resultTypes.size)[j]? = O r->Ô P W' .any 0 t r) :
  s.post enc P f apart fresh handsOn again W args v W':=by
 have au:∀p∈before,p.block<W.heap.size:=λp hp=>hW.lt p hp;have hold:∀p∈before,(λb=>Ì (b<W.heap.size)) p.block=true:=λp hp=>by simpa using au p hp
 refine⟨ds,gs,before,[],pa,pv,hW,mw _ _ _,cS _ hold,wE _ hold,World.keptBut_mono (λp hp=>⟨hp,?_⟩) (hb.frame (· ∈ before)),λ_=>?_⟩
 .rw[gU,js]at hp;exact Or.inr hp
 .obtain⟨_,_,_,_,_,hz,hn⟩:=hW;refine⟨bJ,_,_,([]++pa)++pv,⟨[]++pa,pv,trodAll_append (cS _ (λ_ _=>rfl)) (mw _ _ _),wE _ (λ_ _=>rfl),rfl,?_,?_⟩,?_⟩
  .intro b off hp;have gK:MemPlace.cell b off∈before:=by rw[gU];simpa using hp
   rw[hb.frozen (au _ gK)];exact hz b off gK
  .intro ha;have:=hn ha;rw[gU]at this;simpa using this
  .intro p hp _;rw[gU];simpa using hp
open Go.RowKit Go.WideShapes Go.ChangeShapes
def ur(P:Á):U->Ð->Ty->É
 |0,_,_=>Y
 |n+1,t,ty=>match P.underlying t with
  |some (.int k)=>Ì (ty = .int k)
  |some .bool=>Ì (ty = .bool)
  |some .string=>Ì (ty = .str)
  |some (.slice e)=>match ty with
   |.list a=>ur P n e a&&Ì (P.cellsOf e=a.size)&&Ì (0<a.size)
   |_=>Y
  |_=>Y
def Wf:(t:Ty)->t.den->Prop
 |.int k,n=>(Lit.int k n).wf=Å
 |.bool,_=>å
 |.str,s=>s.size<=maxLen
 |.unit,_=>å
 |.wrap a,v=>Wf a v
 |.pair a b,v=>Wf a v.1/\Wf b v.2
 |.list a,xs=>Æ xs<=maxLen/\∀x∈(show D a.den from xs),Wf a x
 |.arr _ _,_=>å
theorem Ha{α β:Type}{f:α->I β}:∀{l:D α}{ys:D β},l.mapM f=O ys->ys.length=l.length/\∀(i:U)(x:α),l[i]? = O x->∃y,ys[i]? = O y/\f x=O y
 |[],ys,h=>by
  simp at h;subst h;exact⟨rfl,λi x hx=>by simp at hx⟩
 |a::l,ys,h=>by
  rw[Þ]at h;cases ha:f a with
  |none=>simp[ha]at h
  |some y=>
   cases hl:l.mapM f with
   |none=>simp[ha,hl]at h
   |some zs=>
    simp[ha,hl]at h;subst h;obtain⟨h1,h2⟩:=Ha hl;refine⟨by simp[h1],λi x hx=>?_⟩;cases i with
    |zero=>simp at hx;subst hx;exact⟨y,rfl,ha⟩
    |succ i=>simp at hx;obtain⟨z,hz,hf⟩:=h2 i x hx;exact⟨z,by simpa using hz,hf⟩
theorem Hb{α β:Type}{f g:α->I β}:∀{l:D α}{ys:D β},l.mapM f=O ys->(∀x∈l,∀y,y∈ys->f x=O y->g x=O y)->l.mapM g=O ys
 |[],ys,h,_=>by simpa using h
 |a::l,ys,h,hk=>by
  rw[Þ]at h ⊢;cases ha:f a with
  |none=>simp[ha]at h
  |some y=>
   cases hl:l.mapM f with
   |none=>simp[ha,hl]at h
   |some zs=>simp[ha,hl]at h;subst h;rw[hk a af y af ha,Hb hl (λx hx z hz hf=>hk x (by simp[hx]) z (by simp[hz]) hf)];rfl
theorem U4{α:Type}{Q:U->α->Prop}:∀n,(∀i,i<n->∃x,Q i x)->∃xs:D α,xs.length=n/\∀i x,xs[i]? = O x->Q i x
 |0,_=>⟨[],rfl,λi x h=>by simp at h⟩
 |n+1,h=>by
  obtain⟨xs,hl,hx⟩:=U4 n (λi hi=>h i aa);obtain⟨x,hq⟩:=h n aa;refine⟨xs++[x],by simp[hl],λi y hy=>?_⟩;rcases qx i n with hi|hi
  .rw[Ë aa]at hy;exact hx i y hy
  .have:i=n:=by have:=(kf.1 hy).1;simp[hl]at this;omega
   subst this;rw[kv aa,hl,Nat.sub_self]at hy;simp at hy;subst hy;exact hq
theorem U5{α β:Type}{R:α->β->Prop}:∀{as:D α}{bs:D β},as.length=bs.length->(∀(i:U)(a:α)(b:β),as[i]? = O a->bs[i]? = O b->R a b)->All2 R as bs
 |[],[],_,_=>trivial
 |a::as,b::bs,hl,h=>⟨h 0 a b rfl rfl,U5 (by simpa using hl) λi x y hx hy=>h (i+1) x y (by simpa using hx) (by simpa using hy)⟩
 |[],_::_,hl,_=>by simp at hl
 |_::_,[],hl,_=>by simp at hl
theorem U6{m:U}:∀{css:D (D Ä)},(∀c∈css,c.length=m)->∀{j:U}{v:Ä},css.flatten[j]? = O v->∃i r c,j=i*m+r/\r<m/\css[i]? = O c/\c[r]? = O v
 |[],_,j,v,h=>by simp at h
 |c::css,hl,j,v,h=>by
  simp only[kz]at h;have hc:=hl c af;rcases qx j c.length with hj|hj
  .rw[Ë hj]at h;exact⟨0,j,c,aa,aa,rfl,h⟩
  .rw[kv hj]at h;obtain⟨i,r,c',e,hr,hi,hv⟩:=U6 (λx hx=>hl x (by simp[hx])) h;exact⟨i+1,r,c',by rw[Nat.add_mul];omega,hr,by simpa using hi,hv⟩
def Ext(W W':Â):Prop:=∀(k:U) x,W.heap[k]? = O x->W'.heap[k]? = O x
theorem Ext.cell{W W':Â}(h:Ext W W'){a:î}{v:Ä}(hc:W.cell? a=O v):W'.cell? a=O v:=by
 unfold World.cell? at hc ⊢;split at hc
 .rename_i c _ _ hb;rw[h _ _ hb];exact hc
 .simp at hc
theorem Ext.cells{W W':Â}(h:Ext W W'){a:î}{n:U}{cs:D Ä}(hc:W.cells? 0 a n=O cs):W'.cells? 0 a n=O cs:=by
 unfold World.cells? at hc ⊢;simp only[kq,if_true]at hc ⊢;exact Hb hc λi _ y _ hf=>h.cell hf
theorem M1{W:Â}{a:î}{n:U}{cs:D Ä}(hc:W.cells? 0 a n=O cs):cs.length=n/\∀i v,cs[i]? = O v->W.cell? (a.add i)=O v:=by
 unfold World.cells? at hc;simp only[kq,if_true]at hc;obtain⟨h1,h2⟩:=Ha hc;simp only[Ü]at h1;refine⟨h1,λi v hv=>?_⟩;have hi:i<n:=by rw[<-h1];exact(kf.1 hv).1
 obtain⟨y,hy,hf⟩:=h2 i i (by simp[hi]);rw[hv]at hy;simp at hy;subst hy;exact hf
theorem U7{W:Â}{a:î}{v:Ä}(h:W.cell? a=O v):a.block<W.heap.size/\a.spot=none:=by
 unfold World.cell? at h;split at h
 .rename_i c _ _ hb;refine⟨(jp.1 hb).1,?_⟩;split at h
  .simp at h
  .rename_i hs;simpa using hs
 .simp at h
def oldS(W:Â):aU:=λg _=>g<W.heap.size
def Hc{H:Type}(enc:Ð×Ä->H)(P:Á)(W:Â)(held:É)(fuel:U)(t:Ð)(ty:Ty)(cs:D Ä)(d:à H)(ps:D Õ):Prop:=
 cs.length=ty.size/\(∃v:ty.den,Rep (oldS W) W ty v cs/\Wf ty v)/\
  ∀W' sp,Ext W W'->(∀q∈ps,sp q.block=Å)->À enc P W' 0 sp held fuel t cs=O (d,ps)
section
variable{H:Type}{enc:Ð×Ä->H}{P:Á}{W:Â}{held:É}
theorem jwf{a:î}{n:U}(hn:0<n):∃q∈MemPlace.row a n,q.block=a.block:=
 ⟨.cell a.block (a.off+0),ki.2 ⟨0,by simp[hn],rfl⟩,rfl⟩
theorem jrB{n:U}{t e:Ð}{el:Ty}(hu:P.underlying t=O (.slice e))(bT:P.cellsOf e=el.size)(bU:0<el.size){fuel:U}{cs:D Ä}{d:à H}{ps:D Õ}
  (ih:∀(m:U)(cs:D Ä)(d:à H)(ps:D Õ),À enc P W 0 (λ_=>Å) held m e cs=O (d,ps)->Hc enc P W held m e el cs d ps)
  (h:À enc P W 0 (λ_=>Å) held fuel t cs=O (d,ps)):Hc enc P W held fuel t (.list el) cs d ps:=by
 cases fuel with
 |zero=>simp[À]at h
 |succ m=>
  have h':=h;unfold À at h;rw[hu]at h;split at h;all_goals (try (rename_i heq _;simp at heq;done))
  all_goals (try (rename_i heq;simp at heq;done))
  .rename_i heq;refine⟨rfl,⟨[],⟨X,0,rfl,jy _,kq _,λ_=>rfl,λb hb=>by simp at hb⟩,⟨kq _,af⟩⟩,λW' sp _ _=>?_⟩;unfold À;rw[hu];exact h
  .rename_i e' a len cap heq;simp only[jb,TypeDesc.slice.injEq]at heq;subst heq;simp only[kq,qm,if_true]at h;split at h
   .rename_i hc;cases iw:(Û len).mapM (λi=>(W.cells? 0 (a.add (i*P.cellsOf e)) (P.cellsOf e)).bind (À enc P W 0 (λ_=>Å) held m e)) with
    |none=>rw[iw]at h;simp at h
    |some elems=>
     rw[iw]at h;simp only[ja]at h;cases Hd:(Û (cap-len)).mapM (λj=>(W.cells? 0 (a.add ((len+j)*P.cellsOf e)) (P.cellsOf e)).bind (À enc P W 0 (λ_=>Å) held m e)) with
     |none=>rw[Hd]at h;simp at h
     |some rest=>
      rw[Hd]at h;simp only[qa,jb,jf]at h;obtain⟨rfl,rfl⟩:=h;obtain⟨l1,g1⟩:=Ha iw;obtain⟨l2,g2⟩:=Ha Hd;simp only[Ü]at l1 l2
      have one:∀i y,(W.cells? 0 (a.add (i*P.cellsOf e)) (P.cellsOf e)).bind (À enc P W 0 (λ_=>Å) held m e)=O y->∃c,W.cells? 0 (a.add (i*P.cellsOf e)) (P.cellsOf e)=O c/\Hc enc P W held m e el c y.1 y.2:=by
       intro i y hy;cases hc:W.cells? 0 (a.add (i*P.cellsOf e)) (P.cellsOf e) with
       |none=>rw[hc]at hy;simp at hy
       |some c=>rw[hc]at hy;exact⟨c,rfl,ih m c y.1 y.2 hy⟩
      refine⟨rfl,?_,?_⟩
      .have each:∀i,i<len->∃x:el.den×D Ä,W.cells? 0 (a.add (i*P.cellsOf e)) (P.cellsOf e)=O x.2/\Rep (oldS W) W el x.1 x.2/\Wf el x.1:=by intro i hi;obtain⟨y,hy,hf⟩:=g1 i i (by simp[hi]);obtain⟨c,eS,_,⟨v,hv,hw⟩,_⟩:=one i y hf;exact⟨(v,c),eS,hv,hw⟩
       obtain⟨xs,nS,fX⟩:=U4 len each;have Em:∀c∈xs.map (·.2),c.length=P.cellsOf e:=by intro c hc;obtain⟨x,hx,rfl⟩:=ki.1 hc;obtain⟨i,hi⟩:=vc.1 hx;exact(M1 (fX i x hi).1).1
       refine⟨xs.map (·.1),?_,?_⟩
       .refine⟨O a,cap,by simp[nS],by simp[nS,hc.1],hc.2,af,λb hb=>?_⟩;simp only[jb]at hb;subst hb;have wF:len≠0->a.spot=none:=by intro hl;obtain⟨x,hx⟩:∃x,xs[0]? = O x:=⟨xs[0],kb aa⟩;obtain⟨k1,k2⟩:=M1 (fX 0 x hx).1;obtain⟨v,hv⟩:∃v,x.2[0]? = O v:=⟨x.2[0],kb aa⟩;have:=(U7 (k2 0 v hv)).2;simpa[Addr.add]using this
        refine⟨λbr=>wF (λh0=>br (by rw[List.map_eq_nil_iff];exact ke aa)),xs.map (·.2),U5 af (λi x c hx hc=>?_),λj v hv=>?_⟩
        .simp only[qt,Ö]at hx hc;obtain⟨y,hy,rfl⟩:=hx;obtain⟨z,hz,rfl⟩:=hc;rw[hy]at hz;simp at hz;subst hz;exact(fX i y hy).2.1
        .obtain⟨i,r,c,hj,hr,nf,qY⟩:=U6 Em hv;simp only[qt,Ö]at nf;obtain⟨x,hx,rfl⟩:=nf;have dK:=(M1 (fX i x hx).1).2 r v qY;have mK:i<len:=by rw[<-nS];exact(kf.1 hx).1
         have hs:=wF aa;have xA:(a.add (i*P.cellsOf e)).add r=⟨a.block,a.off+j,X⟩:=by obtain⟨g,o,s⟩:=a;simp only at hs;subst hs;simp only[Addr.add];split<;>split<;>simp<;>omega
         rw[xA]at dK;exact⟨(U7 dK).1,dK⟩
       .refine⟨by simp only[ky,nS];omega,λx hx=>?_⟩;obtain⟨y,hy,rfl⟩:=ki.1 hx;obtain⟨i,hi⟩:=vc.1 hy;exact(fX i y hi).2.2
      .intro W' sp hE dX
       have keep:∀i y,y∈elems++rest->(W.cells? 0 (a.add (i*P.cellsOf e)) (P.cellsOf e)).bind (À enc P W 0 (λ_=>Å) held m e)=O y->
         (W'.cells? 0 (a.add (i*P.cellsOf e)) (P.cellsOf e)).bind (À enc P W' 0 sp held m e)=O y:=by
        intro i y hy hf;obtain⟨c,eS,_,_,hk⟩:=one i y hf;rw[hE.cells eS];exact hk W' sp hE (λq hq=>dX q (jw _ (qy.2 ⟨y,hy,hq⟩)))
       unfold À;rw[hu];simp only[kq,qm];rw[if_pos hc,Hb iw (λi _ y hy hf=>keep i y (jx _ hy) hf)];simp only[ja]
       have eY:(if sp a.block=Å then (Û (cap-len)).mapM (λj=>(W'.cells? 0 (a.add ((len+j)*P.cellsOf e)) (P.cellsOf e)).bind (À enc P W' 0 sp held m e)) else O [])=O rest:=by
        split
        .exact Hb Hd (λj _ y hy hf=>keep (len+j) y (jw _ hy) hf)
        .rename_i hsf;rcases yw ((elems.length+rest.length)*P.cellsOf e) with h0|h0
         .have:rest=[]:=by
           rcases Nat.mul_eq_zero.1 h0 with h|h
           .exact ke aa
           .omega
          rw[this]
         .obtain⟨q,hq,hb⟩:=jwf (a:=a) h0;have:=dX q (jx _ hq);rw[hb]at this;exact absurd this hsf
       rw[eY];rfl
   .simp at h
  .simp at h
theorem U8:∀(n:U)(t:Ð)(ty:Ty),ur P n t ty=Å->∀(fuel:U)(cs:D Ä)(d:à H)(ps:D Õ),À enc P W 0 (λ_=>Å) held fuel t cs=O (d,ps)->
  Hc enc P W held fuel t ty cs d ps
 |0,_,_,hc,_,_,_,_,_=>by simp[ur]at hc
 |n+1,t,ty,hc,fuel,cs,d,ps,h=>by
  have ih:=U8 n;cases fuel with
  |zero=>simp[À]at h
  |succ m=>
  have gI:=hc;unfold ur at hc;split at hc
  .rename_i k hu;have:=qb hc;subst this;obtain⟨z,rfl,hx,hw⟩:=DataW.trod_int hu h;refine⟨rfl,⟨z,rfl,hw⟩,λW' sp _ _=>?_⟩;simp only[jf]at hx;rw[hx.1,hx.2];exact trod_int_mk m hu hw
  .rename_i hu;have:=qb hc;subst this;obtain⟨z,rfl,hx⟩:=DataW.trod_bool hu h;refine⟨rfl,⟨z,rfl,trivial⟩,λW' sp _ _=>?_⟩;unfold À at h ⊢;rw[hu]at h ⊢;exact h
  .rename_i hu;have:=qb hc;subst this;obtain⟨z,rfl,hx,hw⟩:=DataW.trod_string hu h;refine⟨rfl,⟨z,rfl,hw⟩,λW' sp _ _=>?_⟩;unfold À at h ⊢;rw[hu]at h ⊢;exact h
  .rename_i e hu;split at hc
   .rename_i a;simp only[ji,jr]at hc;exact jrB (n:=n) hu hc.1.2 hc.2 (λm cs d ps h=>ih e a hc.1.1 m cs d ps h) h
   .simp at hc
  .simp at hc
end
theorem He{P:Á}{W:Â}{r:Reach}{base:U}{t:Ð}{v:Ä}{d:TypeDesc}(hu:P.underlying t=O d)(hd:(∃k,d = .int k)\/d = .bool\/d = .string\/∃e,d = .slice e)(h:Ô P W r base t v):One v:=by
 have hc:Cell.ok P W r base t v:=by unfold Ô at h;rw[hu]at h;rcases hd with⟨k,rfl⟩|rfl|rfl|⟨e,rfl⟩<;>(dsimp only at h;unfold Cell.okWide at h;rw[hu]at h;exact h)
 unfold Cell.ok at hc;rw[hu]at hc;rcases hd with⟨k,rfl⟩|rfl|rfl|⟨e,rfl⟩<;>cases v<;>first|rfl|(exact absurd hc af)
theorem En{H:Type}{enc:Ð×Ä->H}{P:Á}{W:Â}{n:U}{t:Ð}{ty:Ty}(gR:ur P n t ty=Å){r:Reach}{base:U}{v:Ä}(bJ:Ô P W r base t v){d:à H}{p:D Õ}
  (h:ë enc P W 0 (λ_=>Å) Å t v d p) :
  ∃x:ty.den,nT (oldS W) W (.v ⟨ty,x⟩) v/\Wf ty x/\∀W' sp,Below W.heap.size W W'->(∀q∈p,sp q.block=Å)->ë enc P W' 0 sp Å t v d p:=by
 obtain⟨fuel,h⟩:=h;obtain⟨_,⟨x,hx,hw⟩,hk⟩:=U8 n t ty gR fuel _ d p h;refine⟨x,⟨hx,λhm=>?_,λhm=>?_⟩,hw,λW' sp hb dX=>⟨fuel,hk W' sp (λk y hy=>by rw[hb.block k (jp.1 hy).1];exact hy) dX⟩⟩
 .cases n with
  |zero=>simp[ur]at gR
  |succ n=>
   unfold ur at gR;split at gR
   .have:=qb gR;subst this;simp[jP,Ty.agg]at hm
   .have:=qb gR;subst this;simp[jP,Ty.agg]at hm
   .have:=qb gR;subst this;simp[jP,Ty.agg]at hm
   .split at gR
    .simp[jP,Ty.agg]at hm
    .simp at gR
   .simp at gR
 .cases n with
  |zero=>simp[ur]at gR
  |succ n=>
   unfold ur at gR;split at gR
   .rename_i k hu;exact He hu (.inl ⟨k,rfl⟩) bJ
   .rename_i hu;exact He hu (.inr (.inl rfl)) bJ
   .rename_i hu;exact He hu (.inr (.inr (.inl rfl))) bJ
   .rename_i e hu;exact He hu (.inr (.inr (.inr ⟨e,rfl⟩))) bJ
   .simp at gR
def OLe{α:Type}(a b:I α):Prop:=∀r,a=O r->b=O r
theorem OLe.refl{α:Type}(a:I α):OLe a a:=λ_ h=>h
theorem OLe.none{α:Type}(a:I α):OLe X a:=λ_ h=>by simp at h
theorem OLe.bind{α β:Type}{a b:I α}{f g:α->I β}(h:OLe a b)(h':∀x,OLe (f x) (g x)):OLe (a.bind f) (b.bind g):=by
 intro r hr;cases a with
 |none=>simp at hr
 |some x=>rw[h x rfl];exact h' x r hr
theorem OLe.cond{α:Type}{c:É}{a b a' b':I α}(h:OLe a a')(h':OLe b b'):OLe (cond c a b) (cond c a' b'):=by
 cases c with
 |true=>exact h
 |false=>exact h'
theorem OLe.sumC{α β γ:Type}{x:α ⊕ β}{f f':α->I γ}{g g':β->I γ}(h:∀x,OLe (f x) (f' x))(h':∀x,OLe (g x) (g' x)):OLe (sumC x f g) (Lft.sumC x f' g'):=by
 cases x with
 |inl a=>exact h a
 |inr b=>exact h' b
theorem OLe.loopN{α β:Type}{f g:α->I (α ⊕ β)}(h:∀s,OLe (f s) (g s)):∀(n:U)(s:α),OLe (Lft.loopN f n s) (Lft.loopN g n s)
 |0,_=> .none _
 |n+1,s=>by
  intro r hr;simp only[Lft.loopN]at hr ⊢;cases hf:f s with
  |none=>simp[hf]at hr
  |some x=>
   rw[h s x hf];cases x with
   |inl a=>simp only[hf]at hr;exact OLe.loopN h n a r hr
   |inr b=>simpa[hf]using hr
theorem OLe.loop{α β:Type}{f g:α->I (α ⊕ β)}(n:U)(s:α)(h:∀s,OLe (f s) (g s)):OLe (Lft.loopN f n s) (loopOpt g s):=
 λr hr=>Eb (OLe.loopN h n s r hr)
theorem OLe.loopOpt{α β:Type}{f g:α->I (α ⊕ β)}(s:α)(h:∀s,OLe (f s) (g s)):OLe (Lft.loopOpt f s) (Lft.loopOpt g s):=by
 intro r hr;obtain⟨n,hn⟩:=Ec hr;exact Eb (OLe.loopN h n s r hn)
theorem U9{α β:Type}{B B':(α->I β)->α->I β}(h:∀g g',(∀a,OLe (g a) (g' a))->∀a,OLe (B g a) (B' g' a)):∀n a,OLe (lx B n a) (lx B' n a)
 |0,_=> .none _
 |n+1,a=>h _ _ (U9 h n) a
theorem M3{α β:Type}{B:(α->I β)->α->I β}(h:∀g g',(∀a,OLe (g a) (g' a))->∀a,OLe (B g a) (B g' a)):∀(k n:U)(a:α),OLe (lx B n a) (lx B (n+k) a)
 |k,0,a=> .none _
 |k,n+1,a=>by
  rw[show n+1+k=(n+k)+1 by omega];exact h _ _ (M3 h k n) a
theorem OLe.rec{α β:Type}{B B':(α->I β)->α->I β}(n:U)(a:α)(h:∀g g',(∀a,OLe (g a) (g' a))->∀a,OLe (B g a) (B' g' a))(h':∀g g',(∀a,OLe (g a) (g' a))->∀a,OLe (B' g a) (B' g' a)) :
  OLe (lx B n a) (wC B' a):=by
 intro r hr;have h1:=U9 h n a r hr;refine UX ⟨n,h1⟩ λm y hy=>?_;have e1:=M3 h' m n a r h1;have e2:=M3 h' n m a y hy;rw[Nat.add_comm m n]at e2;rw[e1]at e2;simpa using e2.symm
end Go.Lft
