/- Ox of arguments and CJ: what is known of them but the data. XO. -/
import Derived.Test.YtgfoijaggkhgnaaGreatLXLC
import Derived.KernelRfl
import Derived.IntWalk
import Derived.Below
import Derived.ChangeSame
open _root_ renaming List->D,Option->O,Nat->U,Int->È,DecidableEq->É,Bool->Ê,Array->Ö,True->ã,Inv->æ
open Option renaming some->I,none->X,map_eq_some_iff->Ô
open Go.DataW renaming trod->Y,TrodAll->ß,Trod->é
open Bool renaming false->Z,true->Á
open Go.Exit renaming inBlock->À
open Go.Code renaming region->Â,cond->Ï,block->Ó
open Go renaming Program->Ã,Value->Ä,World->Å,Act->Ë,TypeId->Í,Code->Î,MemPlace->Ð,Oper->Ù,DataW->Û,Func->ä,Addr->ì
open List renaming length->Æ,getElem?_append_left->Ì,getD->Ø,range->Ú,length_range->Ü,find?_cons->Ý,isEmpty->à,range'->å
open Decidable renaming decide->Ç
open Go.Value renaming okWide->Ñ
open Go.Region renaming wanted->Ò
open Int renaming toNat->Õ,ofNat->ê
noncomputable section
set_option linter.unusedVariables false
namespace Go.Lft
inductive CPat where
 |v (t:Ty)
 |p (ts:D Ty)
 deriving É
inductive LPat where
 |dead|nil
 |d (t:Ty)
 |ol (k:U)
 |bp (k c:U)
 |ep (k i c:U)
 |tl (k:U)
 |hd (k:U)
 |ip (ts:D Ty)
 |clo (f:U) (bT:D CPat)
 deriving É
inductive KPat where
 |one (l:LPat)
 |st (ls:D LPat)
 |av (n:U) (a:Ty)
 deriving É
inductive BPat where
 |free|gone
 |cell (ls:D LPat) (frz:Ê)
 |lst (e:U) (a:Ty) (frz:Ê)
 |arr (n:U) (a:Ty)
 deriving É
inductive IPat where
 |s (c:KPat)
 |b (x:BPat)
 deriving É
abbrev iT:Ty:= .int .i64
abbrev sI:IPat:= .s (.one (.d iT))
abbrev sD(t:Ty):IPat:= .s (.one (.d t))
abbrev sO(k:U):IPat:= .s (.one (.ol k))
abbrev sB(k c:U):IPat:= .s (.one (.bp k c))
abbrev sC(f:U)(l:D CPat):IPat:= .s (.one (.clo f l))
inductive APat where
 |v (t:Ty)
 |ref (ts:D Ty)
 |rl (e:U) (t:Ty)
 |ip (ts:D Ty)
 |clo (f:U) (bT:D CPat)
 |mv (e:U) (t:Ty)
 deriving É
@[reducible] def HL:List Ty->Type
 |[]=>Unit
 |[t]=>t.den
 |t::t'::ts=>t.den×HL (t'::ts)
def ofHL:(ts:D Ty)->HL ts->D TV
 |[],_=>[]
 |[t],h=>[⟨t,h⟩]
 |t::t'::ts,h=>⟨t,h.1⟩::ofHL (t'::ts) h.2
def toHL:(ts:D Ty)->D TV->O (HL ts)
 |[],[]=>I ()
 |[t],[x]=>x.to t
 |t::t'::ts,x::xs=>match x.to t with
  |some v=>match toHL (t'::ts) xs with
   |some r=>I (v,r)
   |none=>X
  |none=>X
 |_,_=>X
theorem Jk:∀{ts:D Ty}{xs:D TV}{h:HL ts},toHL ts xs=I h->xs=ofHL ts h
 |[],[],_,_=>rfl
 |[],_::_,_,h=>by simp[toHL]at h
 |[_],[],_,h=>by simp[toHL]at h
 |[t],[x],hl,h=>by
  simp only[toHL]at h;rw[nS h];rfl
 |[t],x::y::xs,hl,h=>by simp[toHL]at h
 |_::_::_,[],_,h=>by simp[toHL]at h
 |t::t'::ts,x::xs,hl,h=>by
  simp only[toHL]at h;split at h
  .rename_i v hv;split at h
   .rename_i r hr;simp only[j5]at h;subst h;rw[nS hv,Jk hr];rfl
   .simp at h
  .simp at h
def capP:Cap->CPat×D TV
 |.v x=>(.v x.t,[x])
 |.p ls=>(.p (ls.map (·.t)),ls)
def pU:D Cap->D CPat×D TV
 |[]=>([],[])
 |c::cs=>((capP c).1::(pU cs).1,(capP c).2++(pU cs).2)
def tv0:TV:=⟨.unit,()⟩
def capF:CPat->D TV->Cap
 |.v _,xs=> .v (xs.headD tv0)
 |.p ts,xs=> .p (xs.take ts.length)
def CPat.n:CPat->U
 |.v _=>1
 |.p ts=>ts.length
def CK:D CPat->D TV->D Cap
 |[],_=>[]
 |c::cs,xs=>capF c xs::CK cs (xs.drop c.n)
def CL:D CPat->U
 |[]=>0
 |c::cs=>c.n+CL cs
theorem jGp(c:Cap)(r:D TV):capF (capP c).1 ((capP c).2++r)=c/\(capP c).1.n=(capP c).2.length:=by
 cases c with
 |v x=>exact⟨rfl,rfl⟩
 |p ls=>simp[capP,capF,CPat.n]
theorem Jl:∀(cs:D Cap)(r:D TV),CK (pU cs).1 ((pU cs).2++r)=cs/\CL (pU cs).1=(pU cs).2.length
 |[],r=>⟨rfl,rfl⟩
 |c::cs,r=>by
  simp only[pU,CK,CL,jj,jf];have h1:=jGp c ((pU cs).2++r);have h2:=Jl cs r;rw[h1.1,h1.2,ym,h2.1,h2.2];exact⟨rfl,rfl⟩
def uG:Leaf->LPat×D TV
 |.dead=>(.dead,[])
 |.nil=>(.nil,[])
 |.d t v=>(.d t,[⟨t,v⟩])
 |.ol k=>(.ol k,[])
 |.bp k c=>(.bp k c,[])
 |.ep k i c=>(.ep k i c,[])
 |.tl k i=>(.tl k,[⟨.int .i64,(i:È)⟩])
 |.hd k i=>(.hd k,[⟨.int .i64,(i:È)⟩])
 |.ip ls=>(.ip (ls.map (·.t)),ls)
 |.clo f bT=>(.clo f (pU bT).1,(pU bT).2)
def Oy:TV->U
 |⟨.int _,v⟩=>Õ v
 |_=>0
def LPat.n:LPat->U
 |.d _=>1
 |.tl _=>1
 |.hd _=>1
 |.ip ts=>ts.length
 |.clo _ cs=>CL cs
 |_=>0
def Fc:LPat->D TV->Leaf
 |.dead,_=> .dead
 |.nil,_=> .nil
 |.d _,xs=> .d (xs.headD tv0).t (xs.headD tv0).v
 |.ol k,_=> .ol k
 |.bp k c,_=> .bp k c
 |.ep k i c,_=> .ep k i c
 |.tl k,xs=> .tl k (Oy (xs.headD tv0))
 |.hd k,xs=> .hd k (Oy (xs.headD tv0))
 |.ip ts,xs=> .ip (xs.take ts.length)
 |.clo f cs,xs=> .clo f (CK cs xs)
theorem XP(l:Leaf)(r:D TV):Fc (uG l).1 ((uG l).2++r)=l/\(uG l).1.n=(uG l).2.length:=by
 cases l with
 |ip ls=>simp[uG,Fc,LPat.n]
 |clo f cs=>have:=Jl cs r;simp only[uG,Fc,LPat.n];exact⟨by rw[this.1],this.2⟩
 |_=>exact⟨rfl,rfl⟩
def rY:D Leaf->D LPat×D TV
 |[]=>([],[])
 |c::cs=>((uG c).1::(rY cs).1,(uG c).2++(rY cs).2)
def Fe:D LPat->D TV->D Leaf
 |[],_=>[]
 |c::cs,xs=>Fc c xs::Fe cs (xs.drop c.n)
def Ff:D LPat->U
 |[]=>0
 |c::cs=>c.n+Ff cs
theorem Oz:∀(cs:D Leaf)(r:D TV),Fe (rY cs).1 ((rY cs).2++r)=cs/\Ff (rY cs).1=(rY cs).2.length
 |[],r=>⟨rfl,rfl⟩
 |c::cs,r=>by
  simp only[rY,Fe,Ff,jj,jf];have h1:=XP c ((rY cs).2++r);have h2:=Oz cs r;rw[h1.1,h1.2,ym,h2.1,h2.2];exact⟨rfl,rfl⟩
def celP:Cel->KPat×D TV
 |.one l=>(.one (uG l).1,(uG l).2)
 |.st ls=>(.st (rY ls).1,(rY ls).2)
 |.av n a xs=>(.av n a,[⟨.list a,xs⟩])
def Fg(a:Ty)(xs:D TV):D a.den:=((xs.headD tv0).to (.list a)).getD []
theorem OA(a:Ty)(xs:D a.den)(r:D TV):Fg a (⟨.list a,xs⟩::r)=xs:=by
 simp[Fg,TV.to]
def KPat.n:KPat->U
 |.one l=>l.n
 |.st ls=>Ff ls
 |.av _ _=>1
def celF:KPat->D TV->Cel
 |.one l,xs=> .one (Fc l xs)
 |.st ls,xs=> .st (Fe ls xs)
 |.av n a,xs=> .av n a (Fg a xs)
theorem jGq(c:Cel)(r:D TV):celF (celP c).1 ((celP c).2++r)=c/\(celP c).1.n=(celP c).2.length:=by
 cases c with
 |one l=>have:=XP l r;exact⟨by simp only[celP,celF];rw[this.1],this.2⟩
 |st ls=>have:=Oz ls r;exact⟨by simp only[celP,celF];rw[this.1],this.2⟩
 |av n a xs=>exact⟨by simp only[celP,celF,z7,jw];rw[OA],rfl⟩
def bsP:BS->BPat×D TV
 |.free=>(.free,[])
 |.gone=>(.gone,[])
 |.live (.cell ls f)=>(.cell (rY ls).1 f,(rY ls).2)
 |.live (.lst e a xs f)=>(.lst e a f,[⟨.list a,xs⟩])
 |.live (.arr n a xs)=>(.arr n a,[⟨.list a,xs⟩])
def BPat.n:BPat->U
 |.free|.gone=>0
 |.cell ls _=>Ff ls
 |.lst _ _ _=>1
 |.arr _ _=>1
def bsF:BPat->D TV->BS
 |.free,_=> .free
 |.gone,_=> .gone
 |.cell ls f,xs=> .live (.cell (Fe ls xs) f)
 |.lst e a f,xs=> .live (.lst e a (Fg a xs) f)
 |.arr n a,xs=> .live (.arr n a (Fg a xs))
theorem jI3(c:BS)(r:D TV):bsF (bsP c).1 ((bsP c).2++r)=c/\(bsP c).1.n=(bsP c).2.length:=by
 cases c with
 |free=>exact⟨rfl,rfl⟩
 |gone=>exact⟨rfl,rfl⟩
 |live b=>
  cases b with
  |cell ls f=>have:=Oz ls r;exact⟨by simp only[bsP,bsF];rw[this.1],this.2⟩
  |lst e a xs f=>exact⟨by simp only[bsP,bsF,z7,jw];rw[OA],rfl⟩
  |arr n a xs=>exact⟨by simp only[bsP,bsF,z7,jw];rw[OA],rfl⟩
def itP:Item->IPat×D TV
 |.s c=>(.s (celP c).1,(celP c).2)
 |.b x=>(.b (bsP x).1,(bsP x).2)
def IPat.n:IPat->U
 |.s c=>c.n
 |.b x=>x.n
def itF:IPat->D TV->Item
 |.s c,xs=> .s (celF c xs)
 |.b x,xs=> .b (bsF x xs)
theorem jI4(c:Item)(r:D TV):itF (itP c).1 ((itP c).2++r)=c/\(itP c).1.n=(itP c).2.length:=by
 cases c with
 |s c=>have:=jGq c r;exact⟨by simp only[itP,itF];rw[this.1],this.2⟩
 |b x=>have:=jI3 x r;exact⟨by simp only[itP,itF];rw[this.1],this.2⟩
def wi:Snap->D IPat×D TV
 |[]=>([],[])
 |c::cs=>((itP c).1::(wi cs).1,(itP c).2++(wi cs).2)
def Jm:D IPat->D TV->Snap
 |[],_=>[]
 |c::cs,xs=>itF c xs::Jm cs (xs.drop c.n)
theorem XQ:∀(cs:Snap),Jm (wi cs).1 (wi cs).2=cs
 |[]=>rfl
 |c::cs=>by
  simp only[wi,Jm];have h1:=jI4 c (wi cs).2;rw[h1.1,h1.2,ym,XQ cs]
def pack(ps:D IPat)(ts:D Ty)(h:HL ts):Snap:=Jm ps (ofHL ts h)
def tu(ps:D IPat)(ts:D Ty)(s:Snap):O (HL ts):=
 if (wi s).1=ps then toHL ts (wi s).2 else X
theorem CM{ps:D IPat}{ts:D Ty}{s:Snap}{h:HL ts}(hs:tu ps ts s=I h):s=pack ps ts h:=by
 unfold tu at hs;split at hs
 .rename_i hp;have:=Jk hs;rw[pack,<-this,<-hp,XQ]
 .simp at hs
def argP:Arg->APat×D TV
 |.v x=>(.v x.t,[x])
 |.ref ls=>(.ref (ls.map (·.t)),ls)
 |.rl e x=>(.rl e x.t,[x])
 |.ip ls=>(.ip (ls.map (·.t)),ls)
 |.clo f cs=>(.clo f (pU cs).1,(pU cs).2)
 |.mv e x=>(.mv e x.t,[x])
def APat.n:APat->U
 |.v _=>1
 |.ref ts=>ts.length
 |.rl _ _=>1
 |.ip ts=>ts.length
 |.clo _ cs=>CL cs
 |.mv _ _=>1
def argF:APat->D TV->Arg
 |.v _,xs=> .v (xs.headD tv0)
 |.ref ts,xs=> .ref (xs.take ts.length)
 |.rl e _,xs=> .rl e (xs.headD tv0)
 |.ip ts,xs=> .ip (xs.take ts.length)
 |.clo f cs,xs=> .clo f (CK cs xs)
 |.mv e _,xs=> .mv e (xs.headD tv0)
theorem jGr(c:Arg)(r:D TV):argF (argP c).1 ((argP c).2++r)=c/\(argP c).1.n=(argP c).2.length:=by
 cases c with
 |v x=>exact⟨rfl,rfl⟩
 |rl e x=>exact⟨rfl,rfl⟩
 |mv e x=>exact⟨rfl,rfl⟩
 |ref ls=>simp[argP,argF,APat.n]
 |ip ls=>simp[argP,argF,APat.n]
 |clo f cs=>have:=Jl cs r;exact⟨by simp only[argP,argF];rw[this.1],this.2⟩
def wj:D Arg->D APat×D TV
 |[]=>([],[])
 |c::cs=>((argP c).1::(wj cs).1,(argP c).2++(wj cs).2)
def CN:D APat->D TV->D Arg
 |[],_=>[]
 |c::cs,xs=>argF c xs::CN cs (xs.drop c.n)
theorem XR:∀(cs:D Arg),CN (wj cs).1 (wj cs).2=cs
 |[]=>rfl
 |c::cs=>by
  simp only[wj,CN];have h1:=jGr c (wj cs).2;rw[h1.1,h1.2,ym,XR cs]
def rZ(ps:D APat)(ts:D Ty)(h:HL ts):D Arg:=CN ps (ofHL ts h)
def Jn(ps:D APat)(ts:D Ty)(s:D Arg):O (HL ts):=
 if (wj s).1=ps then toHL ts (wj s).2 else X
theorem Jo{ps:D APat}{ts:D Ty}{s:D Arg}{h:HL ts}(hs:Jn ps ts s=I h):s=rZ ps ts h:=by
 unfold Jn at hs;split at hs
 .rename_i hp;have:=Jk hs;rw[rZ,<-this,<-hp,XR]
 .simp at hs
theorem OB{α β:Type}{f:α->O (α ⊕ β)}:∀{n m:U}{s:α}{x y:β},loopN f n s=I x->loopN f m s=I y->x=y
 |0,_,_,_,_,h,_=>by simp[loopN]at h
 |_+1,0,_,_,_,_,h=>by simp[loopN]at h
 |n+1,m+1,s,x,y,h,h'=>by
  simp only[loopN]at h h';cases hf:f s with
  |none=>simp[hf]at h
  |some r=>
   cases r with
   |inl s'=>simp only[hf]at h h';exact OB h h'
   |inr z=>simp only[hf,j5]at h h';rw[<-h,<-h']
open Classical in
def loopOpt{α β:Type}(f:α->O (α ⊕ β))(s:α):O β:=
 match loopN f 100000 s with
 |some x=>I x
 |none=>if h:∃x n,loopN f n s=I x then I h.choose else X
theorem Fh{α β:Type}{f:α->O (α ⊕ β)}{s:α}{n:U}{x:β}(h:loopN f n s=I x):loopOpt f s=I x:=by
 unfold loopOpt;split
 .rename_i y hy;rw[OB hy h]
 have hx:∃x n,loopN f n s=I x:=⟨x,n,h⟩;rw[dif_pos hx];obtain⟨m,hm⟩:=hx.choose_spec;rw[OB hm h]
theorem Fi{α β:Type}{f:α->O (α ⊕ β)}{s:α}{x:β}(h:loopOpt f s=I x):∃n,loopN f n s=I x:=by
 unfold loopOpt at h;split at h
 .rename_i hy;exact⟨100000,by rw[hy,h]⟩
 split at h
 .rename_i hx;simp only[j5]at h;obtain⟨m,hm⟩:=hx.choose_spec;exact⟨m,by rw[<-h];exact hm⟩
 .simp at h
theorem jt0{α β:Type}{f:α->O (α ⊕ β)}{s s':α}(h:f s=I (.inl s')):loopOpt f s=loopOpt f s':=by
 cases hq:loopOpt f s' with
 |some x=>obtain⟨n,hn⟩:=Fi hq;exact Fh (n:=n+1) (by simp only[loopN,h];exact hn)
 |none=>
  cases hp:loopOpt f s with
  |none=>rfl
  |some x=>
   obtain⟨n,hn⟩:=Fi hp;cases n with
   |zero=>simp[loopN]at hn
   |succ n=>simp only[loopN,h]at hn;rw[Fh hn]at hq;simp at hq
theorem juT{α β:Type}{f:α->O (α ⊕ β)}{s:α}{x:β}(h:f s=I (.inr x)):loopOpt f s=I x:=
 Fh (n:=1) (by simp only[loopN,h])
theorem XS{α β A B:Type}{f:α->O (α ⊕ β)}{g:A->O (A ⊕ B)}{p:A->α}{q:B->β}
  (h:∀a r,g a=I r->f (p a)=I (match r with|.inl a'=> .inl (p a')|.inr b=> .inr (q b))):∀{n:U}{a:A}{x:B},loopN g n a=I x->loopN f n (p a)=I (q x)
 |0,_,_,hn=>by simp[loopN]at hn
 |n+1,a,x,hn=>by
  simp only[loopN]at hn;cases hg:g a with
  |none=>simp[hg]at hn
  |some r=>
   have:=h a r hg;cases r with
   |inl a'=>simp only[hg]at hn;simp only[loopN,this];exact XS h hn
   |inr b=>simp only[hg,j5]at hn;subst hn;simp only[loopN,this]
def sumC{α β γ:Type}(x:α ⊕ β)(f:α->γ)(g:β->γ):γ:=match x with
 |.inl a=>f a
 |.inr b=>g b
structure XD where
 ex:Ex
 ps:D IPat
 ts:D Ty
@[reducible] def XT:List XD->Type
 |[]=>Empty
 |[x]=>HL x.ts
 |x::y::r=>HL x.ts ⊕ XT (y::r)
def tw:(l:D XD)->XT l->Ex×Snap
 |[],h=>nomatch h
 |[x],h=>(x.ex,pack x.ps x.ts h)
 |x::y::r,h=>match h with
  |.inl a=>(x.ex,pack x.ps x.ts a)
  |.inr b=>tw (y::r) b
def Fj{R:Type}:(l:D XD)->XT l->(Ex->Snap->O R)->O R
 |[],_,_=>X
 |[x],h,k=>k x.ex (pack x.ps x.ts h)
 |x::y::r,h,k=>sumC h (λa=>k x.ex (pack x.ps x.ts a)) (λb=>Fj (y::r) b k)
theorem OC{R:Type}:∀(l:D XD)(h:XT l)(k:Ex->Snap->O R),Fj l h k=k (tw l h).1 (tw l h).2
 |[],h,_=>nomatch h
 |[x],h,k=>rfl
 |x::y::r,h,k=>by
  cases h with
  |inl a=>rfl
  |inr b=>exact OC (y::r) b k
def unX:(l:D XD)->Ex->Snap->O (XT l)
 |[],_,_=>X
 |[x],e,s=>if e=x.ex then tu x.ps x.ts s else X
 |x::y::r,e,s=>if e=x.ex/\(wi s).1=x.ps then match tu x.ps x.ts s with
   |some a=>I (.inl a)
   |none=>X
  else match unX (y::r) e s with
   |some b=>I (.inr b)
   |none=>X
theorem Jp:∀(l:D XD)(e:Ex)(s:Snap)(x:XT l),unX l e s=I x->tw l x=(e,s)
 |[],_,_,_,h=>by simp[unX]at h
 |[x],e,s,h,he=>by
  simp only[unX]at he;split at he
  .rename_i h1;rw[tw,<-CM he,h1]
  .simp at he
 |x::y::r,e,s,h,he=>by
  simp only[unX]at he;split at he
  .rename_i h1;split at he
   .rename_i a ha;simp only[j5]at he;subst he;show (x.ex,pack x.ps x.ts a)=(e,s);rw[<-CM ha,h1.1]
   .simp at he
  .split at he
   .rename_i b hb;simp only[j5]at he;subst he;exact Jp (y::r) e s b hb
   .simp at he
structure nC where
 b:U
 ps:D IPat
 ts:D Ty
 exits:D XD
 step:HL ts->O (HL ts ⊕ XT exits)
def wk:D nC->U->Snap->(R:Type)->(Ex->Snap->O R)->O R
 |[],_,_,_,_=>X
 |d::ds,b,s,R,k=>if d.b=b then match tu d.ps d.ts s with
   |some h=>(loopOpt d.step h).bind λx=>Fj d.exits x k
   |none=>X
  else wk ds b s R k
theorem OD:∀ds:D nC,LFun (wk ds)
 |[]=>λ_ _=>⟨X,λ_ _=>rfl⟩
 |d::ds=>λb s=>by
  simp only[wk];split
  .split
   .rename_i h _;cases hq:loopOpt d.step h with
    |none=>exact⟨X,λ_ _=>rfl⟩
    |some x=>exact⟨I (tw d.exits x),λR k=>OC d.exits x k⟩
   .exact⟨X,λ_ _=>rfl⟩
  .exact OD ds b s
structure MrD where
 b:U
 m:U
 nm:U
 ps:D IPat
 ts:D Ty
 em:U
 v:Ty
 G:HL ts->È->v.den->(R:Type)->(v.den->O R)->O R
def mrL:D MrD->U->Snap->(R:Type)->(Snap->O R)->O R
 |[],_,_,_,_=>X
 |d::ds,b,s,R,k=>if d.b=b then match tu d.ps d.ts s,jmp d.em d.v s with
   |some h,I xs=>(rF (λq z=>d.G h q z d.v.den I) xs).bind λys=>k (ia s d.em d.v ys)
   |_,_=>X
  else mrL ds b s R k
def mrF:D MrD->U->O (U×U)
 |[],_=>X
 |d::ds,b=>if d.b=b then I (d.m,d.nm) else mrF ds b
theorem OE:∀ds:D MrD,MFun (mrL ds)
 |[]=>λ_ _=>⟨X,λ_ _=>rfl⟩
 |d::ds=>λb s=>by
  simp only[mrL];split
  .split
   .rename_i h xs _ _;cases rF (λq z=>d.G h q z d.v.den I) xs with
    |none=>exact⟨X,λ_ _=>rfl⟩
    |some ys=>exact⟨I (ia s d.em d.v ys),λ_ _=>rfl⟩
   .exact⟨X,λ_ _=>rfl⟩
  .exact OE ds b s
theorem XU{b m nm:U}:∀{ds:D MrD},mrF ds b=I (m,nm)->∃d∈ds,d.b=b/\d.m=m/\d.nm=nm/\∀s R k,mrL ds b s R k=match tu d.ps d.ts s,jmp d.em d.v s with
   |some h,I xs=>(rF (λq z=>d.G h q z d.v.den I) xs).bind λys=>k (ia s d.em d.v ys)
   |_,_=>X
 |[],h=>by simp[mrF]at h
 |d::ds,h=>by
  simp only[mrF]at h;split at h
  .rename_i hb;simp only[j5,j9]at h;refine⟨d,ae,hb,h.1,h.2,λs R k=>?_⟩;simp only[mrL,hb,if_true]
  .rename_i hb;obtain⟨d',hm,h1,h2,h3,h4⟩:=XU h;refine⟨d',by simp[hm],h1,h2,h3,λs R k=>?_⟩;rw[<-h4];simp only[mrL,hb,za]
def mrPd(b:U)(c:Î):MrP:=(mrP b c).getD ⟨0,0,0,0,0, #[],.skip⟩
structure OG(E:Env)(c:Î)(d:MrD):Prop where
 em:isM d.em=Á
 bx:∀h zs,(cX E.np (E.keep d.b) (ia (pack d.ps d.ts h) d.em d.v zs)).bx d.nm = .live (.lst d.em (.pair (.int .i64) d.v) zs Z)
 sl:∀h zs,(cX E.np (E.keep d.b) (ia (pack d.ps d.ts h) d.em d.v zs)).sl d.m = .one (.one (.ol d.nm))
 step:∀h zs q z (R:Type) (k:Snap->O R),B2 E d.b (mrPd d.b c) d.m (ia (pack d.ps d.ts h) d.em d.v zs) d.v q z k=
  d.G h q z R (λy=>k (ia (pack d.ps d.ts h) d.em d.v (@eD _ _ (Ty.int .i64).keq zs q y)))
theorem jFg(t:Ty)(v:t.den):(TV.mk t v).to t=I v:=by simp[TV.to]
theorem jyb(s:Snap)(em:U)(v:Ty)(zs:D (È×v.den)):jmp em v (ia s em v zs)=I zs:=by
 unfold jmp ia;simp only[yj,yd,Option.some_or,if_true];exact jFg (.list (.pair (.int .i64) v)) zs
theorem jA0{em:U}{v:Ty}{s:Snap}{xs:D (È×v.den)}(h:jmp em v s=I xs):s=ia s em v xs:=by
 unfold jmp at h;split at h
 .rename_i e a zs hl;split at h
  .rename_i he;subst he;have:=nS h;cases this;obtain⟨pre,rfl⟩:=List.getLast?_eq_some_iff.1 hl;unfold ia;rw[yi]
  .simp at h
 .simp at h
theorem XV{α β:Type}{G:α->β->O β}:∀{xs ys:D (α×β)},rF G xs=I ys->All2 (λx y=>y.1=x.1/\G x.1 x.2=I y.2) xs ys
 |[],ys,h=>by
  simp only[rF,j5]at h;subst h;trivial
 |x::r,ys,h=>by
  simp only[rF]at h;cases hg:G x.1 x.2 with
  |none=>rw[hg]at h;simp at h
  |some z=>
   rw[hg,j4]at h;cases hr:rF G r with
   |none=>rw[hr]at h;simp at h
   |some r'=>rw[hr,j4,j5]at h;subst h;exact⟨⟨rfl,hg⟩,XV hr⟩
theorem jFh{E:Env}(hF:CFun E.C)(hz:E.nz=Z)(hL:LFun E.L/\MFun E.M){c:Î}{ds:D MrD}{b:U}(hm:E.mr=mrF ds)(hM:E.M=mrL ds)(hs:∀d∈ds,d.b=b->OG E c d):MrOK E b c:=by
 intro m nm p hb hp s R k r h;rw[hm]at hb;obtain⟨d,hd,rfl,rfl,rfl,he⟩:=XU hb;have bP:=hs d hd rfl;rw[hM,he]at h;split at h
 case h_2=>simp at h
 rename_i hh xs hu hg;cases hq:rF (λq z=>d.G hh q z d.v.den I) xs with
 |none=>rw[hq]at h;simp at h
 |some ys=>
 rw[hq,j4]at h;obtain rfl:=CM hu;have hpd:mrPd d.b c=p:=by unfold mrPd;rw[hp];rfl
 refine⟨d.em,d.v,xs,ys,bP.em,jA0 hg,λzs=>⟨bP.bx hh zs,bP.sl hh zs⟩,(XV hq).mono λx y iP=>⟨iP.1,λzs=>?_⟩,h⟩;obtain⟨o,ho⟩:=jy6 hF hz hL d.b p d.m (ia (pack d.ps d.ts hh) d.em d.v []) d.v x.1 x.2;have aQ:=λzs R k=>bP.step hh zs x.1 x.2 R k;rw[hpd]at aQ
 let inv:Snap->d.v.den:=λs=>match jmp d.em d.v s with
  |some ((_,y)::_)=>y
  |_=>d.v.dflt
 have hinv:∀y,inv (ia (pack d.ps d.ts hh) d.em d.v (@eD _ _ (Ty.int .i64).keq [] x.1 y))=y:=λy=>by
  show (match jmp d.em d.v _ with
   |some ((_,y)::_)=>y
   |_=>d.v.dflt)=y
  rw[jyb];rfl
 have hG:∀(R:Type)(κ:d.v.den->O R),d.G hh x.1 x.2 R κ=o.bind λs=>κ (inv s):=λR κ=>by
  rw[<-ho];show _=B2 E d.b p d.m (ia (pack d.ps d.ts hh) d.em d.v []) d.v x.1 x.2 λs=>κ (inv s);rw[aQ];congr 1;funext y;rw[hinv]
 rw[aQ,hG];have h2:=iP.2;rw[hG]at h2;cases o with
 |none=>simp at h2
 |some s0=>rw[j4,j5]at h2;rw[j4,h2]
def mrAt(c:Î)(b:U):Code:=(((gk 0 c).find? λx=>Nat.beq x.1 b).getD (0,.skip)).2
def AD(E:Env)(c:Î):D MrD->Prop
 |[]=>ã
 |d::ds=>OG E (mrAt c d.b) d/\AD E c ds
theorem AD.get{E:Env}{c:Î}:∀{ds:D MrD},AD E c ds->∀d∈ds,OG E (mrAt c d.b) d
 |[],_,d,h=>by simp at h
 |x::r,hs,d,h=>by
  rcases je.1 h with rfl|h
  .exact hs.1
  .exact AD.get hs.2 d h
theorem XW:∀{l:D (U×Î)}{x:U×Î},(l.map (·.1)).Nodup->x∈l->l.find? (λy=>Nat.beq y.1 x.1)=I x
 |[],x,_,h=>by simp at h
 |y::r,x,hn,h=>by
  have hc:=qh.1 (show (y.1::r.map (·.1)).Nodup from hn);rcases je.1 h with rfl|h
  .rw[Ý,Nat.beq_refl]
  .have bA:y.1≠x.1:=λe=>hc.1 (e▸jr.2 ⟨x,h,rfl⟩);rw[Ý,beqF bA];exact XW hc.2 h
def uk(E:Env)(d:nC)(e:Ex)(σ:St):O (HL d.ts ⊕ XT d.exits):=
 match e with
 |.normal=>match jL E.np (E.keep d.b) σ with
  |some s=>match tu d.ps d.ts s with
   |some h=>I (.inl h)
   |none=>X
  |none=>X
 |e=>match jL E.np (E.keepX d.b e) σ with
  |some s=>match unX d.exits e s with
   |some x=>I (.inr x)
   |none=>X
  |none=>X
def ukR(E:Env)(d:nC)(ps:Ö U)(x y:Î)(p:O (D Item))(e:Ex)(σ:St):O (HL d.ts ⊕ XT d.exits):=
 match p,e with
 |some q,.normal=>match jL E.np (E.keep d.b) σ with
  |some s=>match tu d.ps d.ts (q++s) with
   |some h=>I (.inl h)
   |none=>X
  |none=>X
 |_,e=>cond (pinK ps x y (E.keepX d.b e)) (match jL E.np (E.keepX d.b e) σ with
  |some s=>match unX d.exits e s with
   |some x=>I (.inr x)
   |none=>X
  |none=>X) X
def jCD(E:Env)(d:nC)(h:HL d.ts):Î->O (HL d.ts ⊕ XT d.exits)
 |.rangeFunc g ps x y=>DG E d.b g ps x y (pack d.ps d.ts h) (ukR E d ps x y)
 |c=>gp E d.b c (cX E.np (E.keep d.b) (pack d.ps d.ts h)) (uk E d)
def Jq(E:Env)(c:Î)(d:nC):Prop:=∀h,jCD E d h c=d.step h
def outS(d:nC)(r:HL d.ts ⊕ XT d.exits):Snap ⊕ Ex×Snap:=match r with
 |.inl a=> .inl (pack d.ps d.ts a)
 |.inr x=> .inr (tw d.exits x)
theorem jGs{E:Env}(hF:CFun E.C)(hz:E.nz=Z)(hL:LFun E.L/\MFun E.M){g:Operand}{ps:Ö U}{x y:Î}{d:nC}(hs:Jq E (.rangeFunc g ps x y) d)(h:HL d.ts)(r:HL d.ts ⊕ XT d.exits):d.step h=I r->
  B1 E d.b g ps x y (pack d.ps d.ts h)=I (outS d r):=by
 intro hr;obtain⟨o,ho⟩:=juS hF hz hL d.b g ps x y (pack d.ps d.ts h);rw[<-hs h]at hr;have h1:I r=_:=hr.symm.trans (ho _ (λz=>ukR E d ps x y z.1 z.2.1 z.2.2));cases o with
 |none=>simp at h1
 |some z=>
  obtain⟨p,e,σ⟩:=z;simp only[j4]at h1
  have h2:=ho _ (λz:O (D Item)×Ex×St=>match z.1,z.2.1 with
   |some q,.normal=>match jL E.np (E.keep d.b) z.2.2 with
    |some s'=>I (Sum.inl (q++s'))
    |none=>X
   |_,e=>cond (pinK ps x y (E.keepX d.b e)) (match jL E.np (E.keepX d.b e) z.2.2 with
    |some s'=>I (Sum.inr (e,s'))
    |none=>X) X)
  have h3:B1 E d.b g ps x y (pack d.ps d.ts h)=_:=h2;rw[h3,j4];clear h3 h2 hr ho;dsimp only;have h1:=h1.symm;unfold ukR at h1
  have hx:∀e,(cond (pinK ps x y (E.keepX d.b e)) (match jL E.np (E.keepX d.b e) σ with
    |some s=>match unX d.exits e s with
     |some x=>I (Sum.inr x)
     |none=>X
    |none=>X) X:O (HL d.ts ⊕ XT d.exits))=I r->(cond (pinK ps x y (E.keepX d.b e)) (match jL E.np (E.keepX d.b e) σ with
    |some s'=>I (Sum.inr (e,s'))
    |none=>X) X:O (Snap ⊕ Ex×Snap))=I (outS d r):=by
   intro e h1;cases hp:pinK ps x y (E.keepX d.b e) with
   |false=>rw[hp]at h1;simp at h1
   |true=>
    rw[hp,j6]at h1;rw[j6];split at h1
    .rename_i s dt;split at h1
     .rename_i hh hu;simp only[j5]at h1;subst h1;simp only[outS];rw[Jp _ _ _ _ hu]
     .simp at h1
    .simp at h1
  cases p with
  |none=>exact hx e h1
  |some q=>
   cases e with
   |normal=>
    dsimp only at h1 ⊢
    split at h1
    .rename_i s dt;split at h1
     .rename_i hh hu;simp only[j5]at h1;subst h1;simp only[outS];rw[<-CM hu]
     .simp at h1
    .simp at h1
   |exit i=>exact hx _ h1
   |ret=>exact hx _ h1
theorem jCE{E:Env}(hF:CFun E.C)(hz:E.nz=Z)(hL:LFun E.L/\MFun E.M){c:Î}{d:nC}(hs:∀h,gp E d.b c (cX E.np (E.keep d.b) (pack d.ps d.ts h)) (uk E d)=d.step h)(h:HL d.ts)(r:HL d.ts ⊕ XT d.exits):d.step h=I r->
  yT E d.b c (pack d.ps d.ts h)=I (match r with|.inl a=> .inl (pack d.ps d.ts a)|.inr x=> .inr (tw d.exits x)):=by
 intro hr;obtain⟨o,ho⟩:=Fb hF hz hL c d.b (cX E.np (E.keep d.b) (pack d.ps d.ts h));rw[<-hs h]at hr;have h1:I r=_:=hr.symm.trans (ho _ (λz=>uk E d z.1 z.2));cases o with
 |none=>simp at h1
 |some z=>
  obtain⟨e,σ⟩:=z;simp only[j4]at h1
  have h2:=ho _ (λz:Ex×St=>match z.1 with
   |.normal=>match jL E.np (E.keep d.b) z.2 with
    |some s'=>I (Sum.inl s')
    |none=>X
   |e=>match jL E.np (E.keepX d.b e) z.2 with
    |some s'=>I (Sum.inr (e,s'))
    |none=>X)
  have h3:yT E d.b c (pack d.ps d.ts h)=_:=h2;rw[h3,j4];clear h3 h2 hr ho;dsimp only;have h1:=h1.symm;unfold uk at h1;cases e with
  |normal=>
   dsimp only at h1 ⊢
   split at h1
   .rename_i s dt;split at h1
    .rename_i hh hu;simp only[j5]at h1;subst h1;dsimp only;rw[<-CM hu]
    .simp at h1
   .simp at h1
  |exit i=>
   dsimp only at h1 ⊢
   split at h1
   .rename_i s dt;split at h1
    .rename_i hh hu;simp only[j5]at h1;subst h1;dsimp only;rw[Jp _ _ _ _ hu]
    .simp at h1
   .simp at h1
  |ret=>
   dsimp only at h1 ⊢
   split at h1
   .rename_i s dt;split at h1
    .rename_i hh hu;simp only[j5]at h1;subst h1;dsimp only;rw[Jp _ _ _ _ hu]
    .simp at h1
   .simp at h1
theorem jA2{E:Env}(hF:CFun E.C)(hz:E.nz=Z)(hL:LFun E.L/\MFun E.M){c:Î}{d:nC}(hs:Jq E c d)
  (he:∀s R k,E.L d.b s R k=match tu d.ps d.ts s with|some h=>(loopOpt d.step h).bind λx=>Fj d.exits x k|none=>X):EG E d.b c:=by
 intro s R k r h;rw[he]at h;split at h
 .rename_i hl hu;cases hq:loopOpt d.step hl with
  |none=>simp[hq]at h
  |some x=>
   rw[hq,j4,OC]at h;obtain⟨n,hn⟩:=Fi hq;refine⟨n,(tw d.exits x).1,(tw d.exits x).2,?_,h⟩;rw[CM hu]
   exact XS (f:=Mh E d.b c) (p:=pack d.ps d.ts) (q:=tw d.exits) (λa r hr=>by
    cases c with
    |rangeFunc g ps x y=>have:=jGs hF hz hL hs a r hr;cases r<;>exact this
    |_=>have:=jCE hF hz hL hs a r hr;cases r<;>exact this) hn
 .simp at h
def lpAt(c:Î)(j:U):Code:=((gk 0 c).getD j (0,.skip)).2
def xL(E:Env)(c:Î):U->D nC->Prop
 |_,[]=>ã
 |j,d::ds=>Jq E (lpAt c j) d/\xL E c (j+1) ds
theorem xL.get{E:Env}{c:Î}:∀{ds:D nC}{i j:U}{d:nC},xL E c i ds->ds[j]? = I d->Jq E (lpAt c (i+j)) d
 |[],_,_,_,_,h=>by simp at h
 |x::xs,i,0,d,hs,h=>by simp at h;subst h;exact hs.1
 |x::xs,i,j+1,d,hs,h=>by
  have:=xL.get (i:=i+1) (j:=j) hs.2 (by simpa using h);rwa[show i+(j+1)=i+1+j by omega]
theorem XX:∀{ds:D nC}{j:U}{d:nC},rA (ds.map (·.b))=Á->ds[j]? = I d->∀s R k,wk ds d.b s R k=match tu d.ps d.ts s with|some h=>(loopOpt d.step h).bind λx=>Fj d.exits x k|none=>X
 |[],_,_,_,h=>by simp at h
 |x::xs,0,d,_,h=>by simp at h;subst h;intro s R k;simp only[wk,if_true]
 |x::xs,j+1,d,hn,h=>by
  simp only[ke,rA,jd,kz,qk,ku]at hn;have hm:d∈xs:=kg (by simpa using h);have bA:x.b≠d.b:=λe=>hn.1 (e▸jr.2 ⟨d,hm,rfl⟩);intro s R k;simp only[wk,bA,za];exact XX (j:=j) hn.2 (by simpa using h) s R k
theorem jCF{E:Env}(hF:CFun E.C)(hz:E.nz=Z){c:Î}{ds:D nC}(hE:E.L=wk ds)(hm:(gk 0 c).map (·.1)=ds.map (·.b))(hn:rA (ds.map (·.b))=Á)(hs:xL E c 0 ds){ms:D MrD}(ET:E.mr=mrF ms)(hM:E.M=mrL ms)(hms:AD E c ms) :
  ∀x∈gk 0 c,EG E x.1 x.2/\MrOK E x.1 x.2:=by
 intro x hx;have XY:LFun E.L/\MFun E.M:=⟨hE▸OD ds,hM▸OE ms⟩;have fN:((gk 0 c).map (·.1)).Nodup:=hm▸D4 hn;refine⟨?_,jFh hF hz XY ET hM λd hd hb=>?_⟩
 rotate_left
 .have:=hms.get d hd;unfold mrAt at this;rw[hb,XW fN hx]at this;exact this
 obtain⟨j,hj⟩:=v6.1 hx;have xz:(ds.map (·.b))[j]? = I x.1:=by rw[<-hm];simp[hj]
 rw[qp]at xz;cases hd:ds[j]? with
 |none=>simp[hd]at xz
 |some d=>
  simp only[hd,qa,j5]at xz;have h1:=xL.get hs hd;rw[ki]at h1;have h2:lpAt c j=x.2:=by simp[lpAt,Ø,hj]
  rw[h2]at h1;have:=jA2 (E:=E) hF hz XY h1 (λs R k=>by rw[hE];exact XX hn hd s R k);rwa[xz]at this
inductive VPat where
 |v (t:Ty)
 |own (e:U) (t:Ty)
 |box (ts:D Ty)
 |hd
 |vn (t:Ty) (ns:D U)
 |clo (f:U) (bT:D CPat)
 deriving É
inductive OPat where
 |ref (ts:D Ty)
 |rl (t:Ty)
 deriving É
def rvP:RV->VPat×D TV
 |.v x=>(.v x.t,[x])
 |.own e x=>(.own e x.t,[x])
 |.box ls=>(.box (ls.map (·.t)),ls)
 |.hd n=>(.hd,[⟨.int .i64,(n:È)⟩])
 |.vn x ns=>(.vn x.t ns,[x])
 |.clo f bT=>(.clo f (pU bT).1,(pU bT).2)
def VPat.n:VPat->U
 |.v _=>1
 |.own _ _=>1
 |.box ts=>ts.length
 |.hd=>1
 |.vn _ _=>1
 |.clo _ cs=>CL cs
def rvF:VPat->D TV->RV
 |.v _,xs=> .v (xs.headD tv0)
 |.own e _,xs=> .own e (xs.headD tv0)
 |.box ts,xs=> .box (xs.take ts.length)
 |.hd,xs=> .hd (Oy (xs.headD tv0))
 |.vn _ ns,xs=> .vn (xs.headD tv0) ns
 |.clo f cs,xs=> .clo f (CK cs xs)
theorem jI5(c:RV)(r:D TV):rvF (rvP c).1 ((rvP c).2++r)=c/\(rvP c).1.n=(rvP c).2.length:=by
 cases c with
 |v x=>exact⟨rfl,rfl⟩
 |own e x=>exact⟨rfl,rfl⟩
 |hd n=>exact⟨rfl,rfl⟩
 |vn x ns=>exact⟨rfl,rfl⟩
 |box ls=>simp[rvP,rvF,VPat.n]
 |clo f cs=>have:=Jl cs r;simp only[rvP,rvF,VPat.n];exact⟨by rw[this.1],this.2⟩
def outP:Out->OPat×D TV
 |.ref ls=>(.ref (ls.map (·.t)),ls)
 |.rl x=>(.rl x.t,[x])
def OPat.n:OPat->U
 |.ref ts=>ts.length
 |.rl _=>1
def outF:OPat->D TV->Out
 |.ref ts,xs=> .ref (xs.take ts.length)
 |.rl _,xs=> .rl (xs.headD tv0)
theorem jGt(c:Out)(r:D TV):outF (outP c).1 ((outP c).2++r)=c/\(outP c).1.n=(outP c).2.length:=by
 cases c with
 |rl x=>exact⟨rfl,rfl⟩
 |ref ls=>simp[outP,outF,OPat.n]
def rvsP:D RV->D VPat×D TV
 |[]=>([],[])
 |c::cs=>((rvP c).1::(rvsP cs).1,(rvP c).2++(rvsP cs).2)
def rvsF:D VPat->D TV->D RV
 |[],_=>[]
 |c::cs,xs=>rvF c xs::rvsF cs (xs.drop c.n)
def rvsN:D VPat->U
 |[]=>0
 |c::cs=>c.n+rvsN cs
theorem OH:∀(cs:D RV)(r:D TV),rvsF (rvsP cs).1 ((rvsP cs).2++r)=cs/\rvsN (rvsP cs).1=(rvsP cs).2.length
 |[],r=>⟨rfl,rfl⟩
 |c::cs,r=>by
  simp only[rvsP,rvsF,rvsN,jj,jf];have h1:=jI5 c ((rvsP cs).2++r);have h2:=OH cs r;rw[h1.1,h1.2,ym,h2.1,h2.2];exact⟨rfl,rfl⟩
def xM:D Out->D OPat×D TV
 |[]=>([],[])
 |c::cs=>((outP c).1::(xM cs).1,(outP c).2++(xM cs).2)
def Jr:D OPat->D TV->D Out
 |[],_=>[]
 |c::cs,xs=>outF c xs::Jr cs (xs.drop c.n)
theorem XZ:∀(cs:D Out)(r:D TV),Jr (xM cs).1 ((xM cs).2++r)=cs
 |[],r=>rfl
 |c::cs,r=>by
  simp only[xM,Jr,jj];have h1:=jGt c ((xM cs).2++r);rw[h1.1,h1.2,ym,XZ cs r]
structure RPat where
 vs:D VPat
 os:D OPat
 deriving É
def tx(rp:RPat)(ts:D Ty)(h:HL ts):Ret:=⟨rvsF rp.vs (ofHL ts h),Jr rp.os ((ofHL ts h).drop (rvsN rp.vs))⟩
def Js(rp:RPat)(ts:D Ty)(r:Ret):O (HL ts):=
 if (rvsP r.vals).1=rp.vs/\(xM r.outs).1=rp.os then toHL ts ((rvsP r.vals).2++(xM r.outs).2) else X
theorem jyc{rp:RPat}{ts:D Ty}{r:Ret}{h:HL ts}(hs:Js rp ts r=I h):r=tx rp ts h:=by
 unfold Js at hs;split at hs
 .rename_i hp;have:=Jk hs;unfold tx;rw[<-this,<-hp.1,<-hp.2,(OH r.vals _).1,(OH r.vals []).2,ym];have h2:=XZ r.outs [];rw[ql]at h2;rw[h2]
 .simp at hs
structure Con where
 f:U
 ps:D APat
 ts:D Ty
 rp:RPat
 rs:D Ty
 F:HL ts->O (HL rs)
def Con.C(c:Con)(args:D Arg)(R:Type)(k:Ret->O R):O R:=
 match Jn c.ps c.ts args with
 |some h=>(c.F h).bind λx=>k (tx c.rp c.rs x)
 |none=>X
def Con.OK(P:Ã)(c:Con):Prop:=FnOK P c.f c.C
def conC:D Con->U->D Arg->(R:Type)->(Ret->O R)->O R
 |[],_,_,_,_=>X
 |c::cs,f,args,R,k=>if c.f=f then (if (wj args).1=c.ps then c.C args R k else conC cs f args R k) else conC cs f args R k
theorem OI{P:Ã}{f:U}:FnOK P f (λ_ _ _=>X):=by
 intro args R k r h;simp at h
def Fk(P:Ã):D Con->Prop
 |[]=>ã
 |c::cs=>c.OK P/\Fk P cs
theorem OJ{P:Ã}:∀cs:D Con,Fk P cs->kF P (conC cs)
 |[],_,_=>OI
 |c::cs,h,f=>by
  have ih:=OJ cs h.2 f;intro args R k r hk;simp only[conC]at hk;split at hk
  .rename_i hf;subst hf;split at hk
   .exact h.1 args R k r hk
   .exact ih args R k r hk
  .exact ih args R k r hk
theorem OL:∀cs:D Con,CFun (conC cs)
 |[]=>λ_ _=>⟨X,λ_ _=>rfl⟩
 |c::cs=>λf args=>by
  have ih:=OL cs f args;simp only[conC];split
  .split
   .unfold Con.C;split
    .rename_i h _;cases hq:c.F h with
     |none=>exact⟨X,λ_ _=>rfl⟩
     |some x=>exact⟨I (tx c.rp c.rs x),λ_ _=>rfl⟩
    .exact⟨X,λ_ _=>rfl⟩
   .exact ih
  .exact ih
def OM:D (U×Keep)->U->Keep
 |[],_=>⟨[],[],[],[]⟩
 |x::r,b=>if x.1=b then x.2 else OM r b
def ON:D (U×Ex×Keep)->U->Ex->Keep
 |[],_,_=>⟨[],[],[],[]⟩
 |x::r,b,e=>if x.1=b/\x.2.1=e then x.2.2 else ON r b e
def OO:D (U×D Ê)->U->D Ê
 |[],_=>[]
 |x::r,b=>if x.1=b then x.2 else OO r b
def dwL:D (U×D (D U))->U->D (D U)
 |[],_=>[]
 |x::r,b=>if x.1=b then x.2 else dwL r b
def bwL:D (U×(Ê×Ty))->U->O (Ê×Ty)
 |[],_=>X
 |x::r,f=>if x.1=f then I x.2 else bwL r f
def Jt(P:Ã):D (U×(Ê×Ty))->Prop
 |[]=>ã
 |x::r=>BwK P x.1 x.2/\Jt P r
theorem X0{P:Ã}:∀{l:D (U×(Ê×Ty))},Jt P l->∀f t,bwL l f=I t->BwK P f t
 |[],_,f,t,h=>by simp[bwL]at h
 |x::r,hl,f,t,h=>by
  simp only[bwL]at h;split at h
  .rename_i e;simp only[j5]at h;rw[<-e,<-h];exact hl.1
  .exact X0 hl.2 f t h
structure FnD where
 N:U
 np:U
 cs:D Con:=[]
 ds:D nC:=[]
 modes:D (U×D Ê):=[]
 keep:D (U×Keep):=[]
 keepX:D (U×Ex×Keep):=[]
 ro:D Bool:=[]
 dw:D (U×D (D U)):=[]
 hd:Bool:=Z
 ns:D Nat:=[]
 bw:D (U×(Ê×Ty)):=[]
 ks:D Nat:=[]
 ms:D MrD:=[]
 mvf:D Nat:=[]
def FnD.env(d:FnD)(T:D (O TyI)):Env:=⟨⟨d.N,λ_=>Z⟩,d.np,tab T,conC d.cs,OO d.modes,wk d.ds,OM d.keep,ON d.keepX,d.ro,dwL d.dw,Z,d.hd,d.ns,bwL d.bw,λi=>d.ks.contains i,λf=>d.mvf.contains f,mrF d.ms,mrL d.ms⟩
theorem jGu{P:Ã}{T:D (O TyI)}(hT:cT P (tab T))(ir:P.follows .mixedOrders=Á)(d:FnD)(kT:Con)(fn:ä)(c:Î)(hf:P.funcs[kT.f]? = I fn)(hb:fn.body=I c)
  (hN : fn.ntmps = d.N) (nB : d.np ≤ d.N) (cG : (fn.name == "runtime.NumGoroutine") = Z) (dB : Fk P d.cs) (hm : (gk 0 c).map (·.1) = d.ds.map (·.b)) (hn : rA (d.ds.map (·.b)) = Á)
  (hs:xL (d.env T) c 0 d.ds)(hF:∀h,uX (d.env T) fn (rZ kT.ps kT.ts h) (Js kT.rp kT.rs)=kT.F h)(iZ:Jt P d.bw:=by trivial)(hms:AD (d.env T) c d.ms:=by trivial):kT.OK P:=by
 have hC:kF P (d.env T).C:=OJ d.cs dB;have tz:CFun (d.env T).C:=OL d.cs;have hL:LFun (d.env T).L/\MFun (d.env T).M:=⟨OD d.ds,OE d.ms⟩;have oL:=XJ (E:=d.env T) hT hC tz ir hf hb hN rfl (X0 iZ) nB cG (jCF tz rfl rfl hm hn hs rfl rfl hms);intro args R k r hk;unfold Con.C at hk;split at hk
 .rename_i h hu;rw[Jo hu];cases hq:kT.F h with
  |none=>simp[hq]at hk
  |some x=>
   rw[hq,j4]at hk;refine oL _ R k r ?_;obtain⟨o,ho⟩:=jy7 tz rfl hL fn (rZ kT.ps kT.ts h);have h1:I x=_:=((hF h).trans hq).symm.trans (ho _ _);cases o with
   |none=>simp at h1
   |some ret=>rw[j4]at h1;show uX (d.env T) fn (rZ kT.ps kT.ts h) k=I r;refine(ho _ _).trans ?_;rw[j4,jyc h1.symm];exact hk
 .simp at hk
theorem cOf{P:Ã}{T:D (O TyI)}(hT:cT P (tab T))(ir:P.follows .mixedOrders=Á)(d:FnD)(kT:Con){fn:ä}(hf:P.funcs[kT.f]? = I fn)(dB:Fk P d.cs)
  (hs:xL (d.env T) (fn.body.getD .skip) 0 d.ds)(iZ:Jt P d.bw:=by trivial)(hb:fn.body=I (fn.body.getD .skip):=by kernel_rfl)(hN:fn.ntmps=d.N:=by kernel_rfl)
  (nB : Nat.ble d.np d.N = true := by kernel_rfl) (cG : (fn.name == "runtime.NumGoroutine") = false := by kernel_rfl) (hm : (gk 0 (fn.body.getD .skip)).map (·.1) = d.ds.map (·.b) := by kernel_rfl)
  (hn:rA (d.ds.map (·.b))=true:=by kernel_rfl)(hF:∀h,uX (d.env T) fn (rZ kT.ps kT.ts h) (Js kT.rp kT.rs)=kT.F h:=by intro h;kernel_rfl)(hms:AD (d.env T) (fn.body.getD .skip) d.ms:=by trivial):kT.OK P:=
 jGu hT ir d kT fn _ hf hb hN (qy nB) cG dB hm hn hs hF iZ hms
def mw{α β:Type}(B:(α->O β)->α->O β):U->α->O β
 |0,_=>X
 |n+1,a=>B (mw B n) a
open Classical in
def xN{α β:Type}(B:(α->O β)->α->O β)(a:α):O β:=
 if h:∃x n,mw B n a=I x then I h.choose else X
theorem jA8{α β:Type}{B:(α->O β)->α->O β}{a:α}{x:β}(h:xN B a=I x):∃n,mw B n a=I x:=by
 unfold xN at h;split at h
 .rename_i hx;simp only[j5]at h;obtain⟨m,hm⟩:=hx.choose_spec;exact⟨m,by rw[<-h];exact hm⟩
 .simp at h
theorem X1{α β:Type}{B:(α->O β)->α->O β}{a:α}{x:β}(h1:∃n,mw B n a=I x)(h2:∀n y,mw B n a=I y->y=x):xN B a=I x:=by
 obtain⟨n,hn⟩:=h1;have hx:∃x n,mw B n a=I x:=⟨x,n,hn⟩;unfold xN;rw[dif_pos hx];obtain⟨m,hm⟩:=hx.choose_spec;rw[h2 m _ hm]
theorem jGv{P:Ã}{f:U}{ps:D APat}{ts:D Ty}{rp:RPat}{rs:D Ty}{B:(HL ts->O (HL rs))->HL ts->O (HL rs)}
  (fW:∀g,Con.OK P ⟨f,ps,ts,rp,rs,g⟩->Con.OK P ⟨f,ps,ts,rp,rs,B g⟩):Con.OK P ⟨f,ps,ts,rp,rs,xN B⟩:=by
 have all:∀n,Con.OK P ⟨f,ps,ts,rp,rs,mw B n⟩:=by
  intro n;induction n with
  |zero=>
   intro args R k r hk;unfold Con.C at hk;split at hk
   .simp[mw]at hk
   .simp at hk
  |succ n ih=>exact fW _ ih
 intro args R k r hk;unfold Con.C at hk;split at hk
 .rename_i h hu;cases hq:xN B h with
  |none=>simp[hq]at hk
  |some x=>obtain⟨n,hn⟩:=jA8 hq;refine all n args R k r ?_;unfold Con.C;rw[hu];dsimp only;rw[hn];dsimp only at hk;rw[hq]at hk;exact hk
 .simp at hk
def FnD.envN(d:FnD)(T:D (O TyI)):Env:=⟨⟨d.N,λ_=>Z⟩,d.np,tab T,conC d.cs,OO d.modes,wk d.ds,OM d.keep,ON d.keepX,d.ro,dwL d.dw,Á,d.hd,d.ns,λ_=>X,λ_=>Z,λ_=>Z,λ_=>X,λ_ _ _ _=>X⟩
theorem jA9{α R:Type}(xs:D α)(K:D α->O R){r:R}(h:(cond (Ç (([]:D α).length+xs.length<=aM)) (I (([]:D α)++xs)) X).bind K=I r) :
  yP (à xs) (K []) (cond (Ç (([]:D α).length+xs.length<=aM)) (K (([]:D α)++xs)) X)=I r:=by
 cases hd:Ç (([]:D α).length+xs.length<=aM) with
 |false=>rw[hd]at h;simp at h
 |true=>
  rw[hd]at h;simp only[j6,j4]at h ⊢;cases xs with
  |nil=>simp only[ql]at h ⊢;rw[juq];exact h
  |cons x r=>exact h
theorem X2{P:Ã}{T:D (O TyI)}(hT:cT P (tab T))(ir:P.follows .mixedOrders=Á)(d:FnD)(f:U)(a:Ty)(e:U)(fn:ä)(c:Î)(hf:P.funcs[f]? = I fn)(hb:fn.body=I c)
  (hN : fn.ntmps = d.N) (nB : d.np ≤ d.N) (cG : (fn.name == "runtime.NumGoroutine") = Z) (dB : Fk P d.cs) (hl : gk 0 c = [])
  (hF:∀(h:D a.den)(R:Type)(k:Ret->O R),uX (d.envN T) fn [.v ⟨.list a,h⟩] k=yP (à h) (k ⟨[.own e ⟨.list a,([]:D a.den)⟩],[]⟩)
   (cond (Ç (([]:D a.den).length+Æ h<=aM)) (k ⟨[.own e ⟨.list a,([]:D a.den)++h⟩],[]⟩) X)) :
  Con.OK P ⟨f,[.v (.list a)],[.list a],⟨[.own e (.list a)],[]⟩,[.list a],λh=>cond (Ç (([]:D a.den).length+Æ h<=aM)) (I (([]:D a.den)++h)) X⟩:=by
 have hC:kF P (d.envN T).C:=OJ d.cs dB;have tz:CFun (d.envN T).C:=OL d.cs;have oL:=XJ (E:=d.envN T) hT hC tz ir hf hb hN rfl (λf t h=>by simp[FnD.envN]at h) nB cG (by rw[hl];simp);intro args R k r hk;unfold Con.C at hk;split at hk
 .rename_i h hu;rw[Jo hu];refine oL _ R k r ?_;refine(hF h R k).trans ?_;exact jA9 (α:=a.den) h (λx=>k ⟨[.own e ⟨.list a,x⟩],[]⟩) hk
 .simp at hk
def w64(x:È):Int:=IntKind.wrap .i64 x
class LP where
 lp:{α β:Type}->(α->O (α ⊕ β))->α->O β
 rp:{α β:Type}->((α->O β)->α->O β)->α->O β
noncomputable instance realLP:LP:=⟨loopOpt,xN⟩
abbrev jIq(N:U):LP:=⟨λf a=>loopN f N a,λB a=>mw B N a⟩
theorem iH{x:È}(h1 : -9223372036854775808<=x)(h2:x<=9223372036854775807):w64 x=x:=IntWalk.i64_in x ⟨h1,h2⟩
def lpK{α β:Type}(r:O (α ⊕ β))(f:α->O β):O β:=match r with
 |none=>X
 |some (.inl s)=>f s
 |some (.inr x)=>I x
theorem aH{α β:Type}(s:α)(f:α->O β):lpK (I (.inl s)) f=f s:=rfl
theorem aS{α β:Type}(x:β)(f:α->O β):lpK (I (.inr x)) f=I x:=rfl
theorem OP{α β γ:Type}(x:α)(f:α->γ)(g:β->γ):sumC (.inl x) f g=f x:=rfl
theorem oc{α β γ:Type}(x:β)(f:α->γ)(g:β->γ):sumC (.inr x) f g=g x:=rfl
theorem bc{α β:Type}(f:α->O (α ⊕ β))(s:α):loopOpt f s=lpK (f s) (loopOpt f):=by
 cases h:f s with
 |none=>
  cases hq:loopOpt f s with
  |none=>rfl
  |some x=>obtain⟨n,hn⟩:=Fi hq;cases n<;>simp[loopN,h]at hn
 |some r=>
  cases r with
  |inl s'=>exact jt0 h
  |inr x=>exact juT h
section
variable{S0:aU}{w0:Å}{refs:Refs}
theorem OQ{P:Ã}{E:Env}(hT:cT P E.T)(hC:kF P E.C){ops:Ö Ù}{R:Type}{k:St->O R}{r:R}{Q:Exit->Ë->Å->Prop}{n:U}{rest:D U}
  (hn:∀σ' a' w' S' γ',Rel E.N E.np S0 w0 refs σ' a' w' S' γ'->dH σ'->k σ'=I r->wpOpsIn (FR X) n P ops Q rest a' w') :
  ∀(l:D Ù)(i:U){σ:St}{a:Ë}{w:Å}{S:aU}{γ:U->Ä},(∀j o,l[j]? = I o->ops[i+j]? = I o/\o.guard=X)->Rel E.N E.np S0 w0 refs σ a w S γ->dH σ->nO E l σ k=I r->
   wpOpsIn (FR X) n P ops Q (å i l.length++rest) a w
 |[],i,σ,a,w,S,γ,hl,hR,hc,h=>hn _ _ _ _ _ hR hc h
 |o::l,i,σ,a,w,S,γ,hl,hR,hc,h=>by
  simp only[nO]at h;split at h
  .rename_i hd;obtain⟨ho,hg⟩:=hl 0 o rfl;have hw:Ò o (yielded ops a.tmps)=true:=by simp[Ò,hg]
   simp only[jk,vj,z7,wpOpsIn,show ops[i]? = I o from ho,hw,if_true];refine I5 (.inl rfl) (λ_ _ h=>h) (Ct hT hC hR (act:=[]) (λg hg=>by simp at hg) (p:=Z) (λ_=>hc) hd h (λσ' a' w' S' γ' cE dK hk=>?_));exact OQ hT hC hn l (i+1) (λj o' hj=>by rw[show i+1+j=i+(j+1) by omega];exact hl (j+1) o' (by simpa using hj)) cE (dK rfl) hk
  .simp at h
theorem Fl{N:NT}{np:U}{fx:U->O Ä}{σ:St}{a:Ë}{W:Å}{S:aU}(bU:a.tmps.size=N.n)(hd:a.defers=[])(bu:∀k,σ.bx k = .free)(hS:∀g o,S g o->g<W.heap.size)
  (s5:∀i,jF S W (λ_=>undef) σ.bx (tm a) (σ.sl i) (tm a i))(OR:∀i v,fx i=I v->N.pin i=Á/\tm a i=v):Rel N np S W { blks:=[],val:=λ_=>X,fix:=fx } σ a W S (λ_=>undef):=
 ⟨bU,hd,s5,λk b h=>by rw[bu]at h;simp at h,λk b g h=>by rw[bu]at h;simp at h,λk k' b b' g _ h=>by rw[bu]at h;simp at h,λ_ _ h=>h,λ_ _ h=> .inl h,hS,λ_ _ _=>rfl,jv _,rfl,rfl,rfl,
  λk v h=>by simp at h,λg o h=>by simp at h,OR⟩
theorem xO{N:NT}{np:U}{fx:U->O Ä}{σ:St}{a:Ë}{w:Å}{S:aU}{γ:U->Ä}(hR:Rel N np S0 w0 { blks:=[],val:=λ_=>X,fix:=fx } σ a w S γ):Grew w0 w:=
 ⟨λg hg=>hR.below g hg (λh=>by have h:g∈([]:D U):=h;simp at h),hR.grow,hR.os,hR.tape,hR.output⟩
theorem jt5{P:Ã}{a:Ë}{w:Å}{o:Ù}{cl:Call}(ho:o.op = .call cl){x:Operand}(hc:cl.callee = .value x){l:U}(hx:a.eval x = .func (.yield l) #[] #[]){nx:Next}{w':Å}
  (hy:(Instr.yield l (cl.args.map a.eval)).run P w = .ok nx w'):(execOp a.eval o).run P w = .ok nx w':=by
 simp[execOp,ho,resolve,hc,Deferred.ofValue,hx,invoke,hy]
end
section
variable{S0:aU}{w0:Å}{refs:Refs}
def bwE(T:U->O TyI):Env:=
 { N:=⟨19,λi=>i==0||(i==1||i==11)⟩,np:=0,T:=T,C:=λ_ _ _ _=>X,modes:=λ_=>[],L:=λ_ _ _ _=>X,keep:=λ_=>⟨[],[],[],[]⟩,keepX:=λ_ _=>⟨[],[],[],[]⟩,ro:=[] }
def slF(l:D (U×Cel)):St:={ sl:=λj=>match l.find? (λx=>x.1==j) with|some x=> .one x.2|none=> .one (.one .dead),bx:=λ_=> .free }
def g3(σ:St):O Int:=match σ.sl 3 with
 |.one (.one (.d (.int .i64) v))=>I v
 |_=>X
def g1(σ:St):O (Ê×È):=match σ.sl 8,σ.sl 3 with
 |.one (.one (.d .bool b)),.one (.one (.d (.int .i64) v))=>I (b,v)
 |_,_=>X
def g18(σ:St):O (Ê×È):=match σ.sl 18,σ.sl 3 with
 |.one (.one (.d .bool b)),.one (.one (.d (.int .i64) v))=>I (b,v)
 |_,_=>X
def g16(t:Ty)(σ:St):O (È×t.den×È):=match σ.sl 12,σ.sl 16,σ.sl 3 with
 |.one (.one (.d (.int .i64) u)),.one c,.one (.one (.d (.int .i64) v))=>match rv (λ_=> .gone) t c with
  |some (x,[])=>I (u,x,v)
  |_=>X
 |_,_,_=>X
def lstP(t:Ty)(xs:D t.den):Cel:= .one (.ip [⟨.list t,xs⟩])
def intP(i:È):Cel:= .one (.d (.int .i64) i)
theorem Fm(l:D (U×Cel)):dH (slF l):=λi=>by
 simp only[slF];split<;>rfl
theorem jCI{np:U}{σ:St}:RdF np σ (λ_=> .gone):=⟨λ_=> .inr rfl,λk e a xs f h=>by simp at h⟩
theorem Fo{S:aU}{W:Å}{γ:U->Ä}{l:D (U×Cel)}{OS:U->Ä}(h:∀x∈l,cF S W γ (λ_=> .free) x.2 (OS x.1))(i:U):jF S W γ (λ_=> .free) OS ((slF l).sl i) (OS i):=by
 simp only[slF];split
 .rename_i x hx;have:=h x (List.mem_of_find?_eq_some hx);have e:=List.find?_some hx;simp only[zi]at e;rw[<-e];exact this
 .exact⟨trivial,λh=>absurd rfl h⟩
theorem OT{P:Ã}{T:U->O TyI}(hT:cT P T){tj n:U}{A:Ö Ù}{σ:St}{fx:U->O Ä}{a:Ë}{w:Å}{S:aU}{γ:U->Ä}{R:Type}{k:St->O R}{r:R}
  (hR:Rel (bwE T).N (bwE T).np S0 w0 { blks:=[],val:=λ_=>X,fix:=fx } σ a w S γ)(hc:dH σ)(h:rB (bwE T) A σ k=I r) :
  (Â tj A Z).wpIn (FR X) n P (λe a' w'=>e = .normal/\∃σ' S' γ',Rel (bwE T).N (bwE T).np S0 w0 { blks:=[],val:=λ_=>X,fix:=fx } σ' a' w' S' γ'/\k σ'=I r) a w:=
 wpIn_region (vZ (.inl rfl) (by rintro⟨a,w,h,_⟩;cases h) _ _ _ (Wo hT (λf=>OI) hR hc (λσ' a' w' S' γ' cE _ hk=>⟨rfl,σ',S',γ',cE,hk⟩) h))
theorem X3{σ:St}{v:È}(h:g3 σ=I v):σ.sl 3 = .one (.one (.d (.int .i64) v)):=by
 unfold g3 at h;split at h
 .rename_i u hu;simp only[j5]at h;subst h;exact hu
 .simp at h
theorem jI6{σ:St}{b:Ê}{v:È}(h:g1 σ=I (b,v)):σ.sl 8 = .one (.one (.d .bool b))/\σ.sl 3 = .one (.one (.d (.int .i64) v)):=by
 unfold g1 at h;split at h
 .rename_i hb hu;simp only[j5,j9]at h;obtain⟨rfl,rfl⟩:=h;exact⟨hb,hu⟩
 .simp at h
theorem jGx{σ:St}{b:Ê}{v:È}(h:g18 σ=I (b,v)):σ.sl 18 = .one (.one (.d .bool b))/\σ.sl 3 = .one (.one (.d (.int .i64) v)):=by
 unfold g18 at h;split at h
 .rename_i hb hu;simp only[j5,j9]at h;obtain⟨rfl,rfl⟩:=h;exact⟨hb,hu⟩
 .simp at h
theorem jGy{t:Ty}{σ:St}{i:È}{x:t.den}{v:È}(h:g16 t σ=I (i,x,v)):σ.sl 12 = .one (.one (.d (.int .i64) i))/\σ.sl 3 = .one (.one (.d (.int .i64) v))/\∃c,σ.sl 16 = .one c/\rv (λ_=> .gone) t c=I (x,[]):=by
 unfold g16 at h;split at h
 .rename_i c _ zO OU h3;split at h
  .rename_i hx;simp only[j5,j9]at h;obtain⟨rfl,rfl,rfl⟩:=h;exact⟨zO,h3,c,OU,hx⟩
  .simp at h
 .simp at h
theorem CO{N:NT}{np:U}{σ:St}{a:Ë}{w:Å}{S:aU}{γ:U->Ä}(hR:Rel N np S0 w0 refs σ a w S γ){s:U}{v:È}(h:σ.sl s = .one (.one (.d (.int .i64) v))):tm a s = .int .i64 v:=by
 have:=hR.slot s;rw[h]at this;have h1:[a.tmps.getD s undef]=[Value.int .i64 v]:=this.1;simpa[tm]using h1
theorem X4{N:NT}{np:U}{σ:St}{a:Ë}{w:Å}{S:aU}{γ:U->Ä}(hR:Rel N np S0 w0 refs σ a w S γ){s:U}{v:Ê}(h:σ.sl s = .one (.one (.d .bool v))):tm a s = .bool v:=by
 have:=hR.slot s;rw[h]at this;have h1:[a.tmps.getD s undef]=[Value.bool v]:=this.1;simpa[tm]using h1
theorem jI7{P:Ã}{T:U->O TyI}(hT:cT P T){f:U}{t:Ty}{fn:ä}(hf:P.funcs[f]? = I fn){r0 b0 r1 b1 r3 r2:U}{A0 A1 A2:Ö Ù}{o0 o6 o7:Ù}{l3:D Ù}{cl:Call}
  (hb:fn.body=I ((Â r0 A0 Z).seq (Ó b0 ((((Â r1 A1 Z).seq (Ï (.tmp 8) .skip (.exit b0))).seq ((Ó b1 ((Â r3 (o0::(l3++[o6,o7])).toArray Z).seq (Ï (.tmp 18) .ret .skip))).seq (Â r2 A2 Z))).loop))))
  (OV : fn.ntmps = 19) (nA : fn.results = #[]) (cG : (fn.name == "runtime.NumGoroutine") = Z) (xK : l3.length = 5) (cM : (o0 :: (l3 ++ [o6, o7])).all (fun o => o.guard.isNone) = Á)
  (AE:o0.op = .move (.tmp 0))(OW:o0.dst=I 11)(AF:o6.op = .call cl)(OX:cl.callee = .value (.tmp 11))(Ju:cl.args = #[.tmp 12,.tmp 16])(h6d:o6.dst=I 17)
  (e0:∀xs:D t.den,rB (bwE T) A0 (slF [(1,lstP t xs)]) g3=I (w64 (ê (Æ xs)-1)))
  (e1:∀i:È,rB (bwE T) A1 (slF [(3,intP i)]) g1=I (Ç (i>=0),i))
  (e2:∀i:È,rB (bwE T) A2 (slF [(3,intP i)]) g3=I (w64 (i-1)))
  (e3:∀(xs:D t.den)(i:È),nO (bwE T) l3 (slF [(1,lstP t xs),(3,intP i)]) (g16 t)=cond (inR i (Æ xs)) (I (i,Ø xs (Õ i) t.dflt,i)) X)
  (e7:∀(b:Ê)(i:È),nO (bwE T) [o7] (slF [(17,.one (.d .bool b)),(3,intP i)]) g18=I (!b,i)):BwOK P f t:=by
 refine⟨⟨fn,hf,by rw[hb];rfl,cG⟩,?_⟩;intro cv m l J Jx W S aQ zY gD hY o8 uE;have hC:kF P (bwE T).C:=λf=>OI;obtain⟨S0,iy,hm,hS0,pV⟩:=o8
 obtain⟨z0,my⟩:∃z0,cv = #[z0]:=by
  have:=pV.length;obtain⟨cl⟩:=cv;match cl,this with
  |[z],_=>exact⟨z,rfl⟩
 subst my;refine callsIn_of_wp hf hb trivial ?_;rw[OV];obtain⟨yv,X5⟩:∃yv,yv=Value.func (.yield l) #[] #[]:=⟨_,rfl⟩;obtain⟨R,hR⟩:∃R:Ending->Å->Prop,R=λe W'=>(∃v,e = .returned v)/\((∃S',J m S' W')\/Jx W'):=⟨_,rfl⟩;rw[<-X5,<-hR];let fx:U->O Value:=λi=>if i=0 then I yv else if i=1 then I z0 else X
 let Fr:Ë->Prop:=λa=>a.tmps.size=19/\a.defers=[]/\tm a 0=yv/\tm a 1=z0
 let æ:Ë->Å->Prop:=λa W=>Fr a/\∃j S,j<=m/\J j S W/\tm a 3 = .int .i64 ((m:È)-1-j)
 let μ:Ë->Å->Nat:=λa W=>match tm a 3 with
  |.int _ v=>(v+1).toNat
  |_=>0
 have eJ:∀{a:Ë}{W':Å},a.defers=[]->((∃S',J m S' W')\/Jx W')->a.defers=[]/\∃v,(results fn a.tmps).run P W' = .ok v W'/\R (.returned v) W':=by intro a W' hd h;exact⟨hd,_,results_none nA _ _ _,by rw[hR];exact⟨⟨_,rfl⟩,h⟩⟩
 have iN:∀{σ:St}{a:Ë}{w w0:Å}{S S0:aU}{γ:U->Ä},Rel (bwE T).N (bwE T).np S0 w0 { blks:=[],val:=λ_=>X,fix:=fx } σ a w S γ->Fr a:=λhR=>
  ⟨hR.size,hR.defers,(hR.fix 0 yv rfl).2,(hR.fix 1 z0 rfl).2⟩
 have nD:∀{a:Ë},Fr a->∀i v,fx i=I v->(bwE T).N.pin i=Á/\tm a i=v:=by
  intro a ha i v hv;simp only[fx]at hv;split at hv
  .rename_i e;subst e;simp only[j5]at hv;subst hv;exact⟨rfl,ha.2.2.1⟩
  .split at hv
   .rename_i _ e;subst e;simp only[j5]at hv;subst hv;exact⟨rfl,ha.2.2.2⟩
   .simp at hv
 have same:∀{j:U}{S:aU}{W W':Å},J j S W->Grew W W'->Cv S W S W':=λhJ hg=>⟨λ_ _ h=>h,λ_ _ h=> .inl h,λg o h=>zh (gD _ _ _ hJ g o h) hg.size⟩
 have hmlt:m<=9223372036854775807:=by
  obtain⟨g,o,cs,_,aC,_⟩:=pV.1;match cs,aC with
  |[z],aC=>obtain⟨ad,cap,_,h1,h2,_⟩:=aC.1;simp only[maxLen]at h2;have h1:Æ iy<=cap:=h1;omega
 obtain⟨a0,CI⟩:∃a0:Ë,a0={ tmps:=#[yv] ++ #[z0]++Array.replicate (19-(#[yv] ++ #[z0]).size) undef,defers:=[] }:=⟨_,rfl⟩;rw[<-CI]
 have wm:Fr a0:=by
  subst CI;refine⟨?_,rfl,?_,?_⟩
  .simp
  .simp[tm]
  .simp[tm]
 have o8:Rel (bwE T).N (bwE T).np S0 W { blks:=[],val:=λ_=>X,fix:=fx } (slF [(1,lstP t iy)]) a0 W S0 (λ_=>undef):=
  Fl wm.1 wm.2.1 (λ_=>rfl) hS0 (Fo (λx hx=>by
   simp only[kp]at hx;subst hx;rw[wm.2.2.2];exact⟨pV.1,λ_=>by obtain⟨g,o,cs,hu,_⟩:=pV.1;rw[hu];rfl⟩)) (nD wm)
 refine wpIn_seq (wpIn_mono (OT hT o8 (Fm _) (e0 iy)) ?_)
 rintro e a W1 ⟨rfl,σ1,S1,γ1,bO,dW⟩
 show (Ó b0 _).wpIn _ _ _ _ _ _;have h3:=CO bO (X3 dW);refine wpIn_block (wpIn_loop æ μ ⟨iN bO,0,S,kn _,aQ _ _ _ _ _ (xO bO) (same uE (xO bO)) uE,?_⟩ ?_)
 .rw[h3,hm,iH ax ax];simp
 .rintro a W ⟨OY,j,S,xz,hJ,h3⟩
  have hint:∀{a:Ë}{W:Å}{S:aU}{v:È},tm a 3 = .int .i64 v->cF S W (λ_=>undef) (λ_=> .free) (intP v) (tm a 3):=λh=>by rw[h];exact⟨rfl,λ_=>rfl⟩
  have hRs:Rel (bwE T).N (bwE T).np S W { blks:=[],val:=λ_=>X,fix:=fx } (slF [(3,intP ((m:È)-1-j))]) a W S (λ_=>undef):=
   Fl OY.1 OY.2.1 (λ_=>rfl) (gD _ _ _ hJ) (Fo (λx hx=>by
    simp only[kp]at hx;subst hx;exact hint h3)) (nD OY)
  refine wpIn_seq (wpIn_seq (wpIn_mono (OT hT hRs (Fm _) (e1 _)) ?_))
  rintro e a1 W1 ⟨rfl,σ1,S1,γ1,bO,dW⟩
  obtain⟨h8,OZ⟩:=jI6 dW;have OZ:=CO bO OZ;have h8:a1.eval (.tmp 8) = .bool (Ç ((m:È)-1-j>=0)):=X4 bO h8;have O0:=aQ _ _ _ _ _ (xO bO) (same hJ (xO bO)) hJ;have o9:=iN bO;show (Ï _ _ _).wpIn _ _ _ _ _ _;by_cases bK:(m:È)-1-j>=0
  case neg=>rw[decide_eq_false bK]at h8;refine wpIn_cond_false h8 (wpIn_exit ?_);show À b0 (bodyPost P fn R) (.exit b0) a1 W1;simp only[À,if_true];have hj:j=m:=aa;subst hj;exact eJ o9.2.1 (.inl ⟨S,O0⟩)
  case pos=>
  rw[yl bK]at h8;refine wpIn_cond_true h8 (wpIn_skip ?_);show (Code.seq _ _).wpIn _ _ _ _ _ _;have O1:j<m:=aa;obtain⟨xs,dE,hlen,nU⟩:=hY j S W1 O1 O0;refine wpIn_seq (wpIn_block (wpIn_seq (wpIn_region ?_)));obtain⟨ops,oX⟩:∃ops,ops=(o0::(l3++[o6,o7])).toArray:=⟨_,rfl⟩;rw[<-oX];have qN:∀k,ops[k]? = (o0::(l3++[o6,o7]))[k]? := λk=>by rw[oX];exact List.getElem?_toArray
  have aR:∀o∈o0::(l3++[o6,o7]),o.guard=none:=λo ho=>by have:=jz.1 cM o ho;simpa using this
  have bU:ops.size=8:=by rw[oX];simp[xK]
  have hw:∀(o:Ù)(a:Ë),o∈o0::(l3++[o6,o7])->Ò o (yielded ops a.tmps)=true:=λo a ho=>by simp[Ò,aR o ho]
  rw[bU,show Ú 8=0::(å 1 l3.length++[6,7]) by rw[xK];rfl];have O2:ops[0]? = I o0:=by rw[qN];rfl
  simp only[wpOpsIn,O2,hw o0 _ (vr ..),if_true];refine I5 (.inl rfl) (λ_ _ h=>h) ?_;unfold Oper.wp;rw[show (execOp a1.eval o0).run P W1 = .ok (.value (a1.eval (.tmp 0))) W1 by simp[execOp,AE,go_sem],Oper.upon_value,OW];have uH:a1.eval (.tmp 0)=yv:=o9.2.2.1;rw[uH];have Fp:11<a1.tmps.size:=by rw[o9.1];omega
  obtain⟨a2,w6⟩:∃a2,a2=a1.put (I 11) yv:=⟨_,rfl⟩;rw[<-w6];have wo:∀i,tm a2 i=if i=11 then yv else tm a1 i:=λi=>by rw[w6];exact oT Fp yv i
  have wq:Fr a2:=⟨by rw[w6,rS];exact o9.1,by rw[w6,xq];exact o9.2.1,by rw[wo];exact o9.2.2.1,by rw[wo];exact o9.2.2.2⟩;let X6:U->O Value:=λi=>if i=11 then I yv else fx i
  have cU:Rel (bwE T).N (bwE T).np S W1 { blks:=[],val:=λ_=>X,fix:=X6 } (slF [(1,lstP t xs),(3,intP ((m:È)-1-j))]) a2 W1 S (λ_=>undef):=
   Fl wq.1 wq.2.1 (λ_=>rfl) (gD _ _ _ O0) (Fo (λx hx=>by
    simp only[je,vk,or_false]at hx;rcases hx with rfl|rfl
    .rw[wq.2.2.2];exact⟨dE.1,λ_=>by obtain⟨g,o,cs,hu,_⟩:=dE.1;rw[hu];rfl⟩
    .exact hint (by rw[wo];exact OZ))) (λi v hv=>by
     simp only[X6]at hv;split at hv
     .rename_i e;subst e;simp only[j5]at hv;subst hv;exact⟨rfl,by rw[wo,if_pos rfl]⟩
     .exact nD wq i v hv)
  have hx:∃x,xs[m-1-j]? = I x/\Ø xs (Õ ((m:È)-1-j)) t.dflt=x:=by refine⟨xs[m-1-j]'hlen,jp hlen,?_⟩;rw[show Õ ((m:È)-1-j)=m-1-j by omega];simp[Ø,hlen]
  obtain⟨x,hx,hxd⟩:=hx;have X7:=e3 xs ((m:È)-1-j)
  rw[hxd,show inR ((m:È)-1-j) (Æ xs)=Á by
   unfold inR;rw[yl (show (0:È)<=(m:È)-1-j by omega),yl (show (m:È)-1-j<(Æ xs:È) by omega)];rfl,j6]at X7
  refine OQ hT hC ?_ l3 1 (λk o hk=>⟨?_,?_⟩) cU (Fm _) X7
  rotate_left
  .rw[qN,Nat.add_comm,yt,Ì (jy.1 hk).1];exact hk
  .exact aR o (qt _ (ju _ (kg hk)))
  intro σ3 a3 W3 S3 γ3 gI _ mu;obtain⟨zO,O3,c,OU,O4⟩:=jGy mu;have zO:=CO gI zO;have O3:=CO gI O3;have O5:VRep S3 W3 ⟨t,x⟩ (tm a3 16):=by have:=gI.slot 16;rw[OU]at this;exact(DQ (np:=(bwE T).np) jCI gI.box O4 this).2.1 S3 W3 (.refl _ _) (λy hy=>by simp at hy)
  have IG:=xO gI;have h11:tm a3 11=yv:=(gI.fix 11 yv rfl).2;have tA:Fr a3:=⟨gI.size,gI.defers,(gI.fix 0 yv rfl).2,(gI.fix 1 z0 rfl).2⟩;obtain⟨fn6,Fq,as6,bo6,hy6,tB⟩:=nU S3 W3 x _ IG ⟨gI.ext,λg o h=>(gI.new g o h).imp id λh=>h.nil rfl,gI.here⟩ hx O5;have O6:ops[6]? = I o6:=by rw[qN,yt,ko aa,xK];rfl
  have O7:ops[7]? = I o7:=by rw[qN,yt,ko aa,xK];rfl
  simp only[wpOpsIn,O6,hw o6 _ ae,if_true];refine⟨λ_ _=>trivial,?_⟩
  have aP:(execOp a3.eval o6).run P W3 = .ok (.round l fn6 Fq as6 bo6) W3:=by
   refine jt5 AF OX (l:=l) (by rw[<-X5];exact h11) ?_;rw[Ju];have O8:a3.eval (.tmp 12) = .int .i64 ((m-1-j:U):È):=by rw[show ((m-1-j:U):È)=(m:È)-1-j by omega];exact zO
   have e16:a3.eval (.tmp 16)=tm a3 16:=rfl;simp only[List.map_toArray,ke,List.map_nil,O8,e16];exact hy6
  rw[show o6.semAt (FR X).round a3.eval=execOp a3.eval o6 from rfl,aP,Oper.uponIn_round];refine⟨λhd=>by simp[FR,Fence.wide]at hd,?_⟩;refine RoundIn.mono ⟨tB.1,λc cs _=>tB.2 c cs (WY _ _)⟩ ?_;have Fs:17<a3.tmps.size:=by rw[tA.1];omega
  have rest:∀(bb:Ê)(W4:Å)(S4:aU),(∀g o,S4 g o->g<W4.heap.size)->
    (∀a5 W5,Fr a5->Grew W4 W5->tm a5 18 = .bool (!bb)->tm a5 3 = .int .i64 ((m:È)-1-j)->(Exit.then ((Ï (.tmp 18) .ret .skip).wpIn (FR X) 0 P (À b1 (Exit.then ((Â r2 A2 Z).wpIn (FR X) 0 P (Exit.then (λa' W'=>æ a' W'/\μ a' W'<μ a W) (À b0 (bodyPost P fn R))))
     (Exit.then (λa' W'=>æ a' W'/\μ a' W'<μ a W) (À b0 (bodyPost P fn R)))))) (À b1 (Exit.then ((Â r2 A2 Z).wpIn (FR X) 0 P (Exit.then (λa' W'=>æ a' W'/\μ a' W'<μ a W) (À b0 (bodyPost P fn R))))
     (Exit.then (λa' W'=>æ a' W'/\μ a' W'<μ a W) (À b0 (bodyPost P fn R)))))) .normal a5 W5)->
    wpOpsIn (FR X) 0 P ops (Exit.then ((Ï (.tmp 18) .ret .skip).wpIn (FR X) 0 P (À b1 (Exit.then ((Â r2 A2 Z).wpIn (FR X) 0 P (Exit.then (λa' W'=>æ a' W'/\μ a' W'<μ a W) (À b0 (bodyPost P fn R))))
     (Exit.then (λa' W'=>æ a' W'/\μ a' W'<μ a W) (À b0 (bodyPost P fn R)))))) (À b1 (Exit.then ((Â r2 A2 Z).wpIn (FR X) 0 P (Exit.then (λa' W'=>æ a' W'/\μ a' W'<μ a W) (À b0 (bodyPost P fn R))))
     (Exit.then (λa' W'=>æ a' W'/\μ a' W'<μ a W) (À b0 (bodyPost P fn R)))))) [7] (a3.put o6.dst (.bool bb)) W4:=by
   intro bb W4 S4 hS4 iu;rw[h6d];obtain⟨a4,Jv⟩:∃a4,a4=a3.put (I 17) (.bool bb):=⟨_,rfl⟩;rw[<-Jv];have wu:∀i,tm a4 i=if i=17 then .bool bb else tm a3 i:=λi=>by rw[Jv];exact oT Fs _ i
   have AG:Fr a4:=⟨by rw[Jv,rS];exact tA.1,by rw[Jv,xq];exact tA.2.1,by rw[wu];exact tA.2.2.1,by rw[wu];exact tA.2.2.2⟩
   have nY:Rel (bwE T).N (bwE T).np S4 W4 { blks:=[],val:=λ_=>X,fix:=fx } (slF [(17,.one (.d .bool bb)),(3,intP ((m:È)-1-j))]) a4 W4 S4 (λ_=>undef):=
    Fl AG.1 AG.2.1 (λ_=>rfl) hS4 (Fo (λx hx=>by
     simp only[je,vk,or_false]at hx;rcases hx with rfl|rfl
     .rw[wu,if_pos rfl];exact⟨rfl,λ_=>rfl⟩
     .exact hint (by rw[wu];exact O3))) (nD AG)
   refine OQ (rest:=[]) hT hC (λσ5 a5 W5 S5 γ5 oa _ lQ=>?_) [o7] 7 (λk o hk=>?_) nY (Fm _) (e7 bb _)
   .obtain⟨q1,q2⟩:=jGx lQ;exact iu a5 W5 (iN oa) (xO oa) (X4 oa q1) (CO oa q2)
   .cases k with
    |zero=>simp at hk;subst hk;exact⟨O7,aR _ ae⟩
    |succ k=>simp at hk
  rintro e W4 (⟨rfl,S4,O9⟩|⟨rfl,hx4⟩)
  .refine rest Á W4 S4 (gD _ _ _ O9) (λa5 W5 tC Jw Pa X8=>?_);refine wpIn_cond_false (c:= .tmp 18) Pa (wpIn_skip ?_);show (Â r2 A2 Z).wpIn _ _ _ _ _ _;have Pb:=aQ _ _ _ _ _ Jw (same O9 Jw) O9
   have oa:Rel (bwE T).N (bwE T).np S4 W5 { blks:=[],val:=λ_=>X,fix:=fx } (slF [(3,intP ((m:È)-1-j))]) a5 W5 S4 (λ_=>undef):=
    Fl tC.1 tC.2.1 (λ_=>rfl) (gD _ _ _ Pb) (Fo (λx hx=>by
     simp only[kp]at hx;subst hx;exact hint X8)) (nD tC)
   refine wpIn_mono (OT hT oa (Fm _) (e2 _)) ?_
   rintro e a6 W6 ⟨rfl,σ6,S6,γ6,qU,hk6⟩
   have xP:=CO qU (X3 hk6);rw[iH aa aa]at xP;refine⟨⟨iN qU,j+1,S4,aa,aQ _ _ _ _ _ (xO qU) (same Pb (xO qU)) Pb,?_⟩,?_⟩
   .rw[xP];congr 1;push_cast;omega
   .simp only[μ,xP,h3];omega
  .refine rest Z W4 (λ_ _=>False) (λ_ _ h=>h.elim) (λa5 W5 tC Jw Pa X8=>?_);refine wpIn_cond_true (c:= .tmp 18) Pa (wpIn_ret ?_);exact eJ tC.2.1 (.inr (zY _ _ Jw hx4))
end
def AH:Î->D (U×Ö Ù)
 |.seq x y=>AH x++AH y
 |.cond _ x y=>AH x++AH y
 |.block _ c=>AH c
 |.loop c=>AH c
 |.region id ops _=>[(id,ops)]
 |_=>[]
def bwA(fn:ä)(i:U):Ö Oper:=(((AH (fn.body.getD .skip)).find? λx=>x.1==i).getD (0, #[])).2
def opAt(A:Ö Ù)(i:U):Oper:=(A[i]?).getD default
def Pc(o:Ù):Call:=match o.op with
 |.call c=>c
 |_=>default
theorem jGz{P:Ã}{T:U->O TyI}(hT:cT P T){f:U}{t:Ty}{fn:ä}(hf:P.funcs[f]? = I fn){A0 A1 A2 A3:Ö Ù}
  (hb:fn.body=I ((Â 0 A0 Z).seq (Ó 0 ((((Â 1 A1 Z).seq (Ï (.tmp 8) .skip (.exit 0))).seq ((Ó 1 ((Â 3 A3 Z).seq (Ï (.tmp 18) .ret .skip))).seq (Â 2 A2 Z))).loop))))
  (hA:A3=(opAt A3 0::((A3.toList.drop 1).take 5++[opAt A3 6,opAt A3 7])).toArray)
  (OV : fn.ntmps = 19) (nA : fn.results = #[]) (cG : (fn.name == "runtime.NumGoroutine") = Z) (xK : ((A3.toList.drop 1).take 5).length = 5) (cM : (opAt A3 0 :: ((A3.toList.drop 1).take 5 ++ [opAt A3 6, opAt A3 7])).all (fun o => o.guard.isNone) = Á)
  (AE:(opAt A3 0).op = .move (.tmp 0))(OW:(opAt A3 0).dst=I 11)(AF:(opAt A3 6).op = .call (Pc (opAt A3 6)))(OX:(Pc (opAt A3 6)).callee = .value (.tmp 11))(Ju:(Pc (opAt A3 6)).args = #[.tmp 12,.tmp 16]/\(opAt A3 6).dst=I 17)
  (e0:∀xs:D t.den,rB (bwE T) A0 (slF [(1,lstP t xs)]) g3=I (w64 (ê (Æ xs)-1)))
  (e1:∀i:È,rB (bwE T) A1 (slF [(3,intP i)]) g1=I (Ç (i>=0),i))
  (e2:∀i:È,rB (bwE T) A2 (slF [(3,intP i)]) g3=I (w64 (i-1)))
  (e3:∀(xs:D t.den)(i:È),nO (bwE T) ((A3.toList.drop 1).take 5) (slF [(1,lstP t xs),(3,intP i)]) (g16 t)=cond (inR i (Æ xs)) (I (i,Ø xs (Õ i) t.dflt,i)) X)
  (e7:∀(b:Ê)(i:È),nO (bwE T) [opAt A3 7] (slF [(17,.one (.d .bool b)),(3,intP i)]) g18=I (!b,i)):BwOK P f t:=by
 rw[hA]at hb;exact jI7 hT hf hb OV nA cG xK cM AE OW AF OX Ju.1 Ju.2 e0 e1 e2 e3 e7
open Go.RowKit Go.WideShapes Go.ChangeShapes
theorem jAc{P:Ã}{f:U}{ps:D APat}{ts:D Ty}{F:HL ts->O Ê}(bP:Con.OK P ⟨f,ps,ts,⟨[.v .bool],[]⟩,[.bool],F⟩)(h:HL ts)(hF:F h=I Á)
  (w:Å)(S:aU)(vals:D Ä)(ha:All2 (pM S w) (rZ ps ts h) vals)(hr:eY (rZ ps ts h) vals=[])(hS:∀g o,S g o->g<w.heap.size)(hu:Jn ps ts (rZ ps ts h)=I h) :
  Calls P f vals.toArray w λe w'=>e = .returned (.bool Á)/\Below w.heap.size w w':=by
 have:=(bP (rZ ps ts h) Ret I (tx ⟨[.v .bool],[]⟩ [.bool] Á) (by
  unfold Con.C;rw[hu];show (F h).bind _=_;rw[hF];rfl)).2
 refine(this w S vals ha (by rw[hr];exact vc) hS).mono ?_
 rintro e w' ⟨ret,dr,v,S',vs,rfl,bP⟩
 simp only[j5]at dr;subst dr;have bV:All2 (rO S' w') [.v ⟨.bool,Á⟩] vs:=bP.rep;refine⟨?_,bP.os,bP.tape,bP.output,bP.grow,λk hk=>bP.below k hk (by rw[hr];simp)⟩;rw[bP.val];match vs,bV with
 |[u],bV=>have h1:=bV.1;have h2:u.cells.toList=[.bool Á]/\(jM Ty.bool=Á->∃cs,u=Value.agg cs)/\(jM Ty.bool=Z->One u):=h1;have h3:=Ca (h2.2.2 rfl);rw[h2.1]at h3;simp only[List.cons.injEq,and_true]at h3;rw[<-h3];rfl
 |[],bV=>exact absurd bV (by simp[All2])
 |_::_::_,bV=>exact absurd bV (by simp[All2])
theorem jr5{H:Type}{enc:Í×Ä->H}{P:Ã}{f:ä}{s:ChangeSpec}{apart fresh handsOn again:Ê}{W W':Å}{args:Ö Ä}{v:Ä}{ds gs:D (Û H)}{before pa pv:D Ð}
  (hW:DataW.Whole enc P f.params.toList s.vars apart W args.toList ds gs before)
  (nA:∀(b:U)(sp:U->Ê)(hd:Ê),ß enc P W' b sp hd f.resultTypes.toList (v.resultList f.resultTypes.size) (s.fn H (ds++gs)).results [])
  (fC:∀sp:U->Ê,(∀p∈before,sp p.block=Á)->ß enc P W' 0 sp Á f.params.toList args.toList (s.fn H (ds++gs)).args pa)
  (xQ:∀sp:U->Ê,(∀p∈before,sp p.block=Á)->DataW.TrodVars enc P W' sp s.vars (s.fn H (ds++gs)).vars pv)
  (gW:before=pa++pv)(hb:Below W.heap.size W W')
  (bP:∀(j:U)(t:Í)(r:Ä),f.resultTypes[j]? = I t->(v.resultList f.resultTypes.size)[j]? = I r->Ñ P W' .any 0 t r) :
  s.post enc P f apart fresh handsOn again W args v W':=by
 have an:∀p∈before,p.block<W.heap.size:=λp hp=>hW.lt p hp;have hold:∀p∈before,(λb=>Ç (b<W.heap.size)) p.block=true:=λp hp=>by simpa using an p hp
 refine⟨ds,gs,before,[],pa,pv,hW,nA _ _ _,fC _ hold,xQ _ hold,World.keptBut_mono (λp hp=>⟨hp,?_⟩) (hb.frame (· ∈ before)),λ_=>?_⟩
 .rw[gW,jn]at hp;exact Or.inr hp
 .obtain⟨_,_,_,_,_,hz,hn⟩:=hW;refine⟨bP,_,_,([]++pa)++pv,⟨[]++pa,pv,trodAll_append (fC _ (λ_ _=>rfl)) (nA _ _ _),xQ _ (λ_ _=>rfl),rfl,?_,?_⟩,?_⟩
  .intro b off hp;have gC:MemPlace.cell b off∈before:=by rw[gW];simpa using hp
   rw[hb.frozen (an _ gC)];exact hz b off gC
  .intro ha;have:=hn ha;rw[gW]at this;simpa using this
  .intro p hp _;rw[gW];simpa using hp
open Go.RowKit Go.WideShapes Go.ChangeShapes
def xR(P:Ã)(f:Í->Ty->Ê):D Field->U->Ty->Ê
 |[],_,_=>Z
 |[x],off,b=>Ç (x.offset=off)&&Ç (P.cellsOf x.type=b.size)&&f x.type b
 |x::y::r,off,.pair a b=>Ç (x.offset=off)&&Ç (P.cellsOf x.type=a.size)&&f x.type a&&xR P f (y::r) (off+a.size) b
 |_,_,_=>Z
def qV(P:Ã):U->Í->Ty->Ê
 |0,_,_=>Z
 |n+1,t,ty=>match P.underlying t with
  |some (.int k)=>Ç (ty = .int k)
  |some .bool=>Ç (ty = .bool)
  |some .string=>Ç (ty = .str)
  |some (.slice e)=>match ty with
   |.list a=>qV P n e a&&Ç (P.cellsOf e=a.size)&&Ç (0<a.size)
   |_=>Z
  |some (.struct fs)=>Ç (P.cellsOf t=ty.size)&&match fs.toList,ty with
   |[x],.wrap a=>xR P (qV P n) [x] 0 a
   |x::y::r,.pair a b=>xR P (qV P n) (x::y::r) 0 (.pair a b)
   |_,_=>Z
  |_=>Z
def Wf:(t:Ty)->t.den->Prop
 |.int k,n=>(Lit.int k n).wf=Á
 |.bool,_=>ã
 |.str,s=>s.size<=maxLen
 |.unit,_=>ã
 |.wrap a,v=>Wf a v
 |.pair a b,v=>Wf a v.1/\Wf b v.2
 |.list a,xs=>Æ xs<=maxLen/\∀x∈(show D a.den from xs),Wf a x
 |.arr _ _,_=>ã
theorem Jy{α β:Type}{f:α->O β}:∀{l:D α}{ys:D β},l.mapM f=I ys->ys.length=l.length/\∀(i:U)(x:α),l[i]? = I x->∃y,ys[i]? = I y/\f x=I y
 |[],ys,h=>by
  simp at h;subst h;exact⟨rfl,λi x hx=>by simp at hx⟩
 |a::l,ys,h=>by
  rw[vq]at h;cases ha:f a with
  |none=>simp[ha]at h
  |some y=>
   cases hl:l.mapM f with
   |none=>simp[ha,hl]at h
   |some zs=>
    simp[ha,hl]at h;subst h;obtain⟨h1,h2⟩:=Jy hl;refine⟨by simp[h1],λi x hx=>?_⟩;cases i with
    |zero=>simp at hx;subst hx;exact⟨y,rfl,ha⟩
    |succ i=>simp at hx;obtain⟨z,hz,hf⟩:=h2 i x hx;exact⟨z,by simpa using hz,hf⟩
theorem X9{α β:Type}{f:α->O β}:∀{l:D α}{ys:D β},ys.length=l.length->(∀(i:U)(x:α),l[i]? = I x->f x=ys[i]?)->l.mapM f=I ys
 |[],ys,h,_=>by
  have:ys=[]:=kc (by simpa using h);subst this;rfl
 |a::l,[],h,_=>by simp at h
 |a::l,y::ys,h,hg=>by
  have h0:f a=I y:=by simpa using hg 0 a rfl
  rw[vq,h0,X9 (ys:=ys) (by simpa using h) (λi x hx=>by simpa using hg (i+1) x (by simpa using hx))];rfl
theorem Jz{α β:Type}{f g:α->O β}:∀{l:D α}{ys:D β},l.mapM f=I ys->(∀x∈l,∀y,y∈ys->f x=I y->g x=I y)->l.mapM g=I ys
 |[],ys,h,_=>by simpa using h
 |a::l,ys,h,hk=>by
  rw[vq]at h ⊢;cases ha:f a with
  |none=>simp[ha]at h
  |some y=>
   cases hl:l.mapM f with
   |none=>simp[ha,hl]at h
   |some zs=>simp[ha,hl]at h;subst h;rw[hk a ae y ae ha,Jz hl (λx hx z hz hf=>hk x (by simp[hx]) z (by simp[hz]) hf)];rfl
theorem Ya{α:Type}{Q:U->α->Prop}:∀n,(∀i,i<n->∃x,Q i x)->∃xs:D α,xs.length=n/\∀i x,xs[i]? = I x->Q i x
 |0,_=>⟨[],rfl,λi x h=>by simp at h⟩
 |n+1,h=>by
  obtain⟨xs,hl,hx⟩:=Ya n (λi hi=>h i aa);obtain⟨x,hq⟩:=h n aa;refine⟨xs++[x],by simp[hl],λi y hy=>?_⟩;rcases zm i n with hi|hi
  .rw[Ì aa]at hy;exact hx i y hy
  .have:i=n:=by have:=(jy.1 hy).1;simp[hl]at this;omega
   subst this;rw[ko aa,hl,Nat.sub_self]at hy;simp at hy;subst hy;exact hq
theorem Yb{α β:Type}{R:α->β->Prop}:∀{as:D α}{bs:D β},as.length=bs.length->(∀(i:U)(a:α)(b:β),as[i]? = I a->bs[i]? = I b->R a b)->All2 R as bs
 |[],[],_,_=>trivial
 |a::as,b::bs,hl,h=>⟨h 0 a b rfl rfl,Yb (by simpa using hl) λi x y hx hy=>h (i+1) x y (by simpa using hx) (by simpa using hy)⟩
 |[],_::_,hl,_=>by simp at hl
 |_::_,[],hl,_=>by simp at hl
theorem Yc{m:U}:∀{css:D (D Ä)},(∀c∈css,c.length=m)->∀{j:U}{v:Ä},css.flatten[j]? = I v->∃i r c,j=i*m+r/\r<m/\css[i]? = I c/\c[r]? = I v
 |[],_,j,v,h=>by simp at h
 |c::css,hl,j,v,h=>by
  simp only[qd]at h;have hc:=hl c ae;rcases zm j c.length with hj|hj
  .rw[Ì hj]at h;exact⟨0,j,c,aa,aa,rfl,h⟩
  .rw[ko hj]at h;obtain⟨i,r,c',e,hr,hi,hv⟩:=Yc (λx hx=>hl x (by simp[hx])) h;exact⟨i+1,r,c',by rw[Nat.add_mul];omega,hr,by simpa using hi,hv⟩
def Ext(W W':Å):Prop:=∀(k:U) x,W.heap[k]? = I x->W'.heap[k]? = I x
theorem Ext.cell{W W':Å}(h:Ext W W'){a:ì}{v:Ä}(hc:W.cell? a=I v):W'.cell? a=I v:=by
 unfold World.cell? at hc ⊢;split at hc
 .rename_i c _ _ hb;rw[h _ _ hb];exact hc
 .simp at hc
theorem Ext.cells{W W':Å}(h:Ext W W'){a:ì}{n:U}{cs:D Ä}(hc:W.cells? 0 a n=I cs):W'.cells? 0 a n=I cs:=by
 unfold World.cells? at hc ⊢;simp only[kn,if_true]at hc ⊢;exact Jz hc λi _ y _ hf=>h.cell hf
theorem Pd{W:Å}{a:ì}{n:U}{cs:D Ä}(hc:W.cells? 0 a n=I cs):cs.length=n/\∀i v,cs[i]? = I v->W.cell? (a.add i)=I v:=by
 unfold World.cells? at hc;simp only[kn,if_true]at hc;obtain⟨h1,h2⟩:=Jy hc;simp only[Ü]at h1;refine⟨h1,λi v hv=>?_⟩;have hi:i<n:=by rw[<-h1];exact(jy.1 hv).1
 obtain⟨y,hy,hf⟩:=h2 i i (by simp[hi]);rw[hv]at hy;simp at hy;subst hy;exact hf
theorem Yd{W:Å}{a:ì}{v:Ä}(h:W.cell? a=I v):a.block<W.heap.size/\a.spot=none:=by
 unfold World.cell? at h;split at h
 .rename_i c _ _ hb;refine⟨(ji.1 hb).1,?_⟩;split at h
  .simp at h
  .rename_i hs;simpa using hs
 .simp at h
def oldS(W:Å):aU:=λg _=>g<W.heap.size
def Fu{H:Type}(enc:Í×Ä->H)(P:Ã)(W:Å)(held:Ê)(fuel:U)(t:Í)(ty:Ty)(cs:D Ä)(d:Û H)(ps:D Ð):Prop:=
 cs.length=ty.size/\(∃v:ty.den,Rep (oldS W) W ty v cs/\Wf ty v)/\
  ∀W' sp,Ext W W'->(∀q∈ps,sp q.block=Á)->Y enc P W' 0 sp held fuel t cs=I (d,ps)
section
variable{H:Type}{enc:Í×Ä->H}{P:Ã}{W:Å}{held:Ê}
theorem jAf{a:ì}{n:U}(hn:0<n):∃q∈MemPlace.row a n,q.block=a.block:=
 ⟨.cell a.block (a.off+0),jr.2 ⟨0,by simp[hn],rfl⟩,rfl⟩
theorem juX{n:U}{t e:Í}{el:Ty}(hu:P.underlying t=I (.slice e))(bU:P.cellsOf e=el.size)(bK:0<el.size){fuel:U}{cs:D Ä}{d:Û H}{ps:D Ð}
  (ih:∀(m:U)(cs:D Ä)(d:Û H)(ps:D Ð),Y enc P W 0 (λ_=>Á) held m e cs=I (d,ps)->Fu enc P W held m e el cs d ps)
  (h:Y enc P W 0 (λ_=>Á) held fuel t cs=I (d,ps)):Fu enc P W held fuel t (.list el) cs d ps:=by
 cases fuel with
 |zero=>simp[Y]at h
 |succ m=>
  have h':=h;unfold Y at h;rw[hu]at h;split at h;all_goals (try (rename_i heq _;simp at heq;done))
  all_goals (try (rename_i heq;simp at heq;done))
  .rename_i heq;refine⟨rfl,⟨[],⟨X,0,rfl,jv _,kn _,λ_=>rfl,λb hb=>by simp at hb⟩,⟨kn _,ae⟩⟩,λW' sp _ _=>?_⟩;unfold Y;rw[hu];exact h
  .rename_i e' a len cap heq;simp only[j5,TypeDesc.slice.injEq]at heq;subst heq;simp only[kn,qr,if_true]at h;split at h
   .rename_i hc;cases fE:(Ú len).mapM (λi=>(W.cells? 0 (a.add (i*P.cellsOf e)) (P.cellsOf e)).bind (Y enc P W 0 (λ_=>Á) held m e)) with
    |none=>rw[fE]at h;simp at h
    |some elems=>
     rw[fE]at h;simp only[j4]at h;cases JA:(Ú (cap-len)).mapM (λj=>(W.cells? 0 (a.add ((len+j)*P.cellsOf e)) (P.cellsOf e)).bind (Y enc P W 0 (λ_=>Á) held m e)) with
     |none=>rw[JA]at h;simp at h
     |some rest=>
      rw[JA]at h;simp only[qa,j5,j9]at h;obtain⟨rfl,rfl⟩:=h;obtain⟨l1,g1⟩:=Jy fE;obtain⟨l2,g2⟩:=Jy JA;simp only[Ü]at l1 l2
      have one:∀i y,(W.cells? 0 (a.add (i*P.cellsOf e)) (P.cellsOf e)).bind (Y enc P W 0 (λ_=>Á) held m e)=I y->∃c,W.cells? 0 (a.add (i*P.cellsOf e)) (P.cellsOf e)=I c/\Fu enc P W held m e el c y.1 y.2:=by
       intro i y hy;cases hc:W.cells? 0 (a.add (i*P.cellsOf e)) (P.cellsOf e) with
       |none=>rw[hc]at hy;simp at hy
       |some c=>rw[hc]at hy;exact⟨c,rfl,ih m c y.1 y.2 hy⟩
      refine⟨rfl,?_,?_⟩
      .have each:∀i,i<len->∃x:el.den×D Ä,W.cells? 0 (a.add (i*P.cellsOf e)) (P.cellsOf e)=I x.2/\Rep (oldS W) W el x.1 x.2/\Wf el x.1:=by intro i hi;obtain⟨y,hy,hf⟩:=g1 i i (by simp[hi]);obtain⟨c,eX,_,⟨v,hv,hw⟩,_⟩:=one i y hf;exact⟨(v,c),eX,hv,hw⟩
       obtain⟨xs,nV,gX⟩:=Ya len each;have Fv:∀c∈xs.map (·.2),c.length=P.cellsOf e:=by intro c hc;obtain⟨x,hx,rfl⟩:=jr.1 hc;obtain⟨i,hi⟩:=v6.1 hx;exact(Pd (gX i x hi).1).1
       refine⟨xs.map (·.1),?_,?_⟩
       .refine⟨I a,cap,by simp[nV],by simp[nV,hc.1],hc.2,ae,λb hb=>?_⟩;simp only[j5]at hb;subst hb;have xS:len≠0->a.spot=none:=by intro hl;obtain⟨x,hx⟩:∃x,xs[0]? = I x:=⟨xs[0],jp aa⟩;obtain⟨k1,k2⟩:=Pd (gX 0 x hx).1;obtain⟨v,hv⟩:∃v,x.2[0]? = I v:=⟨x.2[0],jp aa⟩;have:=(Yd (k2 0 v hv)).2;simpa[Addr.add]using this
        refine⟨λbA=>xS (λh0=>bA (by rw[List.map_eq_nil_iff];exact kc aa)),xs.map (·.2),Yb ae (λi x c hx hc=>?_),λj v hv=>?_⟩
        .simp only[qp,Ô]at hx hc;obtain⟨y,hy,rfl⟩:=hx;obtain⟨z,hz,rfl⟩:=hc;rw[hy]at hz;simp at hz;subst hz;exact(gX i y hy).2.1
        .obtain⟨i,r,c,hj,hr,oD,uu⟩:=Yc Fv hv;simp only[qp,Ô]at oD;obtain⟨x,hx,rfl⟩:=oD;have dX:=(Pd (gX i x hx).1).2 r v uu;have kC:i<len:=by rw[<-nV];exact(jy.1 hx).1
         have hs:=xS aa;have zK:(a.add (i*P.cellsOf e)).add r=⟨a.block,a.off+j,X⟩:=by obtain⟨g,o,s⟩:=a;simp only at hs;subst hs;simp only[Addr.add];split<;>split<;>simp<;>omega
         rw[zK]at dX;exact⟨(Yd dX).1,dX⟩
       .refine⟨by simp only[kj,nV];omega,λx hx=>?_⟩;obtain⟨y,hy,rfl⟩:=jr.1 hx;obtain⟨i,hi⟩:=v6.1 hy;exact(gX i y hi).2.2
      .intro W' sp hE dq
       have keep:∀i y,y∈elems++rest->(W.cells? 0 (a.add (i*P.cellsOf e)) (P.cellsOf e)).bind (Y enc P W 0 (λ_=>Á) held m e)=I y->
         (W'.cells? 0 (a.add (i*P.cellsOf e)) (P.cellsOf e)).bind (Y enc P W' 0 sp held m e)=I y:=by
        intro i y hy hf;obtain⟨c,eX,_,_,hk⟩:=one i y hf;rw[hE.cells eX];exact hk W' sp hE (λq hq=>dq q (jq _ (qv.2 ⟨y,hy,hq⟩)))
       unfold Y;rw[hu];simp only[kn,qr];rw[if_pos hc,Jz fE (λi _ y hy hf=>keep i y (ju _ hy) hf)];simp only[j4]
       have dy:(if sp a.block=Á then (Ú (cap-len)).mapM (λj=>(W'.cells? 0 (a.add ((len+j)*P.cellsOf e)) (P.cellsOf e)).bind (Y enc P W' 0 sp held m e)) else I [])=I rest:=by
        split
        .exact Jz JA (λj _ y hy hf=>keep (len+j) y (jq _ hy) hf)
        .rename_i hsf;rcases Nat.eq_zero_or_pos ((elems.length+rest.length)*P.cellsOf e) with h0|h0
         .have:rest=[]:=by
           rcases Nat.mul_eq_zero.1 h0 with h|h
           .exact kc aa
           .omega
          rw[this]
         .obtain⟨q,hq,hb⟩:=jAf (a:=a) h0;have:=dq q (ju _ hq);rw[hb]at this;exact absurd this hsf
       rw[dy];rfl
   .simp at h
  .simp at h
theorem Fw{n m:U}(ih:∀(t:Í)(ty:Ty),qV P n t ty=Á->∀(cs:D Ä)(d:Û H)(ps:D Ð),Y enc P W 0 (λ_=>Á) held m t cs=I (d,ps)->Fu enc P W held m t ty cs d ps)(cs:D Ä) :
  ∀(fs:D Field)(off:U)(ty:Ty)(xs:D (Û H×D Ð)),xR P (qV P n) fs off ty=Á->cs.length=off+ty.size->
   fs.mapM (λf=>Y enc P W 0 (λ_=>Á) held m f.type ((cs.drop f.offset).take (P.cellsOf f.type)))=I xs->
   (∃v:ty.den,Rep (oldS W) W ty v (cs.drop off)/\Wf ty v)/\
    ∀W' sp,Ext W W'->(∀q∈xs.flatMap (·.2),sp q.block=Á)->fs.mapM (λf=>Y enc P W' 0 sp held m f.type ((cs.drop f.offset).take (P.cellsOf f.type)))=I xs
 |[],_,_,_,hc,_,_=>by simp[xR]at hc
 |[f],off,ty,xs,hc,hl,hm=>by
  simp only[xR,jd,jo]at hc;obtain⟨⟨ho,hz⟩,hc⟩:=hc;rw[vq]at hm;cases hf:Y enc P W 0 (λ_=>Á) held m f.type ((cs.drop f.offset).take (P.cellsOf f.type)) with
  |none=>simp[hf]at hm
  |some y=>simp[hf]at hm;subst hm;obtain⟨_,hv,hk⟩:=ih f.type ty hc _ y.1 y.2 hf;rw[ho,hz,List.take_of_length_le ax]at hv;refine⟨hv,λW' sp hE dq=>?_⟩;rw[vq,hk W' sp hE (λq hq=>dq q (by simpa using hq))];rfl
 |f::g::r,off,ty,xs,hc,hl,hm=>by
  cases ty with
  |pair a b=>
   simp only[xR,jd,jo]at hc;obtain⟨⟨⟨ho,hz⟩,hc⟩,hr⟩:=hc;rw[vq]at hm;cases hf:Y enc P W 0 (λ_=>Á) held m f.type ((cs.drop f.offset).take (P.cellsOf f.type)) with
   |none=>simp[hf]at hm
   |some y=>
    cases dy:(g::r).mapM (λf=>Y enc P W 0 (λ_=>Á) held m f.type ((cs.drop f.offset).take (P.cellsOf f.type))) with
    |none=>rw[hf,dy]at hm;simp at hm
    |some ys=>
     rw[hf,dy]at hm;simp at hm;subst hm;have oQ:cs.length=off+(a.size+b.size):=hl;obtain⟨nU,⟨v,hv,hw⟩,hk⟩:=ih f.type a hc _ y.1 y.2 hf;obtain⟨⟨v2,Aq,xI⟩,gi⟩:=Fw ih cs (g::r) (off+a.size) b ys hr aa dy;rw[ho,hz]at hv;refine⟨⟨(v,v2),⟨(cs.drop off).take a.size,cs.drop (off+a.size),?_,hv,Aq⟩,hw,xI⟩,λW' sp hE dq=>?_⟩
     .rw[<-List.drop_drop,qx]
     .rw[vq,hk W' sp hE (λq hq=>dq q (by simp[hq])),gi W' sp hE (λq hq=>dq q (by simp at hq ⊢;exact .inr hq))];rfl
  |_=>simp[xR]at hc
theorem Ye:∀(n:U)(t:Í)(ty:Ty),qV P n t ty=Á->∀(fuel:U)(cs:D Ä)(d:Û H)(ps:D Ð),Y enc P W 0 (λ_=>Á) held fuel t cs=I (d,ps)->
  Fu enc P W held fuel t ty cs d ps
 |0,_,_,hc,_,_,_,_,_=>by simp[qV]at hc
 |n+1,t,ty,hc,fuel,cs,d,ps,h=>by
  have ih:=Ye n;cases fuel with
  |zero=>simp[Y]at h
  |succ m=>
  have jO:=hc;unfold qV at hc;split at hc
  .rename_i k hu;have:=q7 hc;subst this;obtain⟨z,rfl,hx,hw⟩:=DataW.trod_int hu h;refine⟨rfl,⟨z,rfl,hw⟩,λW' sp _ _=>?_⟩;simp only[j9]at hx;rw[hx.1,hx.2];exact trod_int_mk m hu hw
  .rename_i hu;have:=q7 hc;subst this;obtain⟨z,rfl,hx⟩:=DataW.trod_bool hu h;refine⟨rfl,⟨z,rfl,trivial⟩,λW' sp _ _=>?_⟩;unfold Y at h ⊢;rw[hu]at h ⊢;exact h
  .rename_i hu;have:=q7 hc;subst this;obtain⟨z,rfl,hx,hw⟩:=DataW.trod_string hu h;refine⟨rfl,⟨z,rfl,hw⟩,λW' sp _ _=>?_⟩;unfold Y at h ⊢;rw[hu]at h ⊢;exact h
  .rename_i e hu;split at hc
   .rename_i a;simp only[jd,jo]at hc;exact juX (n:=n) hu hc.1.2 hc.2 (λm cs d ps h=>ih e a hc.1.1 m cs d ps h) h
   .simp at hc
  .rename_i fs hu;simp only[jd,jo]at hc;obtain⟨bU,hc⟩:=hc;have Pe:cs.length=P.cellsOf t/\∃xs,fs.toList.mapM (λf=>Y enc P W 0 (λ_=>Á) held m f.type ((cs.drop f.offset).take (P.cellsOf f.type)))=I xs/\d = .agg (xs.map (·.1))/\ps=xs.flatMap (·.2):=by obtain⟨xs,m',e1,e2,e3,e4,e5⟩:=DataW.trod_struct hu h;have:m'=m:=aa;subst this;simp only[j9]at e2;exact⟨e3,xs,X9 (by simpa using e4) (λi x hx=>e5 i x (by simpa using hx)),e2.1,e2.2⟩
   obtain⟨hl,xs,hm,rfl,rfl⟩:=Pe
   have mk:∀W' sp,fs.toList.mapM (λf=>Y enc P W' 0 sp held m f.type ((cs.drop f.offset).take (P.cellsOf f.type)))=I xs->
     Y enc P W' 0 sp held (m+1) t cs=I (.agg (xs.map (·.1)),xs.flatMap (·.2)):=by
    intro W' sp lL
    exact trod_struct_mk hu hl (by
     first
     |exact lL
     |(intros;exact lL))
   refine⟨aa,?_,λW' sp hE dq=>?_⟩;all_goals split at hc
   .rename_i x a wv;rw[wv]at hm;obtain⟨⟨v,hv,hw⟩,_⟩:=Fw (λt ty hc cs d ps h=>ih t ty hc m cs d ps h) cs [x] 0 a xs hc (by rw[hl,bU];simp[Ty.size]) hm;exact⟨v,by simpa[Rep]using hv,hw⟩
   .rename_i x y r a b wv;rw[wv]at hm;obtain⟨⟨v,hv,hw⟩,_⟩:=Fw (λt ty hc cs d ps h=>ih t ty hc m cs d ps h) cs (x::y::r) 0 (.pair a b) xs hc aa hm;exact⟨v,by simpa using hv,hw⟩
   .simp at hc
   .rename_i x a wv;rw[wv]at hm;obtain⟨_,hk⟩:=Fw (λt ty hc cs d ps h=>ih t ty hc m cs d ps h) cs [x] 0 a xs hc (by rw[hl,bU];simp[Ty.size]) hm;exact mk W' sp (by rw[wv];exact hk W' sp hE dq)
   .rename_i x y r a b wv;rw[wv]at hm;obtain⟨_,hk⟩:=Fw (λt ty hc cs d ps h=>ih t ty hc m cs d ps h) cs (x::y::r) 0 (.pair a b) xs hc aa hm;exact mk W' sp (by rw[wv];exact hk W' sp hE dq)
   .simp at hc
  .simp at hc
end
theorem JB{P:Ã}{W:Å}{r:Reach}{base:U}{t:Í}{v:Ä}{d:TypeDesc}(hu:P.underlying t=I d)(hd:(∃k,d = .int k)\/d = .bool\/d = .string\/∃e,d = .slice e)(h:Ñ P W r base t v):One v:=by
 have hc:Cell.ok P W r base t v:=by unfold Ñ at h;rw[hu]at h;rcases hd with⟨k,rfl⟩|rfl|rfl|⟨e,rfl⟩<;>(dsimp only at h;unfold Cell.okWide at h;rw[hu]at h;exact h)
 unfold Cell.ok at hc;rw[hu]at hc;rcases hd with⟨k,rfl⟩|rfl|rfl|⟨e,rfl⟩<;>cases v<;>first|rfl|(exact absurd hc ae)
theorem CP{H:Type}{enc:Í×Ä->H}{P:Ã}{W:Å}{n:U}{t:Í}{ty:Ty}(gu:qV P n t ty=Á){r:Reach}{base:U}{v:Ä}(bP:Ñ P W r base t v){d:Û H}{p:D Ð}
  (h:é enc P W 0 (λ_=>Á) Á t v d p) :
  ∃x:ty.den,pM (oldS W) W (.v ⟨ty,x⟩) v/\Wf ty x/\∀W' sp,Below W.heap.size W W'->(∀q∈p,sp q.block=Á)->é enc P W' 0 sp Á t v d p:=by
 obtain⟨fuel,h⟩:=h;obtain⟨_,⟨x,hx,hw⟩,hk⟩:=Ye n t ty gu fuel _ d p h;refine⟨x,⟨hx,λhm=>?_,λhm=>?_⟩,hw,λW' sp hb dq=>⟨fuel,hk W' sp (λk y hy=>by rw[hb.block k (ji.1 hy).1];exact hy) dq⟩⟩
 .cases n with
  |zero=>simp[qV]at gu
  |succ n=>
   unfold qV at gu;split at gu
   .have:=q7 gu;subst this;simp[jM,Ty.agg]at hm
   .have:=q7 gu;subst this;simp[jM,Ty.agg]at hm
   .have:=q7 gu;subst this;simp[jM,Ty.agg]at hm
   .split at gu
    .simp[jM,Ty.agg]at hm
    .simp at gu
   .rename_i hu;unfold Ñ at bP;rw[hu]at bP;obtain⟨cs,dB,_⟩:=bP;exact⟨cs,dB⟩
   .simp at gu
 .cases n with
  |zero=>simp[qV]at gu
  |succ n=>
   unfold qV at gu;split at gu
   .rename_i k hu;exact JB hu (.inl ⟨k,rfl⟩) bP
   .rename_i hu;exact JB hu (.inr (.inl rfl)) bP
   .rename_i hu;exact JB hu (.inr (.inr (.inl rfl))) bP
   .rename_i e hu;exact JB hu (.inr (.inr (.inr ⟨e,rfl⟩))) bP
   .rename_i hu;simp only[jd]at gu;have h2:=gu.2;split at h2
    .simp[jM,Ty.agg]at hm
    .simp[jM,Ty.agg]at hm
    .simp at h2
   .simp at gu
def OLe{α:Type}(a b:O α):Prop:=∀r,a=I r->b=I r
theorem OLe.refl{α:Type}(a:O α):OLe a a:=λ_ h=>h
theorem OLe.none{α:Type}(a:O α):OLe X a:=λ_ h=>by simp at h
theorem OLe.bind{α β:Type}{a b:O α}{f g:α->O β}(h:OLe a b)(h':∀x,OLe (f x) (g x)):OLe (a.bind f) (b.bind g):=by
 intro r hr;cases a with
 |none=>simp at hr
 |some x=>rw[h x rfl];exact h' x r hr
theorem OLe.cond{α:Type}{c:Ê}{a b a' b':O α}(h:OLe a a')(h':OLe b b'):OLe (cond c a b) (cond c a' b'):=by
 cases c with
 |true=>exact h
 |false=>exact h'
theorem OLe.sumC{α β γ:Type}{x:α ⊕ β}{f f':α->O γ}{g g':β->O γ}(h:∀x,OLe (f x) (f' x))(h':∀x,OLe (g x) (g' x)):OLe (sumC x f g) (Lft.sumC x f' g'):=by
 cases x with
 |inl a=>exact h a
 |inr b=>exact h' b
theorem OLe.loopN{α β:Type}{f g:α->O (α ⊕ β)}(h:∀s,OLe (f s) (g s)):∀(n:U)(s:α),OLe (Lft.loopN f n s) (Lft.loopN g n s)
 |0,_=> .none _
 |n+1,s=>by
  intro r hr;simp only[Lft.loopN]at hr ⊢;cases hf:f s with
  |none=>simp[hf]at hr
  |some x=>
   rw[h s x hf];cases x with
   |inl a=>simp only[hf]at hr;exact OLe.loopN h n a r hr
   |inr b=>simpa[hf]using hr
theorem OLe.loop{α β:Type}{f g:α->O (α ⊕ β)}(n:U)(s:α)(h:∀s,OLe (f s) (g s)):OLe (Lft.loopN f n s) (loopOpt g s):=
 λr hr=>Fh (OLe.loopN h n s r hr)
theorem OLe.loopOpt{α β:Type}{f g:α->O (α ⊕ β)}(s:α)(h:∀s,OLe (f s) (g s)):OLe (Lft.loopOpt f s) (Lft.loopOpt g s):=by
 intro r hr;obtain⟨n,hn⟩:=Fi hr;exact Fh (OLe.loopN h n s r hn)
theorem Yf{α β:Type}{B B':(α->O β)->α->O β}(h:∀g g',(∀a,OLe (g a) (g' a))->∀a,OLe (B g a) (B' g' a)):∀n a,OLe (mw B n a) (mw B' n a)
 |0,_=> .none _
 |n+1,a=>h _ _ (Yf h n) a
theorem Pg{α β:Type}{B:(α->O β)->α->O β}(h:∀g g',(∀a,OLe (g a) (g' a))->∀a,OLe (B g a) (B g' a)):∀(k n:U)(a:α),OLe (mw B n a) (mw B (n+k) a)
 |k,0,a=> .none _
 |k,n+1,a=>by
  rw[show n+1+k=(n+k)+1 by omega];exact h _ _ (Pg h k n) a
theorem OLe.rec{α β:Type}{B B':(α->O β)->α->O β}(n:U)(a:α)(h:∀g g',(∀a,OLe (g a) (g' a))->∀a,OLe (B g a) (B' g' a))(h':∀g g',(∀a,OLe (g a) (g' a))->∀a,OLe (B' g a) (B' g' a)) :
  OLe (mw B n a) (xN B' a):=by
 intro r hr;have h1:=Yf h n a r hr;refine X1 ⟨n,h1⟩ λm y hy=>?_;have e1:=Pg h' m n a r h1;have e2:=Pg h' n m a y hy;rw[Nat.add_comm m n]at e2;rw[e1]at e2;simpa using e2.symm
end Go.Lft
