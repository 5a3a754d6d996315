/- Jz of arguments and yt: what is known of them but the data. Q6. -/
import Derived.Test.YtllkgjaoejhneaaGreatCELC
import Derived.KernelRfl
import Derived.IntWalk
import Derived.Below
import Derived.ChangeSame
open _root_ renaming List->D,Option->K,Nat->O,Bool->Å,Int->Æ,DecidableEq->Ç,Array->Õ,True->ã,Inv->å
open Option renaming some->I,none->U,map_eq_some_iff->Ö
open Go.DataW renaming trod->X,TrodAll->à,Trod->é
open Go.Exit renaming inBlock->Y
open Bool renaming false->Z,true->Â
open Go renaming World->À,Program->Ã,Value->Ä,Act->È,TypeId->Í,Code->Ï,MemPlace->Ñ,Oper->Ú,DataW->Ü,Func->è,Addr->ì
open Go.Code renaming region->Á,cond->Ð,block->Ô
open List renaming length->É,getElem?_append_left->Ê,getElem?_cons_succ->Ì,cons_append->Î,getD->Ù,range->Û,length_range->Ý,find?_cons->Þ,range'->ä
open Decidable renaming decide->Ë
open Go.Value renaming okWide->Ò
open Go.Region renaming wanted->Ó
open Int renaming toNat->Ø,ofNat->ê
noncomputable section
set_option linter.unusedVariables false
namespace Go.Lft
inductive CPat where
 |v (t:Ty)
 |p (ts:D Ty)
 deriving Ç
inductive LPat where
 |dead|nil
 |d (t:Ty)
 |ol (k:O)
 |bp (k c:O)
 |ep (k i c:O)
 |tl (k:O)
 |hd (k:O)
 |ip (ts:D Ty)
 |clo (f:O) (caps:D CPat)
 |clr (f:O) (ks:D O)
 deriving Ç
inductive KPat where
 |one (l:LPat)
 |st (ls:D LPat)
 |av (n:O) (a:Ty)
 deriving Ç
inductive BPat where
 |free|gone
 |cell (ls:D LPat) (frz:Å)
 |lst (e:O) (a:Ty) (frz:Å)
 |arr (n:O) (a:Ty)
 |row (e:O) (a:Ty) (n:O) (ls:D LPat)
 deriving Ç
inductive IPat where
 |s (c:KPat)
 |b (x:BPat)
 deriving Ç
abbrev iT:Ty:= .int .i64
abbrev sI:IPat:= .s (.one (.d iT))
abbrev sD(t:Ty):IPat:= .s (.one (.d t))
abbrev sO(k:O):IPat:= .s (.one (.ol k))
abbrev sB(k c:O):IPat:= .s (.one (.bp k c))
abbrev sC(f:O)(l:D CPat):IPat:= .s (.one (.clo f l))
inductive APat where
 |v (t:Ty)
 |ref (ts:D Ty)
 |rl (e:O) (t:Ty)
 |ip (ts:D Ty)
 |clo (f:O) (caps:D CPat)
 |mv (e:O) (t:Ty)
 deriving Ç
@[reducible] def HL:List Ty->Type
 |[]=>Unit
 |[t]=>t.den
 |t::t'::ts=>t.den×HL (t'::ts)
def ofHL:(ts:D Ty)->HL ts->D TV
 |[],_=>[]
 |[t],h=>[⟨t,h⟩]
 |t::t'::ts,h=>⟨t,h.1⟩::ofHL (t'::ts) h.2
def toHL:(ts:D Ty)->D TV->K (HL ts)
 |[],[]=>I ()
 |[t],[x]=>x.to t
 |t::t'::ts,x::xs=>match x.to t with
  |some v=>match toHL (t'::ts) xs with
   |some r=>I (v,r)
   |none=>U
  |none=>U
 |_,_=>U
theorem EE:∀{ts:D Ty}{xs:D TV}{h:HL ts},toHL ts xs=I h->xs=ofHL ts h
 |[],[],_,_=>rfl
 |[],_::_,_,h=>by simp[toHL]at h
 |[_],[],_,h=>by simp[toHL]at h
 |[t],[x],hl,h=>by
  simp only[toHL]at h;rw[lv h];rfl
 |[t],x::y::xs,hl,h=>by simp[toHL]at h
 |_::_::_,[],_,h=>by simp[toHL]at h
 |t::t'::ts,x::xs,hl,h=>by
  simp only[toHL]at h;split at h
  .rename_i v hv;split at h
   .rename_i r hr;simp only[jb]at h;subst h;rw[lv hv,EE hr];rfl
   .simp at h
  .simp at h
def capP:Cap->CPat×D TV
 |.v x=>(.v x.t,[x])
 |.p ls=>(.p (ls.map (·.t)),ls)
def mO:D Cap->D CPat×D TV
 |[]=>([],[])
 |c::cs=>((capP c).1::(mO cs).1,(capP c).2++(mO cs).2)
def tv0:TV:=⟨.unit,()⟩
def capF:CPat->D TV->Cap
 |.v _,xs=> .v (xs.headD tv0)
 |.p ts,xs=> .p (xs.take ts.length)
def CPat.n:CPat->O
 |.v _=>1
 |.p ts=>ts.length
def yu:D CPat->D TV->D Cap
 |[],_=>[]
 |c::cs,xs=>capF c xs::yu cs (xs.drop c.n)
def yw:D CPat->O
 |[]=>0
 |c::cs=>c.n+yw cs
theorem _g(c:Cap)(r:D TV):capF (capP c).1 ((capP c).2++r)=c/\(capP c).1.n=(capP c).2.length:=by
 cases c with
 |v x=>exact⟨rfl,rfl⟩
 |p ls=>simp[capP,capF,CPat.n]
theorem EF:∀(cs:D Cap)(r:D TV),yu (mO cs).1 ((mO cs).2++r)=cs/\yw (mO cs).1=(mO cs).2.length
 |[],r=>⟨rfl,rfl⟩
 |c::cs,r=>by
  simp only[mO,yu,yw,kc,jv];have h1:=_g c ((mO cs).2++r);have h2:=EF cs r;rw[h1.1,h1.2,zp,h2.1,h2.2];exact⟨rfl,rfl⟩
def qO:Leaf->LPat×D TV
 |.dead=>(.dead,[])
 |.nil=>(.nil,[])
 |.d t v=>(.d t,[⟨t,v⟩])
 |.ol k=>(.ol k,[])
 |.bp k c=>(.bp k c,[])
 |.ep k i c=>(.ep k i c,[])
 |.tl k i=>(.tl k,[⟨.int .i64,(i:Æ)⟩])
 |.hd k i=>(.hd k,[⟨.int .i64,(i:Æ)⟩])
 |.ip ls=>(.ip (ls.map (·.t)),ls)
 |.clo f caps=>(.clo f (mO caps).1,(mO caps).2)
 |.clr f ks=>(.clr f ks,[])
def JA:TV->O
 |⟨.int _,v⟩=>Ø v
 |_=>0
def LPat.n:LPat->O
 |.d _=>1
 |.tl _=>1
 |.hd _=>1
 |.ip ts=>ts.length
 |.clo _ cs=>yw cs
 |_=>0
def BT:LPat->D TV->Leaf
 |.dead,_=> .dead
 |.nil,_=> .nil
 |.d _,xs=> .d (xs.headD tv0).t (xs.headD tv0).v
 |.ol k,_=> .ol k
 |.bp k c,_=> .bp k c
 |.ep k i c,_=> .ep k i c
 |.tl k,xs=> .tl k (JA (xs.headD tv0))
 |.hd k,xs=> .hd k (JA (xs.headD tv0))
 |.ip ts,xs=> .ip (xs.take ts.length)
 |.clo f cs,xs=> .clo f (yu cs xs)
 |.clr f ks,_=> .clr f ks
theorem Q7(l:Leaf)(r:D TV):BT (qO l).1 ((qO l).2++r)=l/\(qO l).1.n=(qO l).2.length:=by
 cases l with
 |ip ls=>simp[qO,BT,LPat.n]
 |clo f cs=>have:=EF cs r;simp only[qO,BT,LPat.n];exact⟨by rw[this.1],this.2⟩
 |_=>exact⟨rfl,rfl⟩
def mP:D Leaf->D LPat×D TV
 |[]=>([],[])
 |c::cs=>((qO c).1::(mP cs).1,(qO c).2++(mP cs).2)
def yx:D LPat->D TV->D Leaf
 |[],_=>[]
 |c::cs,xs=>BT c xs::yx cs (xs.drop c.n)
def yy:D LPat->O
 |[]=>0
 |c::cs=>c.n+yy cs
theorem EG:∀(cs:D Leaf)(r:D TV),yx (mP cs).1 ((mP cs).2++r)=cs/\yy (mP cs).1=(mP cs).2.length
 |[],r=>⟨rfl,rfl⟩
 |c::cs,r=>by
  simp only[mP,yx,yy,kc,jv];have h1:=Q7 c ((mP cs).2++r);have h2:=EG cs r;rw[h1.1,h1.2,zp,h2.1,h2.2];exact⟨rfl,rfl⟩
def celP:Cel->KPat×D TV
 |.one l=>(.one (qO l).1,(qO l).2)
 |.st ls=>(.st (mP ls).1,(mP ls).2)
 |.av n a xs=>(.av n a,[⟨.list a,xs⟩])
def BU(a:Ty)(xs:D TV):D a.den:=((xs.headD tv0).to (.list a)).getD []
theorem JB(a:Ty)(xs:D a.den)(r:D TV):BU a (⟨.list a,xs⟩::r)=xs:=by
 simp[BU,TV.to]
def KPat.n:KPat->O
 |.one l=>l.n
 |.st ls=>yy ls
 |.av _ _=>1
def celF:KPat->D TV->Cel
 |.one l,xs=> .one (BT l xs)
 |.st ls,xs=> .st (yx ls xs)
 |.av n a,xs=> .av n a (BU a xs)
theorem _i(c:Cel)(r:D TV):celF (celP c).1 ((celP c).2++r)=c/\(celP c).1.n=(celP c).2.length:=by
 cases c with
 |one l=>have:=Q7 l r;exact⟨by simp only[celP,celF];rw[this.1],this.2⟩
 |st ls=>have:=EG ls r;exact⟨by simp only[celP,celF];rw[this.1],this.2⟩
 |av n a xs=>exact⟨by simp only[celP,celF,Î,qj];rw[JB],rfl⟩
def bsP:BS->BPat×D TV
 |.free=>(.free,[])
 |.gone=>(.gone,[])
 |.live (.cell ls f)=>(.cell (mP ls).1 f,(mP ls).2)
 |.live (.lst e a xs f)=>(.lst e a f,[⟨.list a,xs⟩])
 |.live (.arr n a xs)=>(.arr n a,[⟨.list a,xs⟩])
 |.live (.row e a n ls)=>(.row e a n (mP ls).1,(mP ls).2)
def BPat.n:BPat->O
 |.free|.gone=>0
 |.cell ls _=>yy ls
 |.lst _ _ _=>1
 |.arr _ _=>1
 |.row _ _ _ ls=>yy ls
def bsF:BPat->D TV->BS
 |.free,_=> .free
 |.gone,_=> .gone
 |.cell ls f,xs=> .live (.cell (yx ls xs) f)
 |.lst e a f,xs=> .live (.lst e a (BU a xs) f)
 |.arr n a,xs=> .live (.arr n a (BU a xs))
 |.row e a n ls,xs=> .live (.row e a n (yx ls xs))
theorem _j(c:BS)(r:D TV):bsF (bsP c).1 ((bsP c).2++r)=c/\(bsP c).1.n=(bsP c).2.length:=by
 cases c with
 |free=>exact⟨rfl,rfl⟩
 |gone=>exact⟨rfl,rfl⟩
 |live b=>
  cases b with
  |cell ls f=>have:=EG ls r;exact⟨by simp only[bsP,bsF];rw[this.1],this.2⟩
  |lst e a xs f=>exact⟨by simp only[bsP,bsF,Î,qj];rw[JB],rfl⟩
  |arr n a xs=>exact⟨by simp only[bsP,bsF,Î,qj];rw[JB],rfl⟩
  |row e a n ls=>have:=EG ls r;exact⟨by simp only[bsP,bsF];rw[this.1],this.2⟩
def itP:Item->IPat×D TV
 |.s c=>(.s (celP c).1,(celP c).2)
 |.b x=>(.b (bsP x).1,(bsP x).2)
def IPat.n:IPat->O
 |.s c=>c.n
 |.b x=>x.n
def itF:IPat->D TV->Item
 |.s c,xs=> .s (celF c xs)
 |.b x,xs=> .b (bsF x xs)
theorem Q8(c:Item)(r:D TV):itF (itP c).1 ((itP c).2++r)=c/\(itP c).1.n=(itP c).2.length:=by
 cases c with
 |s c=>have:=_i c r;exact⟨by simp only[itP,itF];rw[this.1],this.2⟩
 |b x=>have:=_j x r;exact⟨by simp only[itP,itF];rw[this.1],this.2⟩
def kU:Snap->D IPat×D TV
 |[]=>([],[])
 |c::cs=>((itP c).1::(kU cs).1,(itP c).2++(kU cs).2)
def wx:D IPat->D TV->Snap
 |[],_=>[]
 |c::cs,xs=>itF c xs::wx cs (xs.drop c.n)
theorem Q9:∀(cs:Snap),wx (kU cs).1 (kU cs).2=cs
 |[]=>rfl
 |c::cs=>by
  simp only[kU,wx];have h1:=Q8 c (kU cs).2;rw[h1.1,h1.2,zp,Q9 cs]
def pack(ps:D IPat)(ts:D Ty)(h:HL ts):Snap:=wx ps (ofHL ts h)
def pE(ps:D IPat)(ts:D Ty)(s:Snap):K (HL ts):=
 if (kU s).1=ps then toHL ts (kU s).2 else U
theorem yz{ps:D IPat}{ts:D Ty}{s:Snap}{h:HL ts}(hs:pE ps ts s=I h):s=pack ps ts h:=by
 unfold pE at hs;split at hs
 .rename_i hp;have:=EE hs;rw[pack,<-this,<-hp,Q9]
 .simp at hs
def argP:Arg->APat×D TV
 |.v x=>(.v x.t,[x])
 |.ref ls=>(.ref (ls.map (·.t)),ls)
 |.rl e x=>(.rl e x.t,[x])
 |.ip ls=>(.ip (ls.map (·.t)),ls)
 |.clo f cs=>(.clo f (mO cs).1,(mO cs).2)
 |.mv e x=>(.mv e x.t,[x])
def APat.n:APat->O
 |.v _=>1
 |.ref ts=>ts.length
 |.rl _ _=>1
 |.ip ts=>ts.length
 |.clo _ cs=>yw cs
 |.mv _ _=>1
def argF:APat->D TV->Arg
 |.v _,xs=> .v (xs.headD tv0)
 |.ref ts,xs=> .ref (xs.take ts.length)
 |.rl e _,xs=> .rl e (xs.headD tv0)
 |.ip ts,xs=> .ip (xs.take ts.length)
 |.clo f cs,xs=> .clo f (yu cs xs)
 |.mv e _,xs=> .mv e (xs.headD tv0)
theorem _k(c:Arg)(r:D TV):argF (argP c).1 ((argP c).2++r)=c/\(argP c).1.n=(argP c).2.length:=by
 cases c with
 |v x=>exact⟨rfl,rfl⟩
 |rl e x=>exact⟨rfl,rfl⟩
 |mv e x=>exact⟨rfl,rfl⟩
 |ref ls=>simp[argP,argF,APat.n]
 |ip ls=>simp[argP,argF,APat.n]
 |clo f cs=>have:=EF cs r;exact⟨by simp only[argP,argF];rw[this.1],this.2⟩
def rW:D Arg->D APat×D TV
 |[]=>([],[])
 |c::cs=>((argP c).1::(rW cs).1,(argP c).2++(rW cs).2)
def EH:D APat->D TV->D Arg
 |[],_=>[]
 |c::cs,xs=>argF c xs::EH cs (xs.drop c.n)
theorem Ra:∀(cs:D Arg),EH (rW cs).1 (rW cs).2=cs
 |[]=>rfl
 |c::cs=>by
  simp only[rW,EH];have h1:=_k c (rW cs).2;rw[h1.1,h1.2,zp,Ra cs]
def qP(ps:D APat)(ts:D Ty)(h:HL ts):D Arg:=EH ps (ofHL ts h)
def EI(ps:D APat)(ts:D Ty)(s:D Arg):K (HL ts):=
 if (rW s).1=ps then toHL ts (rW s).2 else U
theorem _l{ps:D APat}{ts:D Ty}{s:D Arg}{h:HL ts}(hs:EI ps ts s=I h):s=qP ps ts h:=by
 unfold EI at hs;split at hs
 .rename_i hp;have:=EE hs;rw[qP,<-this,<-hp,Ra]
 .simp at hs
theorem JC{α β:Type}{f:α->K (α ⊕ β)}:∀{n m:O}{s:α}{x y:β},loopN f n s=I x->loopN f m s=I y->x=y
 |0,_,_,_,_,h,_=>by simp[loopN]at h
 |_+1,0,_,_,_,_,h=>by simp[loopN]at h
 |n+1,m+1,s,x,y,h,h'=>by
  simp only[loopN]at h h';cases hf:f s with
  |none=>simp[hf]at h
  |some r=>
   cases r with
   |inl s'=>simp only[hf]at h h';exact JC h h'
   |inr z=>simp only[hf,jb]at h h';rw[<-h,<-h']
open Classical in
def loopOpt{α β:Type}(f:α->K (α ⊕ β))(s:α):K β:=
 match loopN f 100000 s with
 |some x=>I x
 |none=>if h:∃x n,loopN f n s=I x then I h.choose else U
theorem BV{α β:Type}{f:α->K (α ⊕ β)}{s:α}{n:O}{x:β}(h:loopN f n s=I x):loopOpt f s=I x:=by
 unfold loopOpt;split
 .rename_i y hy;rw[JC hy h]
 have hx:∃x n,loopN f n s=I x:=⟨x,n,h⟩;rw[dif_pos hx];obtain⟨m,hm⟩:=hx.choose_spec;rw[JC hm h]
theorem BW{α β:Type}{f:α->K (α ⊕ β)}{s:α}{x:β}(h:loopOpt f s=I x):∃n,loopN f n s=I x:=by
 unfold loopOpt at h;split at h
 .rename_i hy;exact⟨100000,by rw[hy,h]⟩
 split at h
 .rename_i hx;simp only[jb]at h;obtain⟨m,hm⟩:=hx.choose_spec;exact⟨m,by rw[<-h];exact hm⟩
 .simp at h
theorem _m{α β:Type}{f:α->K (α ⊕ β)}{s s':α}(h:f s=I (.inl s')):loopOpt f s=loopOpt f s':=by
 cases hq:loopOpt f s' with
 |some x=>obtain⟨n,hn⟩:=BW hq;exact BV (n:=n+1) (by simp only[loopN,h];exact hn)
 |none=>
  cases hp:loopOpt f s with
  |none=>rfl
  |some x=>
   obtain⟨n,hn⟩:=BW hp;cases n with
   |zero=>simp[loopN]at hn
   |succ n=>simp only[loopN,h]at hn;rw[BV hn]at hq;simp at hq
theorem _n{α β:Type}{f:α->K (α ⊕ β)}{s:α}{x:β}(h:f s=I (.inr x)):loopOpt f s=I x:=
 BV (n:=1) (by simp only[loopN,h])
theorem Rb{α β A B:Type}{f:α->K (α ⊕ β)}{g:A->K (A ⊕ B)}{p:A->α}{q:B->β}
  (h:∀a r,g a=I r->f (p a)=I (match r with|.inl a'=> .inl (p a')|.inr b=> .inr (q b))):∀{n:O}{a:A}{x:B},loopN g n a=I x->loopN f n (p a)=I (q x)
 |0,_,_,hn=>by simp[loopN]at hn
 |n+1,a,x,hn=>by
  simp only[loopN]at hn;cases hg:g a with
  |none=>simp[hg]at hn
  |some r=>
   have:=h a r hg;cases r with
   |inl a'=>simp only[hg]at hn;simp only[loopN,this];exact Rb h hn
   |inr b=>simp only[hg,jb]at hn;subst hn;simp only[loopN,this]
def sumC{α β γ:Type}(x:α ⊕ β)(f:α->γ)(g:β->γ):γ:=match x with
 |.inl a=>f a
 |.inr b=>g b
structure XD where
 ex:Ex
 ps:D IPat
 ts:D Ty
@[reducible] def XT:List XD->Type
 |[]=>Empty
 |[x]=>HL x.ts
 |x::y::r=>HL x.ts ⊕ XT (y::r)
def pF:(l:D XD)->XT l->Ex×Snap
 |[],h=>nomatch h
 |[x],h=>(x.ex,pack x.ps x.ts h)
 |x::y::r,h=>match h with
  |.inl a=>(x.ex,pack x.ps x.ts a)
  |.inr b=>pF (y::r) b
def BX{R:Type}:(l:D XD)->XT l->(Ex->Snap->K R)->K R
 |[],_,_=>U
 |[x],h,k=>k x.ex (pack x.ps x.ts h)
 |x::y::r,h,k=>sumC h (λa=>k x.ex (pack x.ps x.ts a)) (λb=>BX (y::r) b k)
theorem JD{R:Type}:∀(l:D XD)(h:XT l)(k:Ex->Snap->K R),BX l h k=k (pF l h).1 (pF l h).2
 |[],h,_=>nomatch h
 |[x],h,k=>rfl
 |x::y::r,h,k=>by
  cases h with
  |inl a=>rfl
  |inr b=>exact JD (y::r) b k
def unX:(l:D XD)->Ex->Snap->K (XT l)
 |[],_,_=>U
 |[x],e,s=>if e=x.ex then pE x.ps x.ts s else U
 |x::y::r,e,s=>if e=x.ex/\(kU s).1=x.ps then match pE x.ps x.ts s with
   |some a=>I (.inl a)
   |none=>U
  else match unX (y::r) e s with
   |some b=>I (.inr b)
   |none=>U
theorem EJ:∀(l:D XD)(e:Ex)(s:Snap)(x:XT l),unX l e s=I x->pF l x=(e,s)
 |[],_,_,_,h=>by simp[unX]at h
 |[x],e,s,h,he=>by
  simp only[unX]at he;split at he
  .rename_i h1;rw[pF,<-yz he,h1]
  .simp at he
 |x::y::r,e,s,h,he=>by
  simp only[unX]at he;split at he
  .rename_i h1;split at he
   .rename_i a ha;simp only[jb]at he;subst he;show (x.ex,pack x.ps x.ts a)=(e,s);rw[<-yz ha,h1.1]
   .simp at he
  .split at he
   .rename_i b hb;simp only[jb]at he;subst he;exact EJ (y::r) e s b hb
   .simp at he
structure kV where
 b:O
 ps:D IPat
 ts:D Ty
 exits:D XD
 step:HL ts->K (HL ts ⊕ XT exits)
def ub:D kV->O->Snap->(R:Type)->(Ex->Snap->K R)->K R
 |[],_,_,_,_=>U
 |d::ds,b,s,R,k=>if d.b=b then match pE d.ps d.ts s with
   |some h=>(loopOpt d.step h).bind λx=>BX d.exits x k
   |none=>U
  else ub ds b s R k
theorem JE:∀ds:D kV,LFun (ub ds)
 |[]=>λ_ _=>⟨U,λ_ _=>rfl⟩
 |d::ds=>λb s=>by
  simp only[ub];split
  .split
   .rename_i h _;cases hq:loopOpt d.step h with
    |none=>exact⟨U,λ_ _=>rfl⟩
    |some x=>exact⟨I (pF d.exits x),λR k=>JD d.exits x k⟩
   .exact⟨U,λ_ _=>rfl⟩
  .exact JE ds b s
structure MrD where
 b:O
 m:O
 nm:O
 ps:D IPat
 ts:D Ty
 em:O
 v:Ty
 G:HL ts->Æ->v.den->(R:Type)->(v.den->K R)->K R
def mrL:D MrD->O->Snap->(R:Type)->(Snap->K R)->K R
 |[],_,_,_,_=>U
 |d::ds,b,s,R,k=>if d.b=b then match pE d.ps d.ts s,sT d.em d.v s with
   |some h,I xs=>(re (λq z=>d.G h q z d.v.den I) xs).bind λys=>k (iK s d.em d.v ys)
   |_,_=>U
  else mrL ds b s R k
def mrF:D MrD->O->K (O×O)
 |[],_=>U
 |d::ds,b=>if d.b=b then I (d.m,d.nm) else mrF ds b
theorem JF:∀ds:D MrD,MFun (mrL ds)
 |[]=>λ_ _=>⟨U,λ_ _=>rfl⟩
 |d::ds=>λb s=>by
  simp only[mrL];split
  .split
   .rename_i h xs _ _;cases re (λq z=>d.G h q z d.v.den I) xs with
    |none=>exact⟨U,λ_ _=>rfl⟩
    |some ys=>exact⟨I (iK s d.em d.v ys),λ_ _=>rfl⟩
   .exact⟨U,λ_ _=>rfl⟩
  .exact JF ds b s
theorem Rc{b m nm:O}:∀{ds:D MrD},mrF ds b=I (m,nm)->∃d∈ds,d.b=b/\d.m=m/\d.nm=nm/\∀s R k,mrL ds b s R k=match pE d.ps d.ts s,sT d.em d.v s with
   |some h,I xs=>(re (λq z=>d.G h q z d.v.den I) xs).bind λys=>k (iK s d.em d.v ys)
   |_,_=>U
 |[],h=>by simp[mrF]at h
 |d::ds,h=>by
  simp only[mrF]at h;split at h
  .rename_i hb;simp only[jb,jf]at h;refine⟨d,af,hb,h.1,h.2,λs R k=>?_⟩;simp only[mrL,hb,if_true]
  .rename_i hb;obtain⟨d',hm,h1,h2,h3,h4⟩:=Rc h;refine⟨d',by simp[hm],h1,h2,h3,λs R k=>?_⟩;rw[<-h4];simp only[mrL,hb,z8]
def mrPd(b:O)(c:Ï):MrP:=(mrP b c).getD ⟨0,0,0,0,0, #[],.skip⟩
structure JG(E:Env)(c:Ï)(d:MrD):Prop where
 em:isM d.em=Â
 bx:∀h zs,(cR E.np (E.keep d.b) (iK (pack d.ps d.ts h) d.em d.v zs)).bx d.nm = .live (.lst d.em (.pair (.int .i64) d.v) zs Z)
 sl:∀h zs,(cR E.np (E.keep d.b) (iK (pack d.ps d.ts h) d.em d.v zs)).sl d.m = .one (.one (.ol d.nm))
 step:∀h zs q z (R:Type) (k:Snap->K R),zV E d.b (mrPd d.b c) d.m (iK (pack d.ps d.ts h) d.em d.v zs) d.v q z k=
  d.G h q z R (λy=>k (iK (pack d.ps d.ts h) d.em d.v (@lk _ _ (Ty.int .i64).keq zs q y)))
theorem _o(t:Ty)(v:t.den):(TV.mk t v).to t=I v:=by simp[TV.to]
theorem _p(s:Snap)(em:O)(v:Ty)(zs:D (Æ×v.den)):sT em v (iK s em v zs)=I zs:=by
 unfold sT iK;simp only[List.getLast?_append,List.getLast?_singleton,Option.some_or,if_true];exact _o (.list (.pair (.int .i64) v)) zs
theorem _q{em:O}{v:Ty}{s:Snap}{xs:D (Æ×v.den)}(h:sT em v s=I xs):s=iK s em v xs:=by
 unfold sT at h;split at h
 .rename_i e a zs hl;split at h
  .rename_i he;subst he;have:=lv h;cases this;obtain⟨pre,rfl⟩:=List.getLast?_eq_some_iff.1 hl;unfold iK;rw[List.dropLast_concat]
  .simp at h
 .simp at h
theorem Re{α β:Type}{G:α->β->K β}:∀{xs ys:D (α×β)},re G xs=I ys->All2 (λx y=>y.1=x.1/\G x.1 x.2=I y.2) xs ys
 |[],ys,h=>by
  simp only[re,jb]at h;subst h;trivial
 |x::r,ys,h=>by
  simp only[re]at h;cases hg:G x.1 x.2 with
  |none=>rw[hg]at h;simp at h
  |some z=>
   rw[hg,ja]at h;cases hr:re G r with
   |none=>rw[hr]at h;simp at h
   |some r'=>rw[hr,ja,jb]at h;subst h;exact⟨⟨rfl,hg⟩,Re hr⟩
theorem _r{E:Env}(hF:CFun E.C)(hz:E.nz=Z)(hL:LFun E.L/\MFun E.M){c:Ï}{ds:D MrD}{b:O}(hm:E.mr=mrF ds)(hM:E.M=mrL ds)(hs:∀d∈ds,d.b=b->JG E c d):MrOK E b c:=by
 intro m nm p hb hp s R k r h;rw[hm]at hb;obtain⟨d,hd,rfl,rfl,rfl,he⟩:=Rc hb;have bA:=hs d hd rfl;rw[hM,he]at h;split at h
 case h_2=>simp at h
 rename_i hh xs hu hg;cases hq:re (λq z=>d.G hh q z d.v.den I) xs with
 |none=>rw[hq]at h;simp at h
 |some ys=>
 rw[hq,ja]at h;obtain rfl:=yz hu;have _s:mrPd d.b c=p:=by unfold mrPd;rw[hp];rfl
 refine⟨d.em,d.v,xs,ys,bA.em,_q hg,λzs=>⟨bA.bx hh zs,bA.sl hh zs⟩,(Re hq).mono λx y BZ=>⟨BZ.1,λzs=>?_⟩,h⟩;obtain⟨o,ho⟩:=_d hF hz hL d.b p d.m (iK (pack d.ps d.ts hh) d.em d.v []) d.v x.1 x.2;have aL:=λzs R k=>bA.step hh zs x.1 x.2 R k;rw[_s]at aL
 let inv:Snap->d.v.den:=λs=>match sT d.em d.v s with
  |some ((_,y)::_)=>y
  |_=>d.v.dflt
 have hinv:∀y,inv (iK (pack d.ps d.ts hh) d.em d.v (@lk _ _ (Ty.int .i64).keq [] x.1 y))=y:=λy=>by
  show (match sT d.em d.v _ with
   |some ((_,y)::_)=>y
   |_=>d.v.dflt)=y
  rw[_p];rfl
 have hG:∀(R:Type)(κ:d.v.den->K R),d.G hh x.1 x.2 R κ=o.bind λs=>κ (inv s):=λR κ=>by
  rw[<-ho];show _=zV E d.b p d.m (iK (pack d.ps d.ts hh) d.em d.v []) d.v x.1 x.2 λs=>κ (inv s);rw[aL];congr 1;funext y;rw[hinv]
 rw[aL,hG];have h2:=BZ.2;rw[hG]at h2;cases o with
 |none=>simp at h2
 |some s0=>rw[ja,jb]at h2;rw[ja,h2]
def mrAt(c:Ï)(b:O):Code:=(((dP 0 c).find? λx=>Nat.beq x.1 b).getD (0,.skip)).2
def wy(E:Env)(c:Ï):D MrD->Prop
 |[]=>ã
 |d::ds=>JG E (mrAt c d.b) d/\wy E c ds
theorem wy.get{E:Env}{c:Ï}:∀{ds:D MrD},wy E c ds->∀d∈ds,JG E (mrAt c d.b) d
 |[],_,d,h=>by simp at h
 |x::r,hs,d,h=>by
  rcases jm.1 h with rfl|h
  .exact hs.1
  .exact wy.get hs.2 d h
theorem Rf:∀{l:D (O×Ï)}{x:O×Ï},(l.map (·.1)).Nodup->x∈l->l.find? (λy=>Nat.beq y.1 x.1)=I x
 |[],x,_,h=>by simp at h
 |y::r,x,hn,h=>by
  have hc:=qt.1 (show (y.1::r.map (·.1)).Nodup from hn);rcases jm.1 h with rfl|h
  .rw[Þ,Nat.beq_refl]
  .have br:y.1≠x.1:=λe=>hc.1 (e▸qg.2 ⟨x,h,rfl⟩);rw[Þ,beqF br];exact Rf hc.2 h
def uk(E:Env)(d:kV)(e:Ex)(σ:St):K (HL d.ts ⊕ XT d.exits):=
 match e with
 |.normal=>match il E.np (E.keep d.b) σ with
  |some s=>match pE d.ps d.ts s with
   |some h=>I (.inl h)
   |none=>U
  |none=>U
 |e=>match il E.np (E.keepX d.b e) σ with
  |some s=>match unX d.exits e s with
   |some x=>I (.inr x)
   |none=>U
  |none=>U
def ukR(E:Env)(d:kV)(ps:Õ O)(x y:Ï)(p:K (D Item))(e:Ex)(σ:St):K (HL d.ts ⊕ XT d.exits):=
 match p,e with
 |some q,.normal=>match il E.np (E.keep d.b) σ with
  |some s=>match pE d.ps d.ts (q++s) with
   |some h=>I (.inl h)
   |none=>U
  |none=>U
 |_,e=>cond (pinK ps x y (E.keepX d.b e)) (match il E.np (E.keepX d.b e) σ with
  |some s=>match unX d.exits e s with
   |some x=>I (.inr x)
   |none=>U
  |none=>U) U
def _t(E:Env)(d:kV)(h:HL d.ts):Ï->K (HL d.ts ⊕ XT d.exits)
 |.rangeFunc g ps x y=>zU E d.b g ps x y (pack d.ps d.ts h) (ukR E d ps x y)
 |c=>eD E d.b c (cR E.np (E.keep d.b) (pack d.ps d.ts h)) (uk E d)
def EK(E:Env)(c:Ï)(d:kV):Prop:=∀h,_t E d h c=d.step h
def outS(d:kV)(r:HL d.ts ⊕ XT d.exits):Snap ⊕ Ex×Snap:=match r with
 |.inl a=> .inl (pack d.ps d.ts a)
 |.inr x=> .inr (pF d.exits x)
theorem _u{E:Env}(hF:CFun E.C)(hz:E.nz=Z)(hL:LFun E.L/\MFun E.M){g:Operand}{ps:Õ O}{x y:Ï}{d:kV}(hs:EK E (.rangeFunc g ps x y) d)(h:HL d.ts)(r:HL d.ts ⊕ XT d.exits):d.step h=I r->
  xB E d.b g ps x y (pack d.ps d.ts h)=I (outS d r):=by
 intro hr;obtain⟨o,ho⟩:=_c hF hz hL d.b g ps x y (pack d.ps d.ts h);rw[<-hs h]at hr;have h1:I r=_:=hr.symm.trans (ho _ (λz=>ukR E d ps x y z.1 z.2.1 z.2.2));cases o with
 |none=>simp at h1
 |some z=>
  obtain⟨p,e,σ⟩:=z;simp only[ja]at h1
  have h2:=ho _ (λz:K (D Item)×Ex×St=>match z.1,z.2.1 with
   |some q,.normal=>match il E.np (E.keep d.b) z.2.2 with
    |some s'=>I (Sum.inl (q++s'))
    |none=>U
   |_,e=>cond (pinK ps x y (E.keepX d.b e)) (match il E.np (E.keepX d.b e) z.2.2 with
    |some s'=>I (Sum.inr (e,s'))
    |none=>U) U)
  have h3:xB E d.b g ps x y (pack d.ps d.ts h)=_:=h2;rw[h3,ja];clear h3 h2 hr ho;dsimp only;have h1:=h1.symm;unfold ukR at h1
  have hx:∀e,(cond (pinK ps x y (E.keepX d.b e)) (match il E.np (E.keepX d.b e) σ with
    |some s=>match unX d.exits e s with
     |some x=>I (Sum.inr x)
     |none=>U
    |none=>U) U:K (HL d.ts ⊕ XT d.exits))=I r->(cond (pinK ps x y (E.keepX d.b e)) (match il E.np (E.keepX d.b e) σ with
    |some s'=>I (Sum.inr (e,s'))
    |none=>U) U:K (Snap ⊕ Ex×Snap))=I (outS d r):=by
   intro e h1;cases hp:pinK ps x y (E.keepX d.b e) with
   |false=>rw[hp]at h1;simp at h1
   |true=>
    rw[hp,jc]at h1;rw[jc];split at h1
    .rename_i s eU;split at h1
     .rename_i hh hu;simp only[jb]at h1;subst h1;simp only[outS];rw[EJ _ _ _ _ hu]
     .simp at h1
    .simp at h1
  cases p with
  |none=>exact hx e h1
  |some q=>
   cases e with
   |normal=>
    dsimp only at h1 ⊢
    split at h1
    .rename_i s eU;split at h1
     .rename_i hh hu;simp only[jb]at h1;subst h1;simp only[outS];rw[<-yz hu]
     .simp at h1
    .simp at h1
   |exit i=>exact hx _ h1
   |ret=>exact hx _ h1
theorem _v{E:Env}(hF:CFun E.C)(hz:E.nz=Z)(hL:LFun E.L/\MFun E.M){c:Ï}{d:kV}(hs:∀h,eD E d.b c (cR E.np (E.keep d.b) (pack d.ps d.ts h)) (uk E d)=d.step h)(h:HL d.ts)(r:HL d.ts ⊕ XT d.exits):d.step h=I r->
  uJ E d.b c (pack d.ps d.ts h)=I (match r with|.inl a=> .inl (pack d.ps d.ts a)|.inr x=> .inr (pF d.exits x)):=by
 intro hr;obtain⟨o,ho⟩:=BR hF hz hL c d.b (cR E.np (E.keep d.b) (pack d.ps d.ts h));rw[<-hs h]at hr;have h1:I r=_:=hr.symm.trans (ho _ (λz=>uk E d z.1 z.2));cases o with
 |none=>simp at h1
 |some z=>
  obtain⟨e,σ⟩:=z;simp only[ja]at h1
  have h2:=ho _ (λz:Ex×St=>match z.1 with
   |.normal=>match il E.np (E.keep d.b) z.2 with
    |some s'=>I (Sum.inl s')
    |none=>U
   |e=>match il E.np (E.keepX d.b e) z.2 with
    |some s'=>I (Sum.inr (e,s'))
    |none=>U)
  have h3:uJ E d.b c (pack d.ps d.ts h)=_:=h2;rw[h3,ja];clear h3 h2 hr ho;dsimp only;have h1:=h1.symm;unfold uk at h1;cases e with
  |normal=>
   dsimp only at h1 ⊢
   split at h1
   .rename_i s eU;split at h1
    .rename_i hh hu;simp only[jb]at h1;subst h1;dsimp only;rw[<-yz hu]
    .simp at h1
   .simp at h1
  |exit i=>
   dsimp only at h1 ⊢
   split at h1
   .rename_i s eU;split at h1
    .rename_i hh hu;simp only[jb]at h1;subst h1;dsimp only;rw[EJ _ _ _ _ hu]
    .simp at h1
   .simp at h1
  |ret=>
   dsimp only at h1 ⊢
   split at h1
   .rename_i s eU;split at h1
    .rename_i hh hu;simp only[jb]at h1;subst h1;dsimp only;rw[EJ _ _ _ _ hu]
    .simp at h1
   .simp at h1
theorem _w{E:Env}(hF:CFun E.C)(hz:E.nz=Z)(hL:LFun E.L/\MFun E.M){c:Ï}{d:kV}(hs:EK E c d)
  (he:∀s R k,E.L d.b s R k=match pE d.ps d.ts s with|some h=>(loopOpt d.step h).bind λx=>BX d.exits x k|none=>U):yj E d.b c:=by
 intro s R k r h;rw[he]at h;split at h
 .rename_i hl hu;cases hq:loopOpt d.step hl with
  |none=>simp[hq]at h
  |some x=>
   rw[hq,ja,JD]at h;obtain⟨n,hn⟩:=BW hq;refine⟨n,(pF d.exits x).1,(pF d.exits x).2,?_,h⟩;rw[yz hu]
   exact Rb (f:=Hc E d.b c) (p:=pack d.ps d.ts) (q:=pF d.exits) (λa r hr=>by
    cases c with
    |rangeFunc g ps x y=>have:=_u hF hz hL hs a r hr;cases r<;>exact this
    |_=>have:=_v hF hz hL hs a r hr;cases r<;>exact this) hn
 .simp at h
def lpAt(c:Ï)(j:O):Code:=((dP 0 c).getD j (0,.skip)).2
def uc(E:Env)(c:Ï):O->D kV->Prop
 |_,[]=>ã
 |j,d::ds=>EK E (lpAt c j) d/\uc E c (j+1) ds
theorem uc.get{E:Env}{c:Ï}:∀{ds:D kV}{i j:O}{d:kV},uc E c i ds->ds[j]? = I d->EK E (lpAt c (i+j)) d
 |[],_,_,_,_,h=>by simp at h
 |x::xs,i,0,d,hs,h=>by simp at h;subst h;exact hs.1
 |x::xs,i,j+1,d,hs,h=>by
  have:=uc.get (i:=i+1) (j:=j) hs.2 (by simpa using h);rwa[show i+(j+1)=i+1+j by omega]
theorem Rg:∀{ds:D kV}{j:O}{d:kV},mB (ds.map (·.b))=Â->ds[j]? = I d->∀s R k,ub ds d.b s R k=match pE d.ps d.ts s with|some h=>(loopOpt d.step h).bind λx=>BX d.exits x k|none=>U
 |[],_,_,_,h=>by simp at h
 |x::xs,0,d,_,h=>by simp at h;subst h;intro s R k;simp only[ub,if_true]
 |x::xs,j+1,d,hn,h=>by
  simp only[qq,mB,jh,qb,qe,kg]at hn;have hm:d∈xs:=kb (by simpa using h);have br:x.b≠d.b:=λe=>hn.1 (e▸qg.2 ⟨d,hm,rfl⟩);intro s R k;simp only[ub,br,z8];exact Rg (j:=j) hn.2 (by simpa using h) s R k
theorem _x{E:Env}(hF:CFun E.C)(hz:E.nz=Z){c:Ï}{ds:D kV}(hE:E.L=ub ds)(hm:(dP 0 c).map (·.1)=ds.map (·.b))(hn:mB (ds.map (·.b))=Â)(hs:uc E c 0 ds){ms:D MrD}(I9:E.mr=mrF ms)(hM:E.M=mrL ms)(B0:wy E c ms) :
  ∀x∈dP 0 c,yj E x.1 x.2/\MrOK E x.1 x.2:=by
 intro x hx;have Rh:LFun E.L/\MFun E.M:=⟨hE▸JE ds,hM▸JF ms⟩;have dA:((dP 0 c).map (·.1)).Nodup:=hm▸vG hn;refine⟨?_,_r hF hz Rh I9 hM λd hd hb=>?_⟩
 rotate_left
 .have:=B0.get d hd;unfold mrAt at this;rw[hb,Rf dA hx]at this;exact this
 obtain⟨j,hj⟩:=ze.1 hx;have tR:(ds.map (·.b))[j]? = I x.1:=by rw[<-hm];simp[hj]
 rw[qm]at tR;cases hd:ds[j]? with
 |none=>simp[hd]at tR
 |some d=>
  simp only[hd,qa,jb]at tR;have h1:=uc.get hs hd;rw[ke]at h1;have h2:lpAt c j=x.2:=by simp[lpAt,Ù,hj]
  rw[h2]at h1;have:=_w (E:=E) hF hz Rh h1 (λs R k=>by rw[hE];exact Rg hn hd s R k);rwa[tR]at this
inductive VPat where
 |v (t:Ty)
 |own (e:O) (t:Ty)
 |box (ts:D Ty)
 |hd
 |vn (t:Ty) (ns:D O)
 |clo (f:O) (caps:D CPat)
 |so (ls:D (K O×Ty))
 |raw (ns:D O) (ps:D IPat)
 deriving Ç
inductive OPat where
 |ref (ts:D Ty)
 |rl (t:Ty)
 deriving Ç
def rlP:RL->(K O×Ty)×TV
 |.d x=>((U,x.t),x)
 |.own e x=>((I e,x.t),x)
def rlsF:D (K O×Ty)->D TV->D RL
 |[],_=>[]
 |(U,_)::ps,xs=> .d (xs.headD tv0)::rlsF ps xs.tail
 |(I e,_)::ps,xs=> .own e (xs.headD tv0)::rlsF ps xs.tail
theorem JH:∀(ls:D RL)(r:D TV),rlsF (ls.map λl=>(rlP l).1) ((ls.map λl=>(rlP l).2)++r)=ls
 |[],r=>rfl
 |.d x::ls,r=>by
  have:=JH ls r;show RL.d _::rlsF _ (_++r)=_;rw[this];rfl
 |.own e x::ls,r=>by
  have:=JH ls r;show RL.own e _::rlsF _ (_++r)=_;rw[this];rfl
def EL:D IPat->O
 |[]=>0
 |c::cs=>c.n+EL cs
theorem JI:∀(cs:Snap)(r:D TV),wx (kU cs).1 ((kU cs).2++r)=cs/\EL (kU cs).1=(kU cs).2.length
 |[],r=>⟨rfl,rfl⟩
 |c::cs,r=>by
  simp only[kU,wx,EL,kc,jv];have h1:=Q8 c ((kU cs).2++r);have h2:=JI cs r;rw[h1.1,h1.2,zp,h2.1,h2.2];exact⟨rfl,rfl⟩
def rvP:RV->VPat×D TV
 |.v x=>(.v x.t,[x])
 |.own e x=>(.own e x.t,[x])
 |.box ls=>(.box (ls.map (·.t)),ls)
 |.hd n=>(.hd,[⟨.int .i64,(n:Æ)⟩])
 |.vn x ns=>(.vn x.t ns,[x])
 |.clo f caps=>(.clo f (mO caps).1,(mO caps).2)
 |.so ls=>(.so (ls.map λl=>(rlP l).1),ls.map λl=>(rlP l).2)
 |.raw ns s=>(.raw ns (kU s).1,(kU s).2)
def VPat.n:VPat->O
 |.v _=>1
 |.own _ _=>1
 |.box ts=>ts.length
 |.hd=>1
 |.vn _ _=>1
 |.clo _ cs=>yw cs
 |.so ls=>ls.length
 |.raw _ ps=>EL ps
def rvF:VPat->D TV->RV
 |.v _,xs=> .v (xs.headD tv0)
 |.own e _,xs=> .own e (xs.headD tv0)
 |.box ts,xs=> .box (xs.take ts.length)
 |.hd,xs=> .hd (JA (xs.headD tv0))
 |.vn _ ns,xs=> .vn (xs.headD tv0) ns
 |.clo f cs,xs=> .clo f (yu cs xs)
 |.so ls,xs=> .so (rlsF ls xs)
 |.raw ns ps,xs=> .raw ns (wx ps xs)
theorem _y(c:RV)(r:D TV):rvF (rvP c).1 ((rvP c).2++r)=c/\(rvP c).1.n=(rvP c).2.length:=by
 cases c with
 |v x=>exact⟨rfl,rfl⟩
 |own e x=>exact⟨rfl,rfl⟩
 |hd n=>exact⟨rfl,rfl⟩
 |vn x ns=>exact⟨rfl,rfl⟩
 |box ls=>simp[rvP,rvF,VPat.n]
 |clo f cs=>have:=EF cs r;simp only[rvP,rvF,VPat.n];exact⟨by rw[this.1],this.2⟩
 |so ls=>exact⟨by simp only[rvP,rvF];rw[JH],by simp[rvP,VPat.n]⟩
 |raw ns s=>exact⟨by simp only[rvP,rvF];rw[(JI s r).1],(JI s r).2⟩
def outP:Out->OPat×D TV
 |.ref ls=>(.ref (ls.map (·.t)),ls)
 |.rl x=>(.rl x.t,[x])
def OPat.n:OPat->O
 |.ref ts=>ts.length
 |.rl _=>1
def outF:OPat->D TV->Out
 |.ref ts,xs=> .ref (xs.take ts.length)
 |.rl _,xs=> .rl (xs.headD tv0)
theorem _z(c:Out)(r:D TV):outF (outP c).1 ((outP c).2++r)=c/\(outP c).1.n=(outP c).2.length:=by
 cases c with
 |rl x=>exact⟨rfl,rfl⟩
 |ref ls=>simp[outP,outF,OPat.n]
def rvsP:D RV->D VPat×D TV
 |[]=>([],[])
 |c::cs=>((rvP c).1::(rvsP cs).1,(rvP c).2++(rvsP cs).2)
def rvsF:D VPat->D TV->D RV
 |[],_=>[]
 |c::cs,xs=>rvF c xs::rvsF cs (xs.drop c.n)
def rvsN:D VPat->O
 |[]=>0
 |c::cs=>c.n+rvsN cs
theorem JJ:∀(cs:D RV)(r:D TV),rvsF (rvsP cs).1 ((rvsP cs).2++r)=cs/\rvsN (rvsP cs).1=(rvsP cs).2.length
 |[],r=>⟨rfl,rfl⟩
 |c::cs,r=>by
  simp only[rvsP,rvsF,rvsN,kc,jv];have h1:=_y c ((rvsP cs).2++r);have h2:=JJ cs r;rw[h1.1,h1.2,zp,h2.1,h2.2];exact⟨rfl,rfl⟩
def ud:D Out->D OPat×D TV
 |[]=>([],[])
 |c::cs=>((outP c).1::(ud cs).1,(outP c).2++(ud cs).2)
def EM:D OPat->D TV->D Out
 |[],_=>[]
 |c::cs,xs=>outF c xs::EM cs (xs.drop c.n)
theorem Ri:∀(cs:D Out)(r:D TV),EM (ud cs).1 ((ud cs).2++r)=cs
 |[],r=>rfl
 |c::cs,r=>by
  simp only[ud,EM,kc];have h1:=_z c ((ud cs).2++r);rw[h1.1,h1.2,zp,Ri cs r]
structure RPat where
 vs:D VPat
 os:D OPat
 deriving Ç
def B1(rp:RPat)(ts:D Ty)(h:HL ts):Ret:=⟨rvsF rp.vs (ofHL ts h),EM rp.os ((ofHL ts h).drop (rvsN rp.vs))⟩
def EN(rp:RPat)(ts:D Ty)(r:Ret):K (HL ts):=
 if (rvsP r.vals).1=rp.vs/\(ud r.outs).1=rp.os then toHL ts ((rvsP r.vals).2++(ud r.outs).2) else U
theorem _A{rp:RPat}{ts:D Ty}{r:Ret}{h:HL ts}(hs:EN rp ts r=I h):r=B1 rp ts h:=by
 unfold EN at hs;split at hs
 .rename_i hp;have:=EE hs;unfold B1;rw[<-this,<-hp.1,<-hp.2,(JJ r.vals _).1,(JJ r.vals []).2,zp];have h2:=Ri r.outs [];rw[zh]at h2;rw[h2]
 .simp at hs
structure Con where
 f:O
 ps:D APat
 ts:D Ty
 rp:RPat
 rs:D Ty
 F:HL ts->K (HL rs)
def Con.C(c:Con)(args:D Arg)(R:Type)(k:Ret->K R):K R:=
 match EI c.ps c.ts args with
 |some h=>(c.F h).bind λx=>k (B1 c.rp c.rs x)
 |none=>U
def Con.OK(P:Ã)(c:Con):Prop:=FnOK P c.f c.C
def wz{α:Type}(a b:K α):K α:=match a with
 |some x=>I x
 |none=>b
theorem _B{P:Ã}{f:O}{ps:D APat}{ts:D Ty}{rp:RPat}{rs:D Ty}{F G:HL ts->K (HL rs)}(h1:Con.OK P ⟨f,ps,ts,rp,rs,F⟩)(h2:Con.OK P ⟨f,ps,ts,rp,rs,G⟩) :
  Con.OK P ⟨f,ps,ts,rp,rs,λh=>wz (F h) (G h)⟩:=by
 intro args R k r hk;unfold Con.C at hk;split at hk
 .rename_i h hu;have e1:=h1 args R k r;have e2:=h2 args R k r;unfold Con.C at e1 e2;simp only[hu]at e1 e2;cases hF:F h with
  |none=>simp only[wz,hF]at hk;exact e2 hk
  |some x=>simp only[wz,hF]at hk;rw[hF]at e1;exact e1 hk
 .simp at hk
def conC:D Con->O->D Arg->(R:Type)->(Ret->K R)->K R
 |[],_,_,_,_=>U
 |c::cs,f,args,R,k=>if c.f=f then (if (rW args).1=c.ps then c.C args R k else conC cs f args R k) else conC cs f args R k
theorem JK{P:Ã}{f:O}:FnOK P f (λ_ _ _=>U):=by
 intro args R k r h;simp at h
def EO(P:Ã):D Con->Prop
 |[]=>ã
 |c::cs=>c.OK P/\EO P cs
theorem Rj{P:Ã}:∀cs:D Con,EO P cs->iQ P (conC cs)
 |[],_,_=>JK
 |c::cs,h,f=>by
  have ih:=Rj cs h.2 f;intro args R k r hk;simp only[conC]at hk;split at hk
  .rename_i hf;subst hf;split at hk
   .exact h.1 args R k r hk
   .exact ih args R k r hk
  .exact ih args R k r hk
theorem Rk:∀cs:D Con,CFun (conC cs)
 |[]=>λ_ _=>⟨U,λ_ _=>rfl⟩
 |c::cs=>λf args=>by
  have ih:=Rk cs f args;simp only[conC];split
  .split
   .unfold Con.C;split
    .rename_i h _;cases hq:c.F h with
     |none=>exact⟨U,λ_ _=>rfl⟩
     |some x=>exact⟨I (B1 c.rp c.rs x),λ_ _=>rfl⟩
    .exact⟨U,λ_ _=>rfl⟩
   .exact ih
  .exact ih
def Rl:D (O×Keep)->O->Keep
 |[],_=>⟨[],[],[],[]⟩
 |x::r,b=>if x.1=b then x.2 else Rl r b
def Rm:D (O×Ex×Keep)->O->Ex->Keep
 |[],_,_=>⟨[],[],[],[]⟩
 |x::r,b,e=>if x.1=b/\x.2.1=e then x.2.2 else Rm r b e
def Rn:D (O×D Å)->O->D Å
 |[],_=>[]
 |x::r,b=>if x.1=b then x.2 else Rn r b
def dwL:D (O×D (D O))->O->D (D O)
 |[],_=>[]
 |x::r,b=>if x.1=b then x.2 else dwL r b
def bwL:D (O×(Å×Ty))->O->K (Å×Ty)
 |[],_=>U
 |x::r,f=>if x.1=f then I x.2 else bwL r f
def EP(P:Ã):D (O×(Å×Ty))->Prop
 |[]=>ã
 |x::r=>BwK P x.1 x.2/\EP P r
theorem Ro{P:Ã}:∀{l:D (O×(Å×Ty))},EP P l->∀f t,bwL l f=I t->BwK P f t
 |[],_,f,t,h=>by simp[bwL]at h
 |x::r,hl,f,t,h=>by
  simp only[bwL]at h;split at h
  .rename_i e;simp only[jb]at h;rw[<-e,<-h];exact hl.1
  .exact Ro hl.2 f t h
structure FnD where
 N:O
 np:O
 cs:D Con:=[]
 ds:D kV:=[]
 modes:D (O×D Å):=[]
 keep:D (O×Keep):=[]
 keepX:D (O×Ex×Keep):=[]
 ro:D Bool:=[]
 dw:D (O×D (D O)):=[]
 hd:Bool:=Z
 ns:D Nat:=[]
 bw:D (O×(Å×Ty)):=[]
 so:D SoK:=[]
 cr:D Nat:=[]
 un:D Nat:=[]
 unr:Nat:=2
 pre:D (O×D Gh):=[]
 rw:Bool:=Z
 rn:D Nat:=[]
 b1:D Nat:=[]
 ks:D Nat:=[]
 ms:D MrD:=[]
 mvf:D Nat:=[]
 pa:D (O×O×Ty):=[]
 sc:Bool:=Z
def paL:D (O×O×Ty)->O->K (O×Ty)
 |[],_=>U
 |x::r,i=>if x.1=i then I x.2 else paL r i
def preL:D (O×D Gh)->O->D Gh
 |[],_=>[]
 |x::r,i=>if x.1=i then x.2 else preL r i
def FnD.env(d:FnD)(T:D (K TyI)):Env:=⟨⟨d.N,λ_=>Z⟩,d.np,tab T,conC d.cs,Rn d.modes,ub d.ds,Rl d.keep,Rm d.keepX,d.ro,dwL d.dw,Z,d.hd,d.ns,bwL d.bw,d.so,d.cr,λb=>cond (d.un.contains b) d.unr 0,preL d.pre,d.rw,d.rn,d.b1,λi=>d.ks.contains i,λf=>d.mvf.contains f,mrF d.ms,mrL d.ms,paL d.pa,d.sc,0⟩
theorem _C{P:Ã}{T:D (K TyI)}(hT:ca P (tab T))(gX:P.follows .mixedOrders=Â)(d:FnD)(iz:Con)(fn:è)(c:Ï)(hf:P.funcs[iz.f]? = I fn)(hb:fn.body=I c)
  (hN : fn.ntmps = d.N) (BP : d.np ≤ d.N) (bO : (fn.name == "runtime.NumGoroutine") = Z) (dR : EO P d.cs) (hm : (dP 0 c).map (·.1) = d.ds.map (·.b)) (hn : mB (d.ds.map (·.b)) = Â)
  (hs:uc (d.env T) c 0 d.ds)(hF:∀h,sU (d.env T) fn (qP iz.ps iz.ts h) (EN iz.rp iz.rs)=iz.F h)(gF:EP P d.bw:=by trivial)(B0:wy (d.env T) c d.ms:=by trivial):iz.OK P:=by
 have hC:iQ P (d.env T).C:=Rj d.cs dR;have wA:CFun (d.env T).C:=Rk d.cs;have hL:LFun (d.env T).L/\MFun (d.env T).M:=⟨JE d.ds,JF d.ms⟩;have AM:=ZZ (E:=d.env T) hT hC wA gX hf hb hN rfl (Ro gF) BP bO (_x wA rfl rfl hm hn hs rfl rfl B0);intro args R k r hk;unfold Con.C at hk;split at hk
 .rename_i h hu;rw[_l hu];cases hq:iz.F h with
  |none=>simp[hq]at hk
  |some x=>
   rw[hq,ja]at hk;refine AM _ R k r ?_;obtain⟨o,ho⟩:=_e wA rfl hL fn (qP iz.ps iz.ts h);have h1:I x=_:=((hF h).trans hq).symm.trans (ho _ _);cases o with
   |none=>simp at h1
   |some ret=>rw[ja]at h1;show sU (d.env T) fn (qP iz.ps iz.ts h) k=I r;refine(ho _ _).trans ?_;rw[ja,_A h1.symm];exact hk
 .simp at hk
theorem cOf{P:Ã}{T:D (K TyI)}(hT:ca P (tab T))(gX:P.follows .mixedOrders=Â)(d:FnD)(iz:Con){fn:è}(hf:P.funcs[iz.f]? = I fn)(dR:EO P d.cs)
  (hs:uc (d.env T) (fn.body.getD .skip) 0 d.ds)(gF:EP P d.bw:=by trivial)(hb:fn.body=I (fn.body.getD .skip):=by kernel_rfl)(hN:fn.ntmps=d.N:=by kernel_rfl)
  (BP : Nat.ble d.np d.N = true := by kernel_rfl) (bO : (fn.name == "runtime.NumGoroutine") = false := by kernel_rfl) (hm : (dP 0 (fn.body.getD .skip)).map (·.1) = d.ds.map (·.b) := by kernel_rfl)
  (hn:mB (d.ds.map (·.b))=true:=by kernel_rfl)(hF:∀h,sU (d.env T) fn (qP iz.ps iz.ts h) (EN iz.rp iz.rs)=iz.F h:=by intro h;kernel_rfl)(B0:wy (d.env T) (fn.body.getD .skip) d.ms:=by trivial):iz.OK P:=
 _C hT gX d iz fn _ hf hb hN (Nat.le_of_ble_eq_true BP) bO dR hm hn hs hF gF B0
def pG{α β:Type}(B:(α->K β)->α->K β):O->α->K β
 |0,_=>U
 |n+1,a=>B (pG B n) a
open Classical in
def ER{α β:Type}(B:(α->K β)->α->K β)(a:α):K β:=
 if h:∃x n,pG B n a=I x then I h.choose else U
theorem _D{α β:Type}{B:(α->K β)->α->K β}{a:α}{x:β}(h1:∃n,pG B n a=I x)(h2:∀n y,pG B n a=I y->y=x):ER B a=I x:=by
 obtain⟨n,hn⟩:=h1;have hx:∃x n,pG B n a=I x:=⟨x,n,hn⟩;unfold ER;rw[dif_pos hx];obtain⟨m,hm⟩:=hx.choose_spec;rw[h2 m _ hm]
def w64(x:Æ):Int:=IntKind.wrap .i64 x
class LP where
 lp:{α β:Type}->(α->K (α ⊕ β))->α->K β
 rp:{α β:Type}->((α->K β)->α->K β)->α->K β
noncomputable instance realLP:LP:=⟨loopOpt,ER⟩
abbrev jyO(N:O):LP:=⟨λf a=>loopN f N a,λB a=>pG B N a⟩
theorem gu{x:Æ}(h1 : -9223372036854775808<=x)(h2:x<=9223372036854775807):w64 x=x:=IntWalk.i64_in x ⟨h1,h2⟩
def lpK{α β:Type}(r:K (α ⊕ β))(f:α->K β):K β:=match r with
 |none=>U
 |some (.inl s)=>f s
 |some (.inr x)=>I x
theorem aZ{α β:Type}(s:α)(f:α->K β):lpK (I (.inl s)) f=f s:=rfl
theorem bd{α β:Type}(x:β)(f:α->K β):lpK (I (.inr x)) f=I x:=rfl
theorem pH{α β γ:Type}(x:α)(f:α->γ)(g:β->γ):sumC (.inl x) f g=f x:=rfl
theorem kW{α β γ:Type}(x:β)(f:α->γ)(g:β->γ):sumC (.inr x) f g=g x:=rfl
theorem bJ{α β:Type}(f:α->K (α ⊕ β))(s:α):loopOpt f s=lpK (f s) (loopOpt f):=by
 cases h:f s with
 |none=>
  cases hq:loopOpt f s with
  |none=>rfl
  |some x=>obtain⟨n,hn⟩:=BW hq;cases n<;>simp[loopN,h]at hn
 |some r=>
  cases r with
  |inl s'=>exact _m h
  |inr x=>exact _n h
section
variable{S0:aM}{w0:À}{refs:Refs}
theorem JL{P:Ã}{E:Env}(hT:ca P E.T)(hC:iQ P E.C){ops:Õ Ú}{R:Type}{k:St->K R}{r:R}{Q:Exit->È->À->Prop}{n:O}{rest:D O}
  (hn:∀σ' a' w' S' γ',Rel E.N E.np S0 w0 refs σ' a' w' S' γ'->cM σ'->k σ'=I r->wpOpsIn (FR U) n P ops Q rest a' w') :
  ∀(l:D Ú)(i:O){σ:St}{a:È}{w:À}{S:aM}{γ:O->Ä},(∀j o,l[j]? = I o->ops[i+j]? = I o/\o.guard=U)->Rel E.N E.np S0 w0 refs σ a w S γ->cM σ->na E l σ k=I r->
   wpOpsIn (FR U) n P ops Q (ä i l.length++rest) a w
 |[],i,σ,a,w,S,γ,hl,hR,hc,h=>hn _ _ _ _ _ hR hc h
 |o::l,i,σ,a,w,S,γ,hl,hR,hc,h=>by
  simp only[na]at h;split at h
  .rename_i hd;obtain⟨ho,hg⟩:=hl 0 o rfl;have hw:Ó o (yielded ops a.tmps)=true:=by simp[Ó,hg]
   simp only[ju,vb,Î,wpOpsIn,show ops[i]? = I o from ho,hw,if_true];refine Ep (.inl rfl) (λ_ _ h=>h) (Bj hT hC hR (act:=[]) (λg hg=>by simp at hg) (p:=Z) (λ_=>hc) hd h (λσ' a' w' S' γ' ct dh hk=>?_));exact JL hT hC hn l (i+1) (λj o' hj=>by rw[show i+1+j=i+(j+1) by omega];exact hl (j+1) o' (by simpa using hj)) ct (dh rfl) hk
  .simp at h
theorem B2{N:NT}{np:O}{fx:O->K Ä}{σ:St}{a:È}{W:À}{S:aM}(bW:a.tmps.size=N.n)(hd:a.defers=[])(aV:∀k,σ.bx k = .free)(hS:∀g o,S g o->g<W.heap.size)
  (pq:∀i,gA S W (λ_=>undef) σ.bx (tm a) (σ.sl i) (tm a i))(JM:∀i v,fx i=I v->N.pin i=Â/\tm a i=v):Rel N np S W { blks:=[],val:=λ_=>U,fix:=fx } σ a W S (λ_=>undef):=
 ⟨bW,hd,pq,λk b h=>by rw[aV]at h;simp at h,λk b g h=>by rw[aV]at h;simp at h,λk k' b b' g _ h=>by rw[aV]at h;simp at h,λ_ _ h=>h,λ_ _ h=> .inl h,hS,λ_ _ _=>rfl,jz _,rfl,rfl,rfl,
  λk v h=>by simp at h,λg o h=>by simp at h,JM⟩
theorem ue{N:NT}{np:O}{fx:O->K Ä}{σ:St}{a:È}{w:À}{S:aM}{γ:O->Ä}(hR:Rel N np S0 w0 { blks:=[],val:=λ_=>U,fix:=fx } σ a w S γ):Grew w0 w:=
 ⟨λg hg=>hR.below g hg (λh=>by have h:g∈([]:D O):=h;simp at h),hR.grow,hR.os,hR.tape,hR.output⟩
theorem _E{P:Ã}{a:È}{w:À}{o:Ú}{cl:Call}(ho:o.op = .call cl){x:Operand}(hc:cl.callee = .value x){l:O}(hx:a.eval x = .func (.yield l) #[] #[]){nx:Next}{w':À}
  (hy:(Instr.yield l (cl.args.map a.eval)).run P w = .ok nx w'):(execOp a.eval o).run P w = .ok nx w':=by
 simp[execOp,ho,resolve,hc,Deferred.ofValue,hx,invoke,hy]
end
section
variable{S0:aM}{w0:À}{refs:Refs}
def bwE(T:O->K TyI):Env:=
 { N:=⟨19,λi=>i==0||(i==1||i==11)⟩,np:=0,T:=T,C:=λ_ _ _ _=>U,modes:=λ_=>[],L:=λ_ _ _ _=>U,keep:=λ_=>⟨[],[],[],[]⟩,keepX:=λ_ _=>⟨[],[],[],[]⟩,ro:=[] }
def slF(l:D (O×Cel)):St:={ sl:=λj=>match l.find? (λx=>x.1==j) with|some x=> .one x.2|none=> .one (.one .dead),bx:=λ_=> .free }
def g3(σ:St):K Int:=match σ.sl 3 with
 |.one (.one (.d (.int .i64) v))=>I v
 |_=>U
def g1(σ:St):K (Å×Æ):=match σ.sl 8,σ.sl 3 with
 |.one (.one (.d .bool b)),.one (.one (.d (.int .i64) v))=>I (b,v)
 |_,_=>U
def g18(σ:St):K (Å×Æ):=match σ.sl 18,σ.sl 3 with
 |.one (.one (.d .bool b)),.one (.one (.d (.int .i64) v))=>I (b,v)
 |_,_=>U
def g16(t:Ty)(σ:St):K (Æ×t.den×Æ):=match σ.sl 12,σ.sl 16,σ.sl 3 with
 |.one (.one (.d (.int .i64) u)),.one c,.one (.one (.d (.int .i64) v))=>match nM (λ_=> .gone) t c with
  |some (x,[])=>I (u,x,v)
  |_=>U
 |_,_,_=>U
def lstP(t:Ty)(xs:D t.den):Cel:= .one (.ip [⟨.list t,xs⟩])
def intP(i:Æ):Cel:= .one (.d (.int .i64) i)
theorem B3(l:D (O×Cel)):cM (slF l):=λi=>by
 simp only[slF];split<;>rfl
theorem _F{np:O}{σ:St}:RdF np σ (λ_=> .gone):=⟨λ_=> .inr rfl,λk e a xs f h=>by simp at h⟩
theorem B4{S:aM}{W:À}{γ:O->Ä}{l:D (O×Cel)}{JN:O->Ä}(h:∀x∈l,bE S W γ (λ_=> .free) x.2 (JN x.1))(i:O):gA S W γ (λ_=> .free) JN ((slF l).sl i) (JN i):=by
 simp only[slF];split
 .rename_i x hx;have:=h x (List.mem_of_find?_eq_some hx);have e:=List.find?_some hx;simp only[zb]at e;rw[<-e];exact this
 .exact⟨trivial,λh=>absurd rfl h⟩
theorem JO{P:Ã}{T:O->K TyI}(hT:ca P T){Ja n:O}{A:Õ Ú}{σ:St}{fx:O->K Ä}{a:È}{w:À}{S:aM}{γ:O->Ä}{R:Type}{k:St->K R}{r:R}
  (hR:Rel (bwE T).N (bwE T).np S0 w0 { blks:=[],val:=λ_=>U,fix:=fx } σ a w S γ)(hc:cM σ)(h:nO (bwE T) A σ k=I r) :
  (Á Ja A Z).wpIn (FR U) n P (λe a' w'=>e = .normal/\∃σ' S' γ',Rel (bwE T).N (bwE T).np S0 w0 { blks:=[],val:=λ_=>U,fix:=fx } σ' a' w' S' γ'/\k σ'=I r) a w:=
 wpIn_region (yg (.inl rfl) (by rintro⟨a,w,h,_⟩;cases h) _ _ _ (PS hT (λf=>JK) hR hc (λσ' a' w' S' γ' ct _ hk=>⟨rfl,σ',S',γ',ct,hk⟩) h))
theorem Rp{σ:St}{v:Æ}(h:g3 σ=I v):σ.sl 3 = .one (.one (.d (.int .i64) v)):=by
 unfold g3 at h;split at h
 .rename_i u hu;simp only[jb]at h;subst h;exact hu
 .simp at h
theorem _G{σ:St}{b:Å}{v:Æ}(h:g1 σ=I (b,v)):σ.sl 8 = .one (.one (.d .bool b))/\σ.sl 3 = .one (.one (.d (.int .i64) v)):=by
 unfold g1 at h;split at h
 .rename_i hb hu;simp only[jb,jf]at h;obtain⟨rfl,rfl⟩:=h;exact⟨hb,hu⟩
 .simp at h
theorem _H{σ:St}{b:Å}{v:Æ}(h:g18 σ=I (b,v)):σ.sl 18 = .one (.one (.d .bool b))/\σ.sl 3 = .one (.one (.d (.int .i64) v)):=by
 unfold g18 at h;split at h
 .rename_i hb hu;simp only[jb,jf]at h;obtain⟨rfl,rfl⟩:=h;exact⟨hb,hu⟩
 .simp at h
theorem _I{t:Ty}{σ:St}{i:Æ}{x:t.den}{v:Æ}(h:g16 t σ=I (i,x,v)):σ.sl 12 = .one (.one (.d (.int .i64) i))/\σ.sl 3 = .one (.one (.d (.int .i64) v))/\∃c,σ.sl 16 = .one c/\nM (λ_=> .gone) t c=I (x,[]):=by
 unfold g16 at h;split at h
 .rename_i c _ nn ES h3;split at h
  .rename_i hx;simp only[jb,jf]at h;obtain⟨rfl,rfl,rfl⟩:=h;exact⟨nn,h3,c,ES,hx⟩
  .simp at h
 .simp at h
theorem yA{N:NT}{np:O}{σ:St}{a:È}{w:À}{S:aM}{γ:O->Ä}(hR:Rel N np S0 w0 refs σ a w S γ){s:O}{v:Æ}(h:σ.sl s = .one (.one (.d (.int .i64) v))):tm a s = .int .i64 v:=by
 have:=hR.slot s;rw[h]at this;have h1:[a.tmps.getD s undef]=[Value.int .i64 v]:=this.1;simpa[tm]using h1
theorem Rq{N:NT}{np:O}{σ:St}{a:È}{w:À}{S:aM}{γ:O->Ä}(hR:Rel N np S0 w0 refs σ a w S γ){s:O}{v:Å}(h:σ.sl s = .one (.one (.d .bool v))):tm a s = .bool v:=by
 have:=hR.slot s;rw[h]at this;have h1:[a.tmps.getD s undef]=[Value.bool v]:=this.1;simpa[tm]using h1
theorem _J{P:Ã}{T:O->K TyI}(hT:ca P T){f:O}{t:Ty}{fn:è}(hf:P.funcs[f]? = I fn){r0 b0 r1 b1 r3 r2:O}{A0 A1 A2:Õ Ú}{o0 o6 o7:Ú}{l3:D Ú}{cl:Call}
  (hb:fn.body=I ((Á r0 A0 Z).seq (Ô b0 ((((Á r1 A1 Z).seq (Ð (.tmp 8) .skip (.exit b0))).seq ((Ô b1 ((Á r3 (o0::(l3++[o6,o7])).toArray Z).seq (Ð (.tmp 18) .ret .skip))).seq (Á r2 A2 Z))).loop))))
  (JP : fn.ntmps = 19) (kT : fn.results = #[]) (bO : (fn.name == "runtime.NumGoroutine") = Z) (yB : l3.length = 5) (cP : (o0 :: (l3 ++ [o6, o7])).all (fun o => o.guard.isNone) = Â)
  (wB:o0.op = .move (.tmp 0))(JQ:o0.dst=I 11)(wC:o6.op = .call cl)(JR:cl.callee = .value (.tmp 11))(ET:cl.args = #[.tmp 12,.tmp 16])(_K:o6.dst=I 17)
  (e0:∀xs:D t.den,nO (bwE T) A0 (slF [(1,lstP t xs)]) g3=I (w64 (ê (É xs)-1)))
  (e1:∀i:Æ,nO (bwE T) A1 (slF [(3,intP i)]) g1=I (Ë (i>=0),i))
  (e2:∀i:Æ,nO (bwE T) A2 (slF [(3,intP i)]) g3=I (w64 (i-1)))
  (e3:∀(xs:D t.den)(i:Æ),na (bwE T) l3 (slF [(1,lstP t xs),(3,intP i)]) (g16 t)=cond (inR i (É xs)) (I (i,Ù xs (Ø i) t.dflt,i)) U)
  (e7:∀(b:Å)(i:Æ),na (bwE T) [o7] (slF [(17,.one (.d .bool b)),(3,intP i)]) g18=I (!b,i)):BwOK P f t:=by
 refine⟨⟨fn,hf,by rw[hb];rfl,bO⟩,?_⟩;intro cv m l J Jx W S aL vO eW hY mg ym;have hC:iQ P (bwE T).C:=λf=>JK;obtain⟨S0,fW,hm,_L,mQ⟩:=mg
 obtain⟨z0,oO⟩:∃z0,cv = #[z0]:=by
  have:=mQ.length;obtain⟨cl⟩:=cv;match cl,this with
  |[z],_=>exact⟨z,rfl⟩
 subst oO;refine callsIn_of_wp hf hb trivial ?_;rw[JP];obtain⟨yv,Rr⟩:∃yv,yv=Value.func (.yield l) #[] #[]:=⟨_,rfl⟩;obtain⟨R,hR⟩:∃R:Ending->À->Prop,R=λe W'=>(∃v,e = .returned v)/\((∃S',J m S' W')\/Jx W'):=⟨_,rfl⟩;rw[<-Rr,<-hR];let fx:O->K Value:=λi=>if i=0 then I yv else if i=1 then I z0 else U
 let Fr:È->Prop:=λa=>a.tmps.size=19/\a.defers=[]/\tm a 0=yv/\tm a 1=z0
 let å:È->À->Prop:=λa W=>Fr a/\∃j S,j<=m/\J j S W/\tm a 3 = .int .i64 ((m:Æ)-1-j)
 let μ:È->À->Nat:=λa W=>match tm a 3 with
  |.int _ v=>(v+1).toNat
  |_=>0
 have eL:∀{a:È}{W':À},a.defers=[]->((∃S',J m S' W')\/Jx W')->a.defers=[]/\∃v,(results fn a.tmps).run P W' = .ok v W'/\R (.returned v) W':=by intro a W' hd h;exact⟨hd,_,results_none kT _ _ _,by rw[hR];exact⟨⟨_,rfl⟩,h⟩⟩
 have gC:∀{σ:St}{a:È}{w w0:À}{S S0:aM}{γ:O->Ä},Rel (bwE T).N (bwE T).np S0 w0 { blks:=[],val:=λ_=>U,fix:=fx } σ a w S γ->Fr a:=λhR=>
  ⟨hR.size,hR.defers,(hR.fix 0 yv rfl).2,(hR.fix 1 z0 rfl).2⟩
 have kX:∀{a:È},Fr a->∀i v,fx i=I v->(bwE T).N.pin i=Â/\tm a i=v:=by
  intro a ha i v hv;simp only[fx]at hv;split at hv
  .rename_i e;subst e;simp only[jb]at hv;subst hv;exact⟨rfl,ha.2.2.1⟩
  .split at hv
   .rename_i _ e;subst e;simp only[jb]at hv;subst hv;exact⟨rfl,ha.2.2.2⟩
   .simp at hv
 have same:∀{j:O}{S:aM}{W W':À},J j S W->Grew W W'->yh S W S W':=λhJ hg=>⟨λ_ _ h=>h,λ_ _ h=> .inl h,λg o h=>qx (eW _ _ _ hJ g o h) hg.size⟩
 have _M:m<=9223372036854775807:=by
  obtain⟨g,o,cs,_,ar,_⟩:=mQ.1;match cs,ar with
  |[z],ar=>obtain⟨ad,cap,_,h1,h2,_⟩:=ar.1;simp only[maxLen]at h2;have h1:É fW<=cap:=h1;omega
 obtain⟨a0,EC⟩:∃a0:È,a0={ tmps:=#[yv] ++ #[z0]++Array.replicate (19-(#[yv] ++ #[z0]).size) undef,defers:=[] }:=⟨_,rfl⟩;rw[<-EC]
 have rX:Fr a0:=by
  subst EC;refine⟨?_,rfl,?_,?_⟩
  .simp
  .simp[tm]
  .simp[tm]
 have mg:Rel (bwE T).N (bwE T).np S0 W { blks:=[],val:=λ_=>U,fix:=fx } (slF [(1,lstP t fW)]) a0 W S0 (λ_=>undef):=
  B2 rX.1 rX.2.1 (λ_=>rfl) _L (B4 (λx hx=>by
   simp only[kz]at hx;subst hx;rw[rX.2.2.2];exact⟨mQ.1,λ_=>by obtain⟨g,o,cs,hu,_⟩:=mQ.1;rw[hu];rfl⟩)) (kX rX)
 refine wpIn_seq (wpIn_mono (JO hT mg (B3 _) (e0 fW)) ?_)
 rintro e a W1 ⟨rfl,σ1,S1,γ1,bm,df⟩
 show (Ô b0 _).wpIn _ _ _ _ _ _;have h3:=yA bm (Rp df);refine wpIn_block (wpIn_loop å μ ⟨gC bm,0,S,ko _,aL _ _ _ _ _ (ue bm) (same ym (ue bm)) ym,?_⟩ ?_)
 .rw[h3,hm,gu aN aN];simp
 .rintro a W ⟨JS,j,S,tR,hJ,h3⟩
  have hint:∀{a:È}{W:À}{S:aM}{v:Æ},tm a 3 = .int .i64 v->bE S W (λ_=>undef) (λ_=> .free) (intP v) (tm a 3):=λh=>by rw[h];exact⟨rfl,λ_=>rfl⟩
  have _N:Rel (bwE T).N (bwE T).np S W { blks:=[],val:=λ_=>U,fix:=fx } (slF [(3,intP ((m:Æ)-1-j))]) a W S (λ_=>undef):=
   B2 JS.1 JS.2.1 (λ_=>rfl) (eW _ _ _ hJ) (B4 (λx hx=>by
    simp only[kz]at hx;subst hx;exact hint h3)) (kX JS)
  refine wpIn_seq (wpIn_seq (wpIn_mono (JO hT _N (B3 _) (e1 _)) ?_))
  rintro e a1 W1 ⟨rfl,σ1,S1,γ1,bm,df⟩
  obtain⟨h8,JT⟩:=_G df;have JT:=yA bm JT;have h8:a1.eval (.tmp 8) = .bool (Ë ((m:Æ)-1-j>=0)):=Rq bm h8;have JU:=aL _ _ _ _ _ (ue bm) (same hJ (ue bm)) hJ;have mh:=gC bm;show (Ð _ _ _).wpIn _ _ _ _ _ _;by_cases cI:(m:Æ)-1-j>=0
  case neg=>rw[decide_eq_false cI]at h8;refine wpIn_cond_false h8 (wpIn_exit ?_);show Y b0 (bodyPost P fn R) (.exit b0) a1 W1;simp only[Y,if_true];have hj:j=m:=aa;subst hj;exact eL mh.2.1 (.inl ⟨S,JU⟩)
  case pos=>
  rw[vv cI]at h8;refine wpIn_cond_true h8 (wpIn_skip ?_);show (Code.seq _ _).wpIn _ _ _ _ _ _;have JV:j<m:=aa;obtain⟨xs,ej,hlen,Az⟩:=hY j S W1 JV JU;refine wpIn_seq (wpIn_block (wpIn_seq (wpIn_region ?_)));obtain⟨ops,wD⟩:∃ops,ops=(o0::(l3++[o6,o7])).toArray:=⟨_,rfl⟩;rw[<-wD];have rP:∀k,ops[k]? = (o0::(l3++[o6,o7]))[k]? := λk=>by rw[wD];exact List.getElem?_toArray
  have bG:∀o∈o0::(l3++[o6,o7]),o.guard=none:=λo ho=>by have:=jr.1 cP o ho;simpa using this
  have bW:ops.size=8:=by rw[wD];simp[yB]
  have hw:∀(o:Ú)(a:È),o∈o0::(l3++[o6,o7])->Ó o (yielded ops a.tmps)=true:=λo a ho=>by simp[Ó,bG o ho]
  rw[bW,show Û 8=0::(ä 1 l3.length++[6,7]) by rw[yB];rfl];have JW:ops[0]? = I o0:=by rw[rP];rfl
  simp only[wpOpsIn,JW,hw o0 _ (vi ..),if_true];refine Ep (.inl rfl) (λ_ _ h=>h) ?_;unfold Oper.wp;rw[show (execOp a1.eval o0).run P W1 = .ok (.value (a1.eval (.tmp 0))) W1 by simp[execOp,wB,go_sem],Oper.upon_value,JQ];have qQ:a1.eval (.tmp 0)=yv:=mh.2.2.1;rw[qQ];have B5:11<a1.tmps.size:=by rw[mh.1];omega
  obtain⟨a2,qB⟩:∃a2,a2=a1.put (I 11) yv:=⟨_,rfl⟩;rw[<-qB];have rY:∀i,tm a2 i=if i=11 then yv else tm a1 i:=λi=>by rw[qB];exact yb B5 yv i
  have rZ:Fr a2:=⟨by rw[qB,Ik];exact mh.1,by rw[qB,Il];exact mh.2.1,by rw[rY];exact mh.2.2.1,by rw[rY];exact mh.2.2.2⟩;let Rs:O->K Value:=λi=>if i=11 then I yv else fx i
  have bS:Rel (bwE T).N (bwE T).np S W1 { blks:=[],val:=λ_=>U,fix:=Rs } (slF [(1,lstP t xs),(3,intP ((m:Æ)-1-j))]) a2 W1 S (λ_=>undef):=
   B2 rZ.1 rZ.2.1 (λ_=>rfl) (eW _ _ _ JU) (B4 (λx hx=>by
    simp only[jm,vc,or_false]at hx;rcases hx with rfl|rfl
    .rw[rZ.2.2.2];exact⟨ej.1,λ_=>by obtain⟨g,o,cs,hu,_⟩:=ej.1;rw[hu];rfl⟩
    .exact hint (by rw[rY];exact JT))) (λi v hv=>by
     simp only[Rs]at hv;split at hv
     .rename_i e;subst e;simp only[jb]at hv;subst hv;exact⟨rfl,by rw[rY,if_pos rfl]⟩
     .exact kX rZ i v hv)
  have hx:∃x,xs[m-1-j]? = I x/\Ù xs (Ø ((m:Æ)-1-j)) t.dflt=x:=by refine⟨xs[m-1-j]'hlen,ka hlen,?_⟩;rw[show Ø ((m:Æ)-1-j)=m-1-j by omega];simp[Ù,hlen]
  obtain⟨x,hx,_O⟩:=hx;have Ru:=e3 xs ((m:Æ)-1-j)
  rw[_O,show inR ((m:Æ)-1-j) (É xs)=Â by
   unfold inR;rw[vv (show (0:Æ)<=(m:Æ)-1-j by omega),vv (show (m:Æ)-1-j<(É xs:Æ) by omega)];rfl,jc]at Ru
  refine JL hT hC ?_ l3 1 (λk o hk=>⟨?_,?_⟩) bS (B3 _) Ru
  rotate_left
  .rw[rP,Nat.add_comm,Ì,Ê (jt.1 hk).1];exact hk
  .exact bG o (z6 _ (kj _ (kb hk)))
  intro σ3 a3 W3 S3 γ3 eV _ iy;obtain⟨nn,JX,c,ES,JY⟩:=_I iy;have nn:=yA eV nn;have JX:=yA eV JX;have JZ:VRep S3 W3 ⟨t,x⟩ (tm a3 16):=by have:=eV.slot 16;rw[ES]at this;exact(Ag (np:=(bwE T).np) _F eV.box JY this).2.1 S3 W3 (.refl _ _) (λy hy=>by simp at hy)
  have AH:=ue eV;have _P:tm a3 11=yv:=(eV.fix 11 yv rfl).2;have pI:Fr a3:=⟨eV.size,eV.defers,(eV.fix 0 yv rfl).2,(eV.fix 1 z0 rfl).2⟩;obtain⟨_Q,B6,_R,_S,_T,pJ⟩:=Az S3 W3 x _ AH ⟨eV.ext,λg o h=>(eV.new g o h).imp id λh=>h.nil rfl,eV.here⟩ hx JZ;have J0:ops[6]? = I o6:=by rw[rP,Ì,ki aa,yB];rfl
  have J1:ops[7]? = I o7:=by rw[rP,Ì,ki aa,yB];rfl
  simp only[wpOpsIn,J0,hw o6 _ af,if_true];refine⟨λ_ _=>trivial,?_⟩
  have aE:(execOp a3.eval o6).run P W3 = .ok (.round l _Q B6 _R _S) W3:=by
   refine _E wC JR (l:=l) (by rw[<-Rr];exact _P) ?_;rw[ET];have sa:a3.eval (.tmp 12) = .int .i64 ((m-1-j:O):Æ):=by rw[show ((m-1-j:O):Æ)=(m:Æ)-1-j by omega];exact nn
   have _U:a3.eval (.tmp 16)=tm a3 16:=rfl;simp only[List.map_toArray,qq,List.map_nil,sa,_U];exact _T
  rw[show o6.semAt (FR U).round a3.eval=execOp a3.eval o6 from rfl,aE,Oper.uponIn_round];refine⟨λhd=>by simp[FR,Fence.wide]at hd,?_⟩;refine RoundIn.mono ⟨pJ.1,λc cs _=>pJ.2 c cs (Qn _ _)⟩ ?_;have B7:17<a3.tmps.size:=by rw[pI.1];omega
  have rest:∀(bb:Å)(W4:À)(S4:aM),(∀g o,S4 g o->g<W4.heap.size)->
    (∀a5 W5,Fr a5->Grew W4 W5->tm a5 18 = .bool (!bb)->tm a5 3 = .int .i64 ((m:Æ)-1-j)->(Exit.then ((Ð (.tmp 18) .ret .skip).wpIn (FR U) 0 P (Y b1 (Exit.then ((Á r2 A2 Z).wpIn (FR U) 0 P (Exit.then (λa' W'=>å a' W'/\μ a' W'<μ a W) (Y b0 (bodyPost P fn R))))
     (Exit.then (λa' W'=>å a' W'/\μ a' W'<μ a W) (Y b0 (bodyPost P fn R)))))) (Y b1 (Exit.then ((Á r2 A2 Z).wpIn (FR U) 0 P (Exit.then (λa' W'=>å a' W'/\μ a' W'<μ a W) (Y b0 (bodyPost P fn R))))
     (Exit.then (λa' W'=>å a' W'/\μ a' W'<μ a W) (Y b0 (bodyPost P fn R)))))) .normal a5 W5)->
    wpOpsIn (FR U) 0 P ops (Exit.then ((Ð (.tmp 18) .ret .skip).wpIn (FR U) 0 P (Y b1 (Exit.then ((Á r2 A2 Z).wpIn (FR U) 0 P (Exit.then (λa' W'=>å a' W'/\μ a' W'<μ a W) (Y b0 (bodyPost P fn R))))
     (Exit.then (λa' W'=>å a' W'/\μ a' W'<μ a W) (Y b0 (bodyPost P fn R)))))) (Y b1 (Exit.then ((Á r2 A2 Z).wpIn (FR U) 0 P (Exit.then (λa' W'=>å a' W'/\μ a' W'<μ a W) (Y b0 (bodyPost P fn R))))
     (Exit.then (λa' W'=>å a' W'/\μ a' W'<μ a W) (Y b0 (bodyPost P fn R)))))) [7] (a3.put o6.dst (.bool bb)) W4:=by
   intro bb W4 S4 _V dZ;rw[_K];obtain⟨a4,EU⟩:∃a4,a4=a3.put (I 17) (.bool bb):=⟨_,rfl⟩;rw[<-EU];have sb:∀i,tm a4 i=if i=17 then .bool bb else tm a3 i:=λi=>by rw[EU];exact yb B7 _ i
   have wE:Fr a4:=⟨by rw[EU,Ik];exact pI.1,by rw[EU,Il];exact pI.2.1,by rw[sb];exact pI.2.2.1,by rw[sb];exact pI.2.2.2⟩
   have mM:Rel (bwE T).N (bwE T).np S4 W4 { blks:=[],val:=λ_=>U,fix:=fx } (slF [(17,.one (.d .bool bb)),(3,intP ((m:Æ)-1-j))]) a4 W4 S4 (λ_=>undef):=
    B2 wE.1 wE.2.1 (λ_=>rfl) _V (B4 (λx hx=>by
     simp only[jm,vc,or_false]at hx;rcases hx with rfl|rfl
     .rw[sb,if_pos rfl];exact⟨rfl,λ_=>rfl⟩
     .exact hint (by rw[sb];exact JX))) (kX wE)
   refine JL (rest:=[]) hT hC (λσ5 a5 W5 S5 γ5 mN _ pB=>?_) [o7] 7 (λk o hk=>?_) mM (B3 _) (e7 bb _)
   .obtain⟨q1,q2⟩:=_H pB;exact dZ a5 W5 (gC mN) (ue mN) (Rq mN q1) (yA mN q2)
   .cases k with
    |zero=>simp at hk;subst hk;exact⟨J1,bG _ af⟩
    |succ k=>simp at hk
  rintro e W4 (⟨rfl,S4,J2⟩|⟨rfl,_W⟩)
  .refine rest Â W4 S4 (eW _ _ _ J2) (λa5 W5 pK EV J3 Rv=>?_);refine wpIn_cond_false (c:= .tmp 18) J3 (wpIn_skip ?_);show (Á r2 A2 Z).wpIn _ _ _ _ _ _;have J4:=aL _ _ _ _ _ EV (same J2 EV) J2
   have mN:Rel (bwE T).N (bwE T).np S4 W5 { blks:=[],val:=λ_=>U,fix:=fx } (slF [(3,intP ((m:Æ)-1-j))]) a5 W5 S4 (λ_=>undef):=
    B2 pK.1 pK.2.1 (λ_=>rfl) (eW _ _ _ J4) (B4 (λx hx=>by
     simp only[kz]at hx;subst hx;exact hint Rv)) (kX pK)
   refine wpIn_mono (JO hT mN (B3 _) (e2 _)) ?_
   rintro e a6 W6 ⟨rfl,σ6,S6,γ6,ua,_X⟩
   have J5:=yA ua (Rp _X);rw[gu aa aa]at J5;refine⟨⟨gC ua,j+1,S4,aa,aL _ _ _ _ _ (ue ua) (same J4 (ue ua)) J4,?_⟩,?_⟩
   .rw[J5];congr 1;push_cast;omega
   .simp only[μ,J5,h3];omega
  .refine rest Z W4 (λ_ _=>False) (λ_ _ h=>h.elim) (λa5 W5 pK EV J3 Rv=>?_);refine wpIn_cond_true (c:= .tmp 18) J3 (wpIn_ret ?_);exact eL pK.2.1 (.inr (vO _ _ EV _W))
end
def wF:Ï->D (O×Õ Ú)
 |.seq x y=>wF x++wF y
 |.cond _ x y=>wF x++wF y
 |.block _ c=>wF c
 |.loop c=>wF c
 |.region id ops _=>[(id,ops)]
 |_=>[]
def bwA(fn:è)(i:O):Õ Oper:=(((wF (fn.body.getD .skip)).find? λx=>x.1==i).getD (0, #[])).2
def opAt(A:Õ Ú)(i:O):Oper:=(A[i]?).getD default
def J6(o:Ú):Call:=match o.op with
 |.call c=>c
 |_=>default
theorem _Y{P:Ã}{T:O->K TyI}(hT:ca P T){f:O}{t:Ty}{fn:è}(hf:P.funcs[f]? = I fn){A0 A1 A2 A3:Õ Ú}
  (hb:fn.body=I ((Á 0 A0 Z).seq (Ô 0 ((((Á 1 A1 Z).seq (Ð (.tmp 8) .skip (.exit 0))).seq ((Ô 1 ((Á 3 A3 Z).seq (Ð (.tmp 18) .ret .skip))).seq (Á 2 A2 Z))).loop))))
  (hA:A3=(opAt A3 0::((A3.toList.drop 1).take 5++[opAt A3 6,opAt A3 7])).toArray)
  (JP : fn.ntmps = 19) (kT : fn.results = #[]) (bO : (fn.name == "runtime.NumGoroutine") = Z) (yB : ((A3.toList.drop 1).take 5).length = 5) (cP : (opAt A3 0 :: ((A3.toList.drop 1).take 5 ++ [opAt A3 6, opAt A3 7])).all (fun o => o.guard.isNone) = Â)
  (wB:(opAt A3 0).op = .move (.tmp 0))(JQ:(opAt A3 0).dst=I 11)(wC:(opAt A3 6).op = .call (J6 (opAt A3 6)))(JR:(J6 (opAt A3 6)).callee = .value (.tmp 11))(ET:(J6 (opAt A3 6)).args = #[.tmp 12,.tmp 16]/\(opAt A3 6).dst=I 17)
  (e0:∀xs:D t.den,nO (bwE T) A0 (slF [(1,lstP t xs)]) g3=I (w64 (ê (É xs)-1)))
  (e1:∀i:Æ,nO (bwE T) A1 (slF [(3,intP i)]) g1=I (Ë (i>=0),i))
  (e2:∀i:Æ,nO (bwE T) A2 (slF [(3,intP i)]) g3=I (w64 (i-1)))
  (e3:∀(xs:D t.den)(i:Æ),na (bwE T) ((A3.toList.drop 1).take 5) (slF [(1,lstP t xs),(3,intP i)]) (g16 t)=cond (inR i (É xs)) (I (i,Ù xs (Ø i) t.dflt,i)) U)
  (e7:∀(b:Å)(i:Æ),na (bwE T) [opAt A3 7] (slF [(17,.one (.d .bool b)),(3,intP i)]) g18=I (!b,i)):BwOK P f t:=by
 rw[hA]at hb;exact _J hT hf hb JP kT bO yB cP wB JQ wC JR ET.1 ET.2 e0 e1 e2 e3 e7
section
variable{P:Ã}{E:Env}{ops pre:Õ Ú}{cl:D O}{τ:O->St}{S0:aM}{w0:À}{refs:Å->Refs}
end
section
variable{S0:aM}{w0:À}{refs:Refs}
def g7(σ:St):K (Å×Æ):=match σ.sl 7,σ.sl 3 with
 |.one (.one (.d .bool b)),.one (.one (.d (.int .i64) v))=>I (b,v)
 |_,_=>U
theorem Grew.trans{w w' uL:À}(h:Grew w w')(h':Grew w' uL):Grew w uL:=
 ⟨λg hg=>(h'.old g (qx hg h.size)).trans (h.old g hg),qw h.size h'.size,h'.os.trans h.os,h'.tape.trans h.tape,h'.output.trans h.output⟩
end
open Go.RowKit Go.WideShapes Go.ChangeShapes
theorem _Z{P:Ã}{f:O}{ps:D APat}{ts:D Ty}{F:HL ts->K Å}(bA:Con.OK P ⟨f,ps,ts,⟨[.v .bool],[]⟩,[.bool],F⟩)(h:HL ts)(hF:F h=I Â)
  (w:À)(S:aM)(vals:D Ä)(ha:All2 (nr S w) (qP ps ts h) vals)(hr:dI (qP ps ts h) vals=[])(hS:∀g o,S g o->g<w.heap.size)(hu:EI ps ts (qP ps ts h)=I h) :
  Calls P f vals.toArray w λe w'=>e = .returned (.bool Â)/\Below w.heap.size w w':=by
 have:=(bA (qP ps ts h) Ret I (B1 ⟨[.v .bool],[]⟩ [.bool] Â) (by
  unfold Con.C;rw[hu];show (F h).bind _=_;rw[hF];rfl)).2
 refine(this w S vals ha (by rw[hr];exact List.nodup_nil) hS).mono ?_
 rintro e w' ⟨ret,bM,v,S',vs,rfl,bA⟩
 simp only[jb]at bM;subst bM;have bB:All2 (nY S' w') [.v ⟨.bool,Â⟩] vs:=bA.rep;refine⟨?_,bA.os,bA.tape,bA.output,bA.grow,λk hk=>bA.below k hk (by rw[hr];simp)⟩;rw[bA.val];match vs,bB with
 |[u],bB=>have h1:=bB.1;have h2:u.cells.toList=[.bool Â]/\(gK Ty.bool=Â->∃cs,u=Value.agg cs)/\(gK Ty.bool=Z->One u):=h1;have h3:=xI (h2.2.2 rfl);rw[h2.1]at h3;simp only[List.cons.injEq,vq]at h3;rw[<-h3];rfl
 |[],bB=>exact absurd bB (by simp[All2])
 |_::_::_,bB=>exact absurd bB (by simp[All2])
theorem jlu{H:Type}{enc:Í×Ä->H}{P:Ã}{f:è}{s:ChangeSpec}{apart fresh handsOn again:Å}{W W':À}{args:Õ Ä}{v:Ä}{ds gs:D (Ü H)}{before pa pv:D Ñ}
  (hW:DataW.Whole enc P f.params.toList s.vars apart W args.toList ds gs before)
  (kT:∀(b:O)(sp:O->Å)(hd:Å),à enc P W' b sp hd f.resultTypes.toList (v.resultList f.resultTypes.size) (s.fn H (ds++gs)).results [])
  (cm:∀sp:O->Å,(∀p∈before,sp p.block=Â)->à enc P W' 0 sp Â f.params.toList args.toList (s.fn H (ds++gs)).args pa)
  (uf:∀sp:O->Å,(∀p∈before,sp p.block=Â)->DataW.TrodVars enc P W' sp s.vars (s.fn H (ds++gs)).vars pv)
  (ib:before=pa++pv)(hb:Below W.heap.size W W')
  (bA:∀(j:O)(t:Í)(r:Ä),f.resultTypes[j]? = I t->(v.resultList f.resultTypes.size)[j]? = I r->Ò P W' .any 0 t r) :
  s.post enc P f apart fresh handsOn again W args v W':=by
 have ay:∀p∈before,p.block<W.heap.size:=λp hp=>hW.lt p hp;have hold:∀p∈before,(λb=>Ë (b<W.heap.size)) p.block=true:=λp hp=>by simpa using ay p hp
 refine⟨ds,gs,before,[],pa,pv,hW,kT _ _ _,cm _ hold,uf _ hold,World.keptBut_mono (λp hp=>⟨hp,?_⟩) (hb.frame (· ∈ before)),λ_=>?_⟩
 .rw[ib,jx]at hp;exact Or.inr hp
 .obtain⟨_,_,_,_,_,hz,hn⟩:=hW;refine⟨bA,_,_,([]++pa)++pv,⟨[]++pa,pv,trodAll_append (cm _ (λ_ _=>rfl)) (kT _ _ _),uf _ (λ_ _=>rfl),rfl,?_,?_⟩,?_⟩
  .intro b off hp;have nj:MemPlace.cell b off∈before:=by rw[ib];simpa using hp
   rw[hb.frozen (ay _ nj)];exact hz b off nj
  .intro ha;have:=hn ha;rw[ib]at this;simpa using this
  .intro p hp _;rw[ib];simpa using hp
open Go.RowKit Go.WideShapes Go.ChangeShapes
def ug(P:Ã)(f:Í->Ty->Å):D Field->O->Ty->Å
 |[],_,_=>Z
 |[x],off,b=>Ë (x.offset=off)&&Ë (P.cellsOf x.type=b.size)&&f x.type b
 |x::y::r,off,.pair a b=>Ë (x.offset=off)&&Ë (P.cellsOf x.type=a.size)&&f x.type a&&ug P f (y::r) (off+a.size) b
 |_,_,_=>Z
def nF(P:Ã):O->Í->Ty->Å
 |0,_,_=>Z
 |n+1,t,ty=>match P.underlying t with
  |some (.int k)=>Ë (ty = .int k)
  |some .bool=>Ë (ty = .bool)
  |some .string=>Ë (ty = .str)
  |some (.slice e)=>match ty with
   |.list a=>nF P n e a&&Ë (P.cellsOf e=a.size)&&Ë (0<a.size)
   |_=>Z
  |some (.struct fs)=>Ë (P.cellsOf t=ty.size)&&match fs.toList,ty with
   |[x],.wrap a=>ug P (nF P n) [x] 0 a
   |x::y::r,.pair a b=>ug P (nF P n) (x::y::r) 0 (.pair a b)
   |_,_=>Z
  |_=>Z
def Wf:(t:Ty)->t.den->Prop
 |.int k,n=>(Lit.int k n).wf=Â
 |.bool,_=>ã
 |.str,s=>s.size<=maxLen
 |.unit,_=>ã
 |.wrap a,v=>Wf a v
 |.pair a b,v=>Wf a v.1/\Wf b v.2
 |.list a,xs=>É xs<=maxLen/\∀x∈(show D a.den from xs),Wf a x
 |.arr _ _,_=>ã
theorem EW{α β:Type}{f:α->K β}:∀{l:D α}{ys:D β},l.mapM f=I ys->ys.length=l.length/\∀(i:O)(x:α),l[i]? = I x->∃y,ys[i]? = I y/\f x=I y
 |[],ys,h=>by
  simp at h;subst h;exact⟨rfl,λi x hx=>by simp at hx⟩
 |a::l,ys,h=>by
  rw[zd]at h;cases ha:f a with
  |none=>simp[ha]at h
  |some y=>
   cases hl:l.mapM f with
   |none=>simp[ha,hl]at h
   |some zs=>
    simp[ha,hl]at h;subst h;obtain⟨h1,h2⟩:=EW hl;refine⟨by simp[h1],λi x hx=>?_⟩;cases i with
    |zero=>simp at hx;subst hx;exact⟨y,rfl,ha⟩
    |succ i=>simp at hx;obtain⟨z,hz,hf⟩:=h2 i x hx;exact⟨z,by simpa using hz,hf⟩
theorem Rw{α β:Type}{f:α->K β}:∀{l:D α}{ys:D β},ys.length=l.length->(∀(i:O)(x:α),l[i]? = I x->f x=ys[i]?)->l.mapM f=I ys
 |[],ys,h,_=>by
  have:ys=[]:=js (by simpa using h);subst this;rfl
 |a::l,[],h,_=>by simp at h
 |a::l,y::ys,h,hg=>by
  have h0:f a=I y:=by simpa using hg 0 a rfl
  rw[zd,h0,Rw (ys:=ys) (by simpa using h) (λi x hx=>by simpa using hg (i+1) x (by simpa using hx))];rfl
theorem EX{α β:Type}{f g:α->K β}:∀{l:D α}{ys:D β},l.mapM f=I ys->(∀x∈l,∀y,y∈ys->f x=I y->g x=I y)->l.mapM g=I ys
 |[],ys,h,_=>by simpa using h
 |a::l,ys,h,hk=>by
  rw[zd]at h ⊢;cases ha:f a with
  |none=>simp[ha]at h
  |some y=>
   cases hl:l.mapM f with
   |none=>simp[ha,hl]at h
   |some zs=>simp[ha,hl]at h;subst h;rw[hk a af y af ha,EX hl (λx hx z hz hf=>hk x (by simp[hx]) z (by simp[hz]) hf)];rfl
theorem Rx{α:Type}{Q:O->α->Prop}:∀n,(∀i,i<n->∃x,Q i x)->∃xs:D α,xs.length=n/\∀i x,xs[i]? = I x->Q i x
 |0,_=>⟨[],rfl,λi x h=>by simp at h⟩
 |n+1,h=>by
  obtain⟨xs,hl,hx⟩:=Rx n (λi hi=>h i aa);obtain⟨x,hq⟩:=h n aa;refine⟨xs++[x],by simp[hl],λi y hy=>?_⟩;rcases qr i n with hi|hi
  .rw[Ê aa]at hy;exact hx i y hy
  .have:i=n:=by have:=(jt.1 hy).1;simp[hl]at this;omega
   subst this;rw[ki aa,hl,Nat.sub_self]at hy;simp at hy;subst hy;exact hq
theorem Ry{α β:Type}{R:α->β->Prop}:∀{as:D α}{bs:D β},as.length=bs.length->(∀(i:O)(a:α)(b:β),as[i]? = I a->bs[i]? = I b->R a b)->All2 R as bs
 |[],[],_,_=>trivial
 |a::as,b::bs,hl,h=>⟨h 0 a b rfl rfl,Ry (by simpa using hl) λi x y hx hy=>h (i+1) x y (by simpa using hx) (by simpa using hy)⟩
 |[],_::_,hl,_=>by simp at hl
 |_::_,[],hl,_=>by simp at hl
theorem Rz{m:O}:∀{css:D (D Ä)},(∀c∈css,c.length=m)->∀{j:O}{v:Ä},css.flatten[j]? = I v->∃i r c,j=i*m+r/\r<m/\css[i]? = I c/\c[r]? = I v
 |[],_,j,v,h=>by simp at h
 |c::css,hl,j,v,h=>by
  simp only[kx]at h;have hc:=hl c af;rcases qr j c.length with hj|hj
  .rw[Ê hj]at h;exact⟨0,j,c,aa,aa,rfl,h⟩
  .rw[ki hj]at h;obtain⟨i,r,c',e,hr,hi,hv⟩:=Rz (λx hx=>hl x (by simp[hx])) h;exact⟨i+1,r,c',by rw[Nat.add_mul];omega,hr,by simpa using hi,hv⟩
def Ext(W W':À):Prop:=∀(k:O) x,W.heap[k]? = I x->W'.heap[k]? = I x
theorem Ext.cell{W W':À}(h:Ext W W'){a:ì}{v:Ä}(hc:W.cell? a=I v):W'.cell? a=I v:=by
 unfold World.cell? at hc ⊢;split at hc
 .rename_i c _ _ hb;rw[h _ _ hb];exact hc
 .simp at hc
theorem Ext.cells{W W':À}(h:Ext W W'){a:ì}{n:O}{cs:D Ä}(hc:W.cells? 0 a n=I cs):W'.cells? 0 a n=I cs:=by
 unfold World.cells? at hc ⊢;simp only[ko,if_true]at hc ⊢;exact EX hc λi _ y _ hf=>h.cell hf
theorem J7{W:À}{a:ì}{n:O}{cs:D Ä}(hc:W.cells? 0 a n=I cs):cs.length=n/\∀i v,cs[i]? = I v->W.cell? (a.add i)=I v:=by
 unfold World.cells? at hc;simp only[ko,if_true]at hc;obtain⟨h1,h2⟩:=EW hc;simp only[Ý]at h1;refine⟨h1,λi v hv=>?_⟩;have hi:i<n:=by rw[<-h1];exact(jt.1 hv).1
 obtain⟨y,hy,hf⟩:=h2 i i (by simp[hi]);rw[hv]at hy;simp at hy;subst hy;exact hf
theorem RA{W:À}{a:ì}{v:Ä}(h:W.cell? a=I v):a.block<W.heap.size/\a.spot=none:=by
 unfold World.cell? at h;split at h
 .rename_i c _ _ hb;refine⟨(jn.1 hb).1,?_⟩;split at h
  .simp at h
  .rename_i hs;simpa using hs
 .simp at h
def oldS(W:À):aM:=λg _=>g<W.heap.size
def B8{H:Type}(enc:Í×Ä->H)(P:Ã)(W:À)(held:Å)(fuel:O)(t:Í)(ty:Ty)(cs:D Ä)(d:Ü H)(ps:D Ñ):Prop:=
 cs.length=ty.size/\(∃v:ty.den,Rep (oldS W) W ty v cs/\Wf ty v)/\
  ∀W' sp,Ext W W'->(∀q∈ps,sp q.block=Â)->X enc P W' 0 sp held fuel t cs=I (d,ps)
section
variable{H:Type}{enc:Í×Ä->H}{P:Ã}{W:À}{held:Å}
theorem _0{a:ì}{n:O}(hn:0<n):∃q∈MemPlace.row a n,q.block=a.block:=
 ⟨.cell a.block (a.off+0),qg.2 ⟨0,by simp[hn],rfl⟩,rfl⟩
theorem _1{n:O}{t e:Í}{el:Ty}(hu:P.underlying t=I (.slice e))(bW:P.cellsOf e=el.size)(cI:0<el.size){fuel:O}{cs:D Ä}{d:Ü H}{ps:D Ñ}
  (ih:∀(m:O)(cs:D Ä)(d:Ü H)(ps:D Ñ),X enc P W 0 (λ_=>Â) held m e cs=I (d,ps)->B8 enc P W held m e el cs d ps)
  (h:X enc P W 0 (λ_=>Â) held fuel t cs=I (d,ps)):B8 enc P W held fuel t (.list el) cs d ps:=by
 cases fuel with
 |zero=>simp[X]at h
 |succ m=>
  have h':=h;unfold X at h;rw[hu]at h;split at h;all_goals (try (rename_i heq _;simp at heq;done))
  all_goals (try (rename_i heq;simp at heq;done))
  .rename_i heq;refine⟨rfl,⟨[],⟨U,0,rfl,jz _,ko _,λ_=>rfl,λb hb=>by simp at hb⟩,⟨ko _,af⟩⟩,λW' sp _ _=>?_⟩;unfold X;rw[hu];exact h
  .rename_i e' a len cap heq;simp only[jb,TypeDesc.slice.injEq]at heq;subst heq;simp only[ko,kn,if_true]at h;split at h
   .rename_i hc;cases fq:(Û len).mapM (λi=>(W.cells? 0 (a.add (i*P.cellsOf e)) (P.cellsOf e)).bind (X enc P W 0 (λ_=>Â) held m e)) with
    |none=>rw[fq]at h;simp at h
    |some elems=>
     rw[fq]at h;simp only[ja]at h;cases EY:(Û (cap-len)).mapM (λj=>(W.cells? 0 (a.add ((len+j)*P.cellsOf e)) (P.cellsOf e)).bind (X enc P W 0 (λ_=>Â) held m e)) with
     |none=>rw[EY]at h;simp at h
     |some rest=>
      rw[EY]at h;simp only[qa,jb,jf]at h;obtain⟨rfl,rfl⟩:=h;obtain⟨l1,g1⟩:=EW fq;obtain⟨l2,g2⟩:=EW EY;simp only[Ý]at l1 l2
      have one:∀i y,(W.cells? 0 (a.add (i*P.cellsOf e)) (P.cellsOf e)).bind (X enc P W 0 (λ_=>Â) held m e)=I y->∃c,W.cells? 0 (a.add (i*P.cellsOf e)) (P.cellsOf e)=I c/\B8 enc P W held m e el c y.1 y.2:=by
       intro i y hy;cases hc:W.cells? 0 (a.add (i*P.cellsOf e)) (P.cellsOf e) with
       |none=>rw[hc]at hy;simp at hy
       |some c=>rw[hc]at hy;exact⟨c,rfl,ih m c y.1 y.2 hy⟩
      refine⟨rfl,?_,?_⟩
      .have each:∀i,i<len->∃x:el.den×D Ä,W.cells? 0 (a.add (i*P.cellsOf e)) (P.cellsOf e)=I x.2/\Rep (oldS W) W el x.1 x.2/\Wf el x.1:=by intro i hi;obtain⟨y,hy,hf⟩:=g1 i i (by simp[hi]);obtain⟨c,eg,_,⟨v,hv,hw⟩,_⟩:=one i y hf;exact⟨(v,c),eg,hv,hw⟩
       obtain⟨xs,nX,fj⟩:=Rx len each;have B9:∀c∈xs.map (·.2),c.length=P.cellsOf e:=by intro c hc;obtain⟨x,hx,rfl⟩:=qg.1 hc;obtain⟨i,hi⟩:=ze.1 hx;exact(J7 (fj i x hi).1).1
       refine⟨xs.map (·.1),?_,?_⟩
       .refine⟨I a,cap,by simp[nX],by simp[nX,hc.1],hc.2,af,λb hb=>?_⟩;simp only[jb]at hb;subst hb;have uh:len≠0->a.spot=none:=by intro hl;obtain⟨x,hx⟩:∃x,xs[0]? = I x:=⟨xs[0],ka aa⟩;obtain⟨k1,k2⟩:=J7 (fj 0 x hx).1;obtain⟨v,hv⟩:∃v,x.2[0]? = I v:=⟨x.2[0],ka aa⟩;have:=(RA (k2 0 v hv)).2;simpa[Addr.add]using this
        refine⟨λbr=>uh (λh0=>br (by rw[List.map_eq_nil_iff];exact js aa)),xs.map (·.2),Ry af (λi x c hx hc=>?_),λj v hv=>?_⟩
        .simp only[qm,Ö]at hx hc;obtain⟨y,hy,rfl⟩:=hx;obtain⟨z,hz,rfl⟩:=hc;rw[hy]at hz;simp at hz;subst hz;exact(fj i y hy).2.1
        .obtain⟨i,r,c,hj,hr,lQ,oU⟩:=Rz B9 hv;simp only[qm,Ö]at lQ;obtain⟨x,hx,rfl⟩:=lQ;have dj:=(J7 (fj i x hx).1).2 r v oU;have mC:i<len:=by rw[<-nX];exact(jt.1 hx).1
         have hs:=uh aa;have vz:(a.add (i*P.cellsOf e)).add r=⟨a.block,a.off+j,U⟩:=by obtain⟨g,o,s⟩:=a;simp only at hs;subst hs;simp only[Addr.add];split<;>split<;>simp<;>omega
         rw[vz]at dj;exact⟨(RA dj).1,dj⟩
       .refine⟨by simp only[zi,nX];omega,λx hx=>?_⟩;obtain⟨y,hy,rfl⟩:=qg.1 hx;obtain⟨i,hi⟩:=ze.1 hy;exact(fj i y hi).2.2
      .intro W' sp hE dp
       have keep:∀i y,y∈elems++rest->(W.cells? 0 (a.add (i*P.cellsOf e)) (P.cellsOf e)).bind (X enc P W 0 (λ_=>Â) held m e)=I y->
         (W'.cells? 0 (a.add (i*P.cellsOf e)) (P.cellsOf e)).bind (X enc P W' 0 sp held m e)=I y:=by
        intro i y hy hf;obtain⟨c,eg,_,_,hk⟩:=one i y hf;rw[hE.cells eg];exact hk W' sp hE (λq hq=>dp q (kq _ (List.mem_flatMap.2 ⟨y,hy,hq⟩)))
       unfold X;rw[hu];simp only[ko,kn];rw[if_pos hc,EX fq (λi _ y hy hf=>keep i y (kj _ hy) hf)];simp only[ja]
       have cU:(if sp a.block=Â then (Û (cap-len)).mapM (λj=>(W'.cells? 0 (a.add ((len+j)*P.cellsOf e)) (P.cellsOf e)).bind (X enc P W' 0 sp held m e)) else I [])=I rest:=by
        split
        .exact EX EY (λj _ y hy hf=>keep (len+j) y (kq _ hy) hf)
        .rename_i _2;rcases Nat.eq_zero_or_pos ((elems.length+rest.length)*P.cellsOf e) with h0|h0
         .have:rest=[]:=by
           rcases Nat.mul_eq_zero.1 h0 with h|h
           .exact js aa
           .omega
          rw[this]
         .obtain⟨q,hq,hb⟩:=_0 (a:=a) h0;have:=dp q (kj _ hq);rw[hb]at this;exact absurd this _2
       rw[cU];rfl
   .simp at h
  .simp at h
theorem Ca{n m:O}(ih:∀(t:Í)(ty:Ty),nF P n t ty=Â->∀(cs:D Ä)(d:Ü H)(ps:D Ñ),X enc P W 0 (λ_=>Â) held m t cs=I (d,ps)->B8 enc P W held m t ty cs d ps)(cs:D Ä) :
  ∀(fs:D Field)(off:O)(ty:Ty)(xs:D (Ü H×D Ñ)),ug P (nF P n) fs off ty=Â->cs.length=off+ty.size->
   fs.mapM (λf=>X enc P W 0 (λ_=>Â) held m f.type ((cs.drop f.offset).take (P.cellsOf f.type)))=I xs->
   (∃v:ty.den,Rep (oldS W) W ty v (cs.drop off)/\Wf ty v)/\
    ∀W' sp,Ext W W'->(∀q∈xs.flatMap (·.2),sp q.block=Â)->fs.mapM (λf=>X enc P W' 0 sp held m f.type ((cs.drop f.offset).take (P.cellsOf f.type)))=I xs
 |[],_,_,_,hc,_,_=>by simp[ug]at hc
 |[f],off,ty,xs,hc,hl,hm=>by
  simp only[ug,jh,jp]at hc;obtain⟨⟨ho,hz⟩,hc⟩:=hc;rw[zd]at hm;cases hf:X enc P W 0 (λ_=>Â) held m f.type ((cs.drop f.offset).take (P.cellsOf f.type)) with
  |none=>simp[hf]at hm
  |some y=>simp[hf]at hm;subst hm;obtain⟨_,hv,hk⟩:=ih f.type ty hc _ y.1 y.2 hf;rw[ho,hz,List.take_of_length_le aN]at hv;refine⟨hv,λW' sp hE dp=>?_⟩;rw[zd,hk W' sp hE (λq hq=>dp q (by simpa using hq))];rfl
 |f::g::r,off,ty,xs,hc,hl,hm=>by
  cases ty with
  |pair a b=>
   simp only[ug,jh,jp]at hc;obtain⟨⟨⟨ho,hz⟩,hc⟩,hr⟩:=hc;rw[zd]at hm;cases hf:X enc P W 0 (λ_=>Â) held m f.type ((cs.drop f.offset).take (P.cellsOf f.type)) with
   |none=>simp[hf]at hm
   |some y=>
    cases cU:(g::r).mapM (λf=>X enc P W 0 (λ_=>Â) held m f.type ((cs.drop f.offset).take (P.cellsOf f.type))) with
    |none=>rw[hf,cU]at hm;simp at hm
    |some ys=>
     rw[hf,cU]at hm;simp at hm;subst hm;have lZ:cs.length=off+(a.size+b.size):=hl;obtain⟨Az,⟨v,hv,hw⟩,hk⟩:=ih f.type a hc _ y.1 y.2 hf;obtain⟨⟨v2,I1,J8⟩,eb⟩:=Ca ih cs (g::r) (off+a.size) b ys hr aa cU;rw[ho,hz]at hv;refine⟨⟨(v,v2),⟨(cs.drop off).take a.size,cs.drop (off+a.size),?_,hv,I1⟩,hw,J8⟩,λW' sp hE dp=>?_⟩
     .rw[<-vu,qu]
     .rw[zd,hk W' sp hE (λq hq=>dp q (by simp[hq])),eb W' sp hE (λq hq=>dp q (by simp at hq ⊢;exact .inr hq))];rfl
  |_=>simp[ug]at hc
theorem RB:∀(n:O)(t:Í)(ty:Ty),nF P n t ty=Â->∀(fuel:O)(cs:D Ä)(d:Ü H)(ps:D Ñ),X enc P W 0 (λ_=>Â) held fuel t cs=I (d,ps)->
  B8 enc P W held fuel t ty cs d ps
 |0,_,_,hc,_,_,_,_,_=>by simp[nF]at hc
 |n+1,t,ty,hc,fuel,cs,d,ps,h=>by
  have ih:=RB n;cases fuel with
  |zero=>simp[X]at h
  |succ m=>
  have gn:=hc;unfold nF at hc;split at hc
  .rename_i k hu;have:=ky hc;subst this;obtain⟨z,rfl,hx,hw⟩:=DataW.trod_int hu h;refine⟨rfl,⟨z,rfl,hw⟩,λW' sp _ _=>?_⟩;simp only[jf]at hx;rw[hx.1,hx.2];exact trod_int_mk m hu hw
  .rename_i hu;have:=ky hc;subst this;obtain⟨z,rfl,hx⟩:=DataW.trod_bool hu h;refine⟨rfl,⟨z,rfl,trivial⟩,λW' sp _ _=>?_⟩;unfold X at h ⊢;rw[hu]at h ⊢;exact h
  .rename_i hu;have:=ky hc;subst this;obtain⟨z,rfl,hx,hw⟩:=DataW.trod_string hu h;refine⟨rfl,⟨z,rfl,hw⟩,λW' sp _ _=>?_⟩;unfold X at h ⊢;rw[hu]at h ⊢;exact h
  .rename_i e hu;split at hc
   .rename_i a;simp only[jh,jp]at hc;exact _1 (n:=n) hu hc.1.2 hc.2 (λm cs d ps h=>ih e a hc.1.1 m cs d ps h) h
   .simp at hc
  .rename_i fs hu;simp only[jh,jp]at hc;obtain⟨bW,hc⟩:=hc;have J9:cs.length=P.cellsOf t/\∃xs,fs.toList.mapM (λf=>X enc P W 0 (λ_=>Â) held m f.type ((cs.drop f.offset).take (P.cellsOf f.type)))=I xs/\d = .agg (xs.map (·.1))/\ps=xs.flatMap (·.2):=by obtain⟨xs,m',e1,e2,e3,e4,e5⟩:=DataW.trod_struct hu h;have:m'=m:=aa;subst this;simp only[jf]at e2;exact⟨e3,xs,Rw (by simpa using e4) (λi x hx=>e5 i x (by simpa using hx)),e2.1,e2.2⟩
   obtain⟨hl,xs,hm,rfl,rfl⟩:=J9
   have mk:∀W' sp,fs.toList.mapM (λf=>X enc P W' 0 sp held m f.type ((cs.drop f.offset).take (P.cellsOf f.type)))=I xs->
     X enc P W' 0 sp held (m+1) t cs=I (.agg (xs.map (·.1)),xs.flatMap (·.2)):=by
    intro W' sp ic
    exact trod_struct_mk hu hl (by
     first
     |exact ic
     |(intros;exact ic))
   refine⟨aa,?_,λW' sp hE dp=>?_⟩;all_goals split at hc
   .rename_i x a sd;rw[sd]at hm;obtain⟨⟨v,hv,hw⟩,_⟩:=Ca (λt ty hc cs d ps h=>ih t ty hc m cs d ps h) cs [x] 0 a xs hc (by rw[hl,bW];simp[Ty.size]) hm;exact⟨v,by simpa[Rep]using hv,hw⟩
   .rename_i x y r a b sd;rw[sd]at hm;obtain⟨⟨v,hv,hw⟩,_⟩:=Ca (λt ty hc cs d ps h=>ih t ty hc m cs d ps h) cs (x::y::r) 0 (.pair a b) xs hc aa hm;exact⟨v,by simpa using hv,hw⟩
   .simp at hc
   .rename_i x a sd;rw[sd]at hm;obtain⟨_,hk⟩:=Ca (λt ty hc cs d ps h=>ih t ty hc m cs d ps h) cs [x] 0 a xs hc (by rw[hl,bW];simp[Ty.size]) hm;exact mk W' sp (by rw[sd];exact hk W' sp hE dp)
   .rename_i x y r a b sd;rw[sd]at hm;obtain⟨_,hk⟩:=Ca (λt ty hc cs d ps h=>ih t ty hc m cs d ps h) cs (x::y::r) 0 (.pair a b) xs hc aa hm;exact mk W' sp (by rw[sd];exact hk W' sp hE dp)
   .simp at hc
  .simp at hc
end
theorem EZ{P:Ã}{W:À}{r:Reach}{base:O}{t:Í}{v:Ä}{d:TypeDesc}(hu:P.underlying t=I d)(hd:(∃k,d = .int k)\/d = .bool\/d = .string\/∃e,d = .slice e)(h:Ò P W r base t v):One v:=by
 have hc:Cell.ok P W r base t v:=by unfold Ò at h;rw[hu]at h;rcases hd with⟨k,rfl⟩|rfl|rfl|⟨e,rfl⟩<;>(dsimp only at h;unfold Cell.okWide at h;rw[hu]at h;exact h)
 unfold Cell.ok at hc;rw[hu]at hc;rcases hd with⟨k,rfl⟩|rfl|rfl|⟨e,rfl⟩<;>cases v<;>first|rfl|(exact absurd hc af)
theorem E0{H:Type}{enc:Í×Ä->H}{P:Ã}{W:À}{n:O}{t:Í}{ty:Ty}(fk:nF P n t ty=Â){r:Reach}{base:O}{v:Ä}(bA:Ò P W r base t v){d:Ü H}{p:D Ñ}
  (h:é enc P W 0 (λ_=>Â) Â t v d p) :
  ∃x:ty.den,nr (oldS W) W (.v ⟨ty,x⟩) v/\Wf ty x/\∀W' sp,Below W.heap.size W W'->(∀q∈p,sp q.block=Â)->é enc P W' 0 sp Â t v d p:=by
 obtain⟨fuel,h⟩:=h;obtain⟨_,⟨x,hx,hw⟩,hk⟩:=RB n t ty fk fuel _ d p h;refine⟨x,⟨hx,λhm=>?_,λhm=>?_⟩,hw,λW' sp hb dp=>⟨fuel,hk W' sp (λk y hy=>by rw[hb.block k (jn.1 hy).1];exact hy) dp⟩⟩
 .cases n with
  |zero=>simp[nF]at fk
  |succ n=>
   unfold nF at fk;split at fk
   .have:=ky fk;subst this;simp[gK,Ty.agg]at hm
   .have:=ky fk;subst this;simp[gK,Ty.agg]at hm
   .have:=ky fk;subst this;simp[gK,Ty.agg]at hm
   .split at fk
    .simp[gK,Ty.agg]at hm
    .simp at fk
   .rename_i hu;unfold Ò at bA;rw[hu]at bA;obtain⟨cs,dR,_⟩:=bA;exact⟨cs,dR⟩
   .simp at fk
 .cases n with
  |zero=>simp[nF]at fk
  |succ n=>
   unfold nF at fk;split at fk
   .rename_i k hu;exact EZ hu (.inl ⟨k,rfl⟩) bA
   .rename_i hu;exact EZ hu (.inr (.inl rfl)) bA
   .rename_i hu;exact EZ hu (.inr (.inr (.inl rfl))) bA
   .rename_i e hu;exact EZ hu (.inr (.inr (.inr ⟨e,rfl⟩))) bA
   .rename_i hu;simp only[jh]at fk;have h2:=fk.2;split at h2
    .simp[gK,Ty.agg]at hm
    .simp[gK,Ty.agg]at hm
    .simp at h2
   .simp at fk
def OLe{α:Type}(a b:K α):Prop:=∀r,a=I r->b=I r
theorem OLe.refl{α:Type}(a:K α):OLe a a:=λ_ h=>h
theorem OLe.none{α:Type}(a:K α):OLe U a:=λ_ h=>by simp at h
theorem OLe.bind{α β:Type}{a b:K α}{f g:α->K β}(h:OLe a b)(h':∀x,OLe (f x) (g x)):OLe (a.bind f) (b.bind g):=by
 intro r hr;cases a with
 |none=>simp at hr
 |some x=>rw[h x rfl];exact h' x r hr
theorem OLe.cond{α:Type}{c:Å}{a b a' b':K α}(h:OLe a a')(h':OLe b b'):OLe (cond c a b) (cond c a' b'):=by
 cases c with
 |true=>exact h
 |false=>exact h'
theorem OLe.sumC{α β γ:Type}{x:α ⊕ β}{f f':α->K γ}{g g':β->K γ}(h:∀x,OLe (f x) (f' x))(h':∀x,OLe (g x) (g' x)):OLe (sumC x f g) (Lft.sumC x f' g'):=by
 cases x with
 |inl a=>exact h a
 |inr b=>exact h' b
theorem OLe.loopN{α β:Type}{f g:α->K (α ⊕ β)}(h:∀s,OLe (f s) (g s)):∀(n:O)(s:α),OLe (Lft.loopN f n s) (Lft.loopN g n s)
 |0,_=> .none _
 |n+1,s=>by
  intro r hr;simp only[Lft.loopN]at hr ⊢;cases hf:f s with
  |none=>simp[hf]at hr
  |some x=>
   rw[h s x hf];cases x with
   |inl a=>simp only[hf]at hr;exact OLe.loopN h n a r hr
   |inr b=>simpa[hf]using hr
theorem OLe.loop{α β:Type}{f g:α->K (α ⊕ β)}(n:O)(s:α)(h:∀s,OLe (f s) (g s)):OLe (Lft.loopN f n s) (loopOpt g s):=
 λr hr=>BV (OLe.loopN h n s r hr)
theorem OLe.loopOpt{α β:Type}{f g:α->K (α ⊕ β)}(s:α)(h:∀s,OLe (f s) (g s)):OLe (Lft.loopOpt f s) (Lft.loopOpt g s):=by
 intro r hr;obtain⟨n,hn⟩:=BW hr;exact BV (OLe.loopN h n s r hn)
theorem RC{α β:Type}{B B':(α->K β)->α->K β}(h:∀g g',(∀a,OLe (g a) (g' a))->∀a,OLe (B g a) (B' g' a)):∀n a,OLe (pG B n a) (pG B' n a)
 |0,_=> .none _
 |n+1,a=>h _ _ (RC h n) a
theorem Ka{α β:Type}{B:(α->K β)->α->K β}(h:∀g g',(∀a,OLe (g a) (g' a))->∀a,OLe (B g a) (B g' a)):∀(k n:O)(a:α),OLe (pG B n a) (pG B (n+k) a)
 |k,0,a=> .none _
 |k,n+1,a=>by
  rw[show n+1+k=(n+k)+1 by omega];exact h _ _ (Ka h k n) a
theorem OLe.rec{α β:Type}{B B':(α->K β)->α->K β}(n:O)(a:α)(h:∀g g',(∀a,OLe (g a) (g' a))->∀a,OLe (B g a) (B' g' a))(h':∀g g',(∀a,OLe (g a) (g' a))->∀a,OLe (B' g a) (B' g' a)) :
  OLe (pG B n a) (ER B' a):=by
 intro r hr;have h1:=RC h n a r hr;refine _D ⟨n,h1⟩ λm y hy=>?_;have e1:=Ka h' m n a r h1;have e2:=Ka h' n m a y hy;rw[Nat.add_comm m n]at e2;rw[e1]at e2;simpa using e2.symm
end Go.Lft
