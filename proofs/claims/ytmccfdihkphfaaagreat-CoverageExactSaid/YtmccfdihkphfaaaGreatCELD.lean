/- N6 of arguments and CP: what is known of them but the data. Y2. -/
import Derived.Test.YtmccfdihkphfaaaGreatCELC
import Derived.KernelRfl
import Derived.IntWalk
import Derived.Below
import Derived.ChangeSame
open _root_ renaming List->D,Option->I,Nat->U,DecidableEq->Æ,Bool->Ç,Int->È,Array->Ò,True->ä,Inv->ç
open Option renaming some->O,none->X,map_eq_some_iff->Õ
open Bool renaming false->Y,true->Å
open Go.Exit renaming inBlock->Z
open Go.DataW renaming trod->À,TrodAll->à,Trod->ê
open Go renaming Program->Á,World->Â,Value->Ä,Act->É,Code->Í,TypeId->Ï,MemPlace->Ô,Oper->Ö,DataW->ß,Func->å,Addr->í
open Go.Code renaming region->Ã,cond->Î,block->Ñ
open List renaming length->Ê,length_append->Ì,range->Ø,length_range->Ú,find?_cons->Û,mapM_cons->Ü,getD->Þ,isEmpty->á,range'->æ
open Decidable renaming decide->Ë
open Go.Region renaming wanted->Ð
open Go.Value renaming okWide->Ó
noncomputable section
set_option linter.unusedVariables false
namespace Go.Lft
inductive CPat where
 |v (t:Ty)
 |p (ts:D Ty)
 deriving Æ
inductive LPat where
 |dead|nil
 |d (t:Ty)
 |ol (k:U)
 |bp (k c:U)
 |ep (k i c:U)
 |tl (k:U)
 |hd (k:U)
 |ip (ts:D Ty)
 |clo (f:U) (caps:D CPat)
 |clr (f:U) (ks:D U)
 deriving Æ
inductive KPat where
 |one (l:LPat)
 |st (ls:D LPat)
 |av (n:U) (a:Ty)
 deriving Æ
inductive BPat where
 |free|gone
 |cell (ls:D LPat) (frz:Ç)
 |lst (e:U) (a:Ty) (frz:Ç)
 |arr (n:U) (a:Ty)
 |row (e:U) (a:Ty) (n:U) (ls:D LPat)
 deriving Æ
inductive IPat where
 |s (c:KPat)
 |b (x:BPat)
 deriving Æ
abbrev iT:Ty:= .int .i64
abbrev sI:IPat:= .s (.one (.d iT))
abbrev sD(t:Ty):IPat:= .s (.one (.d t))
abbrev sO(k:U):IPat:= .s (.one (.ol k))
abbrev sB(k c:U):IPat:= .s (.one (.bp k c))
abbrev sC(f:U)(l:D CPat):IPat:= .s (.one (.clo f l))
inductive APat where
 |v (t:Ty)
 |ref (ts:D Ty)
 |rl (e:U) (t:Ty)
 |ip (ts:D Ty)
 |clo (f:U) (caps:D CPat)
 |mv (e:U) (t:Ty)
 deriving Æ
@[reducible] def HL:List Ty->Type
 |[]=>Unit
 |[t]=>t.den
 |t::t'::ts=>t.den×HL (t'::ts)
def ofHL:(ts:D Ty)->HL ts->D TV
 |[],_=>[]
 |[t],h=>[⟨t,h⟩]
 |t::t'::ts,h=>⟨t,h.1⟩::ofHL (t'::ts) h.2
def toHL:(ts:D Ty)->D TV->I (HL ts)
 |[],[]=>O ()
 |[t],[x]=>x.to t
 |t::t'::ts,x::xs=>match x.to t with
  |some v=>match toHL (t'::ts) xs with
   |some r=>O (v,r)
   |none=>X
  |none=>X
 |_,_=>X
theorem IU:∀{ts:D Ty}{xs:D TV}{h:HL ts},toHL ts xs=O h->xs=ofHL ts h
 |[],[],_,_=>rfl
 |[],_::_,_,h=>by simp[toHL]at h
 |[_],[],_,h=>by simp[toHL]at h
 |[t],[x],hl,h=>by
  simp only[toHL]at h;rw[oe h];rfl
 |[t],x::y::xs,hl,h=>by simp[toHL]at h
 |_::_::_,[],_,h=>by simp[toHL]at h
 |t::t'::ts,x::xs,hl,h=>by
  simp only[toHL]at h;split at h
  .rename_i v hv;split at h
   .rename_i r hr;simp only[j5]at h;subst h;rw[oe hv,IU hr];rfl
   .simp at h
  .simp at h
def capP:Cap->CPat×D TV
 |.v x=>(.v x.t,[x])
 |.p ls=>(.p (ls.map (·.t)),ls)
def pV:D Cap->D CPat×D TV
 |[]=>([],[])
 |c::cs=>((capP c).1::(pV cs).1,(capP c).2++(pV cs).2)
def tv0:TV:=⟨.unit,()⟩
def capF:CPat->D TV->Cap
 |.v _,xs=> .v (xs.headD tv0)
 |.p ts,xs=> .p (xs.take ts.length)
def CPat.n:CPat->U
 |.v _=>1
 |.p ts=>ts.length
def CQ:D CPat->D TV->D Cap
 |[],_=>[]
 |c::cs,xs=>capF c xs::CQ cs (xs.drop c.n)
def CR:D CPat->U
 |[]=>0
 |c::cs=>c.n+CR cs
theorem jIm(c:Cap)(r:D TV):capF (capP c).1 ((capP c).2++r)=c/\(capP c).1.n=(capP c).2.length:=by
 cases c<;>grind[capP,capF,CPat.n]
theorem IV:∀(cs:D Cap)(r:D TV),CQ (pV cs).1 ((pV cs).2++r)=cs/\CR (pV cs).1=(pV cs).2.length
 |[],r=>⟨rfl,rfl⟩
 |c::cs,r=>by
  simp only[pV,CQ,CR,jk,Ì];have h1:=jIm c ((pV cs).2++r);have h2:=IV cs r;rw[h1.1,h1.2,zk,h2.1,h2.2];exact⟨rfl,rfl⟩
def uM:Leaf->LPat×D TV
 |.dead=>(.dead,[])
 |.nil=>(.nil,[])
 |.d t v=>(.d t,[⟨t,v⟩])
 |.ol k=>(.ol k,[])
 |.bp k c=>(.bp k c,[])
 |.ep k i c=>(.ep k i c,[])
 |.tl k i=>(.tl k,[⟨.int .i64,(i:È)⟩])
 |.hd k i=>(.hd k,[⟨.int .i64,(i:È)⟩])
 |.ip ls=>(.ip (ls.map (·.t)),ls)
 |.clo f caps=>(.clo f (pV caps).1,(pV caps).2)
 |.clr f ks=>(.clr f ks,[])
def N7:TV->U
 |⟨.int _,v⟩=>Int.toNat v
 |_=>0
def LPat.n:LPat->U
 |.d _=>1
 |.tl _=>1
 |.hd _=>1
 |.ip ts=>ts.length
 |.clo _ cs=>CR cs
 |_=>0
def FA:LPat->D TV->Leaf
 |.dead,_=> .dead
 |.nil,_=> .nil
 |.d _,xs=> .d (xs.headD tv0).t (xs.headD tv0).v
 |.ol k,_=> .ol k
 |.bp k c,_=> .bp k c
 |.ep k i c,_=> .ep k i c
 |.tl k,xs=> .tl k (N7 (xs.headD tv0))
 |.hd k,xs=> .hd k (N7 (xs.headD tv0))
 |.ip ts,xs=> .ip (xs.take ts.length)
 |.clo f cs,xs=> .clo f (CQ cs xs)
 |.clr f ks,_=> .clr f ks
theorem Y3(l:Leaf)(r:D TV):FA (uM l).1 ((uM l).2++r)=l/\(uM l).1.n=(uM l).2.length:=by
 cases l with
 |ip ls=>simp[uM,FA,LPat.n]
 |clo f cs=>grind[IV,uM,FA,LPat.n]
 |_=>exact⟨rfl,rfl⟩
def pW:D Leaf->D LPat×D TV
 |[]=>([],[])
 |c::cs=>((uM c).1::(pW cs).1,(uM c).2++(pW cs).2)
def CS:D LPat->D TV->D Leaf
 |[],_=>[]
 |c::cs,xs=>FA c xs::CS cs (xs.drop c.n)
def CT:D LPat->U
 |[]=>0
 |c::cs=>c.n+CT cs
theorem IW:∀(cs:D Leaf)(r:D TV),CS (pW cs).1 ((pW cs).2++r)=cs/\CT (pW cs).1=(pW cs).2.length
 |[],r=>⟨rfl,rfl⟩
 |c::cs,r=>by
  simp only[pW,CS,CT,jk,Ì];have h1:=Y3 c ((pW cs).2++r);have h2:=IW cs r;rw[h1.1,h1.2,zk,h2.1,h2.2];exact⟨rfl,rfl⟩
def celP:Cel->KPat×D TV
 |.one l=>(.one (uM l).1,(uM l).2)
 |.st ls=>(.st (pW ls).1,(pW ls).2)
 |.av n a xs=>(.av n a,[⟨.list a,xs⟩])
def FB(a:Ty)(xs:D TV):D a.den:=((xs.headD tv0).to (.list a)).getD []
theorem N8(a:Ty)(xs:D a.den)(r:D TV):FB a (⟨.list a,xs⟩::r)=xs:=by
 simp[FB,TV.to]
def KPat.n:KPat->U
 |.one l=>l.n
 |.st ls=>CT ls
 |.av _ _=>1
def celF:KPat->D TV->Cel
 |.one l,xs=> .one (FA l xs)
 |.st ls,xs=> .st (CS ls xs)
 |.av n a,xs=> .av n a (FB a xs)
theorem jIn(c:Cel)(r:D TV):celF (celP c).1 ((celP c).2++r)=c/\(celP c).1.n=(celP c).2.length:=by
 cases c with
 |one l=>have:=Y3 l r;exact⟨by grind[celP,celF],this.2⟩
 |st ls=>have:=IW ls r;exact⟨by grind[celP,celF],this.2⟩
 |av n a xs=>exact⟨by grind[celP,celF,N8],rfl⟩
def bsP:BS->BPat×D TV
 |.free=>(.free,[])
 |.gone=>(.gone,[])
 |.live (.cell ls f)=>(.cell (pW ls).1 f,(pW ls).2)
 |.live (.lst e a xs f)=>(.lst e a f,[⟨.list a,xs⟩])
 |.live (.arr n a xs)=>(.arr n a,[⟨.list a,xs⟩])
 |.live (.row e a n ls)=>(.row e a n (pW ls).1,(pW ls).2)
def BPat.n:BPat->U
 |.free|.gone=>0
 |.cell ls _=>CT ls
 |.lst _ _ _=>1
 |.arr _ _=>1
 |.row _ _ _ ls=>CT ls
def bsF:BPat->D TV->BS
 |.free,_=> .free
 |.gone,_=> .gone
 |.cell ls f,xs=> .live (.cell (CS ls xs) f)
 |.lst e a f,xs=> .live (.lst e a (FB a xs) f)
 |.arr n a,xs=> .live (.arr n a (FB a xs))
 |.row e a n ls,xs=> .live (.row e a n (CS ls xs))
theorem jJM(c:BS)(r:D TV):bsF (bsP c).1 ((bsP c).2++r)=c/\(bsP c).1.n=(bsP c).2.length:=by
 cases c with
 |free=>exact⟨rfl,rfl⟩
 |gone=>exact⟨rfl,rfl⟩
 |live b=>
  cases b with
  |cell ls f=>have:=IW ls r;exact⟨by grind[bsP,bsF],this.2⟩
  |lst e a xs f=>exact⟨by grind[bsP,bsF,N8],rfl⟩
  |arr n a xs=>exact⟨by grind[bsP,bsF,N8],rfl⟩
  |row e a n ls=>have:=IW ls r;exact⟨by grind[bsP,bsF],this.2⟩
def itP:Item->IPat×D TV
 |.s c=>(.s (celP c).1,(celP c).2)
 |.b x=>(.b (bsP x).1,(bsP x).2)
def IPat.n:IPat->U
 |.s c=>c.n
 |.b x=>x.n
def itF:IPat->D TV->Item
 |.s c,xs=> .s (celF c xs)
 |.b x,xs=> .b (bsF x xs)
theorem Y4(c:Item)(r:D TV):itF (itP c).1 ((itP c).2++r)=c/\(itP c).1.n=(itP c).2.length:=by
 cases c with
 |s c=>have:=jIn c r;exact⟨by grind[itP,itF],this.2⟩
 |b x=>have:=jJM x r;exact⟨by grind[itP,itF],this.2⟩
def nR:Snap->D IPat×D TV
 |[]=>([],[])
 |c::cs=>((itP c).1::(nR cs).1,(itP c).2++(nR cs).2)
def AB:D IPat->D TV->Snap
 |[],_=>[]
 |c::cs,xs=>itF c xs::AB cs (xs.drop c.n)
theorem Y5:∀(cs:Snap),AB (nR cs).1 (nR cs).2=cs
 |[]=>rfl
 |c::cs=>by
  simp only[nR,AB];have h1:=Y4 c (nR cs).2;rw[h1.1,h1.2,zk,Y5 cs]
def pack(ps:D IPat)(ts:D Ty)(h:HL ts):Snap:=AB ps (ofHL ts h)
def tI(ps:D IPat)(ts:D Ty)(s:Snap):I (HL ts):=
 if (nR s).1=ps then toHL ts (nR s).2 else X
theorem CU{ps:D IPat}{ts:D Ty}{s:Snap}{h:HL ts}(hs:tI ps ts s=O h):s=pack ps ts h:=by
 grind[tI,IU,pack,Y5]
def argP:Arg->APat×D TV
 |.v x=>(.v x.t,[x])
 |.ref ls=>(.ref (ls.map (·.t)),ls)
 |.rl e x=>(.rl e x.t,[x])
 |.ip ls=>(.ip (ls.map (·.t)),ls)
 |.clo f cs=>(.clo f (pV cs).1,(pV cs).2)
 |.mv e x=>(.mv e x.t,[x])
def APat.n:APat->U
 |.v _=>1
 |.ref ts=>ts.length
 |.rl _ _=>1
 |.ip ts=>ts.length
 |.clo _ cs=>CR cs
 |.mv _ _=>1
def argF:APat->D TV->Arg
 |.v _,xs=> .v (xs.headD tv0)
 |.ref ts,xs=> .ref (xs.take ts.length)
 |.rl e _,xs=> .rl e (xs.headD tv0)
 |.ip ts,xs=> .ip (xs.take ts.length)
 |.clo f cs,xs=> .clo f (CQ cs xs)
 |.mv e _,xs=> .mv e (xs.headD tv0)
theorem jIp(c:Arg)(r:D TV):argF (argP c).1 ((argP c).2++r)=c/\(argP c).1.n=(argP c).2.length:=by
 cases c<;>grind[argP,argF,APat.n,IV]
def wA:D Arg->D APat×D TV
 |[]=>([],[])
 |c::cs=>((argP c).1::(wA cs).1,(argP c).2++(wA cs).2)
def CX:D APat->D TV->D Arg
 |[],_=>[]
 |c::cs,xs=>argF c xs::CX cs (xs.drop c.n)
theorem Y6:∀(cs:D Arg),CX (wA cs).1 (wA cs).2=cs
 |[]=>rfl
 |c::cs=>by
  simp only[wA,CX];have h1:=jIp c (wA cs).2;rw[h1.1,h1.2,zk,Y6 cs]
def tJ(ps:D APat)(ts:D Ty)(h:HL ts):D Arg:=CX ps (ofHL ts h)
def IX(ps:D APat)(ts:D Ty)(s:D Arg):I (HL ts):=
 if (wA s).1=ps then toHL ts (wA s).2 else X
theorem IY{ps:D APat}{ts:D Ty}{s:D Arg}{h:HL ts}(hs:IX ps ts s=O h):s=tJ ps ts h:=by
 grind[IX,IU,tJ,Y6]
theorem N9{α β:Type}{f:α->I (α ⊕ β)}:∀{n m:U}{s:α}{x y:β},loopN f n s=O x->loopN f m s=O y->x=y
 |0,_,_,_,_,h,_=>by simp[loopN]at h
 |_+1,0,_,_,_,_,h=>by simp[loopN]at h
 |n+1,m+1,s,x,y,h,h'=>by
  simp only[loopN]at h h';cases hf:f s with
  |none=>simp[hf]at h
  |some r=>
   cases r with
   |inl s'=>simp only[hf]at h h';exact N9 h h'
   |inr z=>simp only[hf,j5]at h h';rw[<-h,<-h']
open Classical in
def loopOpt{α β:Type}(f:α->I (α ⊕ β))(s:α):I β:=
 match loopN f 100000 s with
 |some x=>O x
 |none=>if h:∃x n,loopN f n s=O x then O h.choose else X
theorem FC{α β:Type}{f:α->I (α ⊕ β)}{s:α}{n:U}{x:β}(h:loopN f n s=O x):loopOpt f s=O x:=by
 unfold loopOpt;split
 .grind[N9]
 have hx:∃x n,loopN f n s=O x:=⟨x,n,h⟩;grind[N9]
theorem FD{α β:Type}{f:α->I (α ⊕ β)}{s:α}{x:β}(h:loopOpt f s=O x):∃n,loopN f n s=O x:=by
 unfold loopOpt at h;split at h
 .grind
 split at h;all_goals grind
theorem juS{α β:Type}{f:α->I (α ⊕ β)}{s s':α}(h:f s=O (.inl s')):loopOpt f s=loopOpt f s':=by
 cases hq:loopOpt f s' with
 |some x=>obtain⟨n,hn⟩:=FD hq;exact FC (n:=n+1) (by grind[loopN])
 |none=>
  cases hp:loopOpt f s with
  |none=>rfl
  |some x=>obtain⟨n,hn⟩:=FD hp;cases n<;>grind[loopN,FC]
theorem jwJ{α β:Type}{f:α->I (α ⊕ β)}{s:α}{x:β}(h:f s=O (.inr x)):loopOpt f s=O x:=
 FC (n:=1) (by simp only[loopN,h])
theorem Y7{α β A B:Type}{f:α->I (α ⊕ β)}{g:A->I (A ⊕ B)}{p:A->α}{q:B->β}
  (h:∀a r,g a=O r->f (p a)=O (match r with|.inl a'=> .inl (p a')|.inr b=> .inr (q b))):∀{n:U}{a:A}{x:B},loopN g n a=O x->loopN f n (p a)=O (q x)
 |0,_,_,hn=>by simp[loopN]at hn
 |n+1,a,x,hn=>by
  simp only[loopN]at hn;cases hg:g a with
  |none=>simp[hg]at hn
  |some r=>
   have:=h a r hg;cases r with
   |inl a'=>simp only[hg]at hn;simp only[loopN,this];exact Y7 h hn
   |inr b=>grind[loopN]
def sumC{α β γ:Type}(x:α ⊕ β)(f:α->γ)(g:β->γ):γ:=match x with
 |.inl a=>f a
 |.inr b=>g b
structure XD where
 ex:Ex
 ps:D IPat
 ts:D Ty
@[reducible] def XT:List XD->Type
 |[]=>Empty
 |[x]=>HL x.ts
 |x::y::r=>HL x.ts ⊕ XT (y::r)
def tK:(l:D XD)->XT l->Ex×Snap
 |[],h=>nomatch h
 |[x],h=>(x.ex,pack x.ps x.ts h)
 |x::y::r,h=>match h with
  |.inl a=>(x.ex,pack x.ps x.ts a)
  |.inr b=>tK (y::r) b
def FE{R:Type}:(l:D XD)->XT l->(Ex->Snap->I R)->I R
 |[],_,_=>X
 |[x],h,k=>k x.ex (pack x.ps x.ts h)
 |x::y::r,h,k=>sumC h (λa=>k x.ex (pack x.ps x.ts a)) (λb=>FE (y::r) b k)
theorem Oa{R:Type}:∀(l:D XD)(h:XT l)(k:Ex->Snap->I R),FE l h k=k (tK l h).1 (tK l h).2
 |[],h,_=>nomatch h
 |[x],h,k=>rfl
 |x::y::r,h,k=>by
  cases h with
  |inl a=>rfl
  |inr b=>exact Oa (y::r) b k
def unX:(l:D XD)->Ex->Snap->I (XT l)
 |[],_,_=>X
 |[x],e,s=>if e=x.ex then tI x.ps x.ts s else X
 |x::y::r,e,s=>if e=x.ex/\(nR s).1=x.ps then match tI x.ps x.ts s with
   |some a=>O (.inl a)
   |none=>X
  else match unX (y::r) e s with
   |some b=>O (.inr b)
   |none=>X
theorem Ob:∀(l:D XD)(e:Ex)(s:Snap)(x:XT l),unX l e s=O x->tK l x=(e,s)
 |[],_,_,_,h=>by simp[unX]at h
 |[x],e,s,h,he=>by
  simp only[unX]at he;split at he
  .rename_i h1;rw[tK,<-CU he,h1]
  .simp at he
 |x::y::r,e,s,h,he=>by
  simp only[unX]at he;split at he
  .rename_i h1;split at he
   .rename_i a ha;simp only[j5]at he;subst he;show (x.ex,pack x.ps x.ts a)=(e,s);rw[<-CU ha,h1.1]
   .simp at he
  .split at he
   .rename_i b hb;simp only[j5]at he;subst he;exact Ob (y::r) e s b hb
   .simp at he
structure nS where
 b:U
 ps:D IPat
 ts:D Ty
 exits:D XD
 step:HL ts->I (HL ts ⊕ XT exits)
def wB:D nS->U->Snap->(R:Type)->(Ex->Snap->I R)->I R
 |[],_,_,_,_=>X
 |d::ds,b,s,R,k=>if d.b=b then match tI d.ps d.ts s with
   |some h=>(loopOpt d.step h).bind λx=>FE d.exits x k
   |none=>X
  else wB ds b s R k
theorem Oc:∀ds:D nS,LFun (wB ds)
 |[]=>λ_ _=>⟨X,λ_ _=>rfl⟩
 |d::ds=>λb s=>by
  simp only[wB];split
  .split
   .rename_i h _;cases hq:loopOpt d.step h with
    |none=>exact⟨X,λ_ _=>rfl⟩
    |some x=>exact⟨O (tK d.exits x),λR k=>Oa d.exits x k⟩
   .exact⟨X,λ_ _=>rfl⟩
  .exact Oc ds b s
structure MrD where
 b:U
 m:U
 nm:U
 ps:D IPat
 ts:D Ty
 em:U
 v:Ty
 G:HL ts->È->v.den->(R:Type)->(v.den->I R)->I R
def mrL:D MrD->U->Snap->(R:Type)->(Snap->I R)->I R
 |[],_,_,_,_=>X
 |d::ds,b,s,R,k=>if d.b=b then match tI d.ps d.ts s,xm d.em d.v s with
   |some h,O xs=>(vD (λq z=>d.G h q z d.v.den O) xs).bind λys=>k (mo s d.em d.v ys)
   |_,_=>X
  else mrL ds b s R k
def mrF:D MrD->U->I (U×U)
 |[],_=>X
 |d::ds,b=>if d.b=b then O (d.m,d.nm) else mrF ds b
theorem Od:∀ds:D MrD,MFun (mrL ds)
 |[]=>λ_ _=>⟨X,λ_ _=>rfl⟩
 |d::ds=>λb s=>by
  simp only[mrL];split
  .split
   .rename_i h xs _ _;cases vD (λq z=>d.G h q z d.v.den O) xs with
    |none=>exact⟨X,λ_ _=>rfl⟩
    |some ys=>exact⟨O (mo s d.em d.v ys),λ_ _=>rfl⟩
   .exact⟨X,λ_ _=>rfl⟩
  .exact Od ds b s
theorem Y8{b m nm:U}:∀{ds:D MrD},mrF ds b=O (m,nm)->∃d∈ds,d.b=b/\d.m=m/\d.nm=nm/\∀s R k,mrL ds b s R k=match tI d.ps d.ts s,xm d.em d.v s with
   |some h,O xs=>(vD (λq z=>d.G h q z d.v.den O) xs).bind λys=>k (mo s d.em d.v ys)
   |_,_=>X
 |[],h=>by simp[mrF]at h
 |d::ds,h=>by
  simp only[mrF]at h;split at h
  .rename_i hb;simp only[j5,j9]at h;refine⟨d,ae,hb,h.1,h.2,λs R k=>?_⟩;simp only[mrL,hb,if_true]
  .rename_i hb;obtain⟨d',hm,h1,h2,h3,h4⟩:=Y8 h;refine⟨d',by simp[hm],h1,h2,h3,λs R k=>?_⟩;rw[<-h4];simp only[mrL,hb,zv]
def mrPd(b:U)(c:Í):MrP:=(mrP b c).getD ⟨0,0,0,0,0, #[],.skip⟩
structure Oe(E:Env)(c:Í)(d:MrD):Prop where
 em:isM d.em=Å
 bx:∀h zs,(dz E.np (E.keep d.b) (mo (pack d.ps d.ts h) d.em d.v zs)).bx d.nm = .live (.lst d.em (.pair (.int .i64) d.v) zs Y)
 sl:∀h zs,(dz E.np (E.keep d.b) (mo (pack d.ps d.ts h) d.em d.v zs)).sl d.m = .one (.one (.ol d.nm))
 step:∀h zs q z (R:Type) (k:Snap->I R),HQ E d.b (mrPd d.b c) d.m (mo (pack d.ps d.ts h) d.em d.v zs) d.v q z k=
  d.G h q z R (λy=>k (mo (pack d.ps d.ts h) d.em d.v (@kV _ _ (Ty.int .i64).keq zs q y)))
theorem jGU(t:Ty)(v:t.den):(TV.mk t v).to t=O v:=by simp[TV.to]
theorem jzQ(s:Snap)(em:U)(v:Ty)(zs:D (È×v.den)):xm em v (mo s em v zs)=O zs:=by
 grind[xm,mo,jGU]
theorem jBK{em:U}{v:Ty}{s:Snap}{xs:D (È×v.den)}(h:xm em v s=O xs):s=mo s em v xs:=by
 unfold xm at h;split at h
 .rename_i e a zs hl;split at h
  .rename_i he;subst he;have:=oe h;grind[List.getLast?_eq_some_iff,mo]
  .simp at h
 .simp at h
theorem Y9{α β:Type}{G:α->β->I β}:∀{xs ys:D (α×β)},vD G xs=O ys->All2 (λx y=>y.1=x.1/\G x.1 x.2=O y.2) xs ys
 |[],ys,h=>by
  simp only[vD,j5]at h;subst h;trivial
 |x::r,ys,h=>by
  simp only[vD]at h;cases hg:G x.1 x.2 with
  |none=>rw[hg]at h;simp at h
  |some z=>
   rw[hg,j4]at h;cases hr:vD G r with
   |none=>rw[hr]at h;simp at h
   |some r'=>rw[hr,j4,j5]at h;subst h;exact⟨⟨rfl,hg⟩,Y9 hr⟩
theorem jGV{E:Env}(h0:E.off0=E)(hF:CFun E.C)(hz:E.nz=Y)(hL:LFun E.L/\MFun E.M){c:Í}{ds:D MrD}{b:U}(hm:E.mr=mrF ds)(hM:E.M=mrL ds)(hs:∀d∈ds,d.b=b->Oe E c d):MrOK E b c:=by
 intro m nm p hb hp s R k r h;rw[h0];rw[hm]at hb;obtain⟨d,hd,rfl,rfl,rfl,he⟩:=Y8 hb;have ca:=hs d hd rfl;rw[hM,he]at h;split at h
 case h_2=>simp at h
 rename_i hh xs hu hg;cases hq:vD (λq z=>d.G hh q z d.v.den O) xs with
 |none=>simp_all
 |some ys=>
 rw[hq,j4]at h;obtain rfl:=CU hu;have hpd:mrPd d.b c=p:=by grind[mrPd]
 refine⟨d.em,d.v,xs,ys,ca.em,jBK hg,λzs=>⟨ca.bx hh zs,ca.sl hh zs⟩,(Y9 hq).mono λx y iw=>⟨iw.1,λzs=>?_⟩,h⟩;obtain⟨o,ho⟩:=jzL hF hz hL d.b p d.m (mo (pack d.ps d.ts hh) d.em d.v []) d.v x.1 x.2;have aW:=λzs R k=>ca.step hh zs x.1 x.2 R k;rw[hpd]at aW
 let inv:Snap->d.v.den:=λs=>match xm d.em d.v s with
  |some ((_,y)::_)=>y
  |_=>d.v.dflt
 have hinv:∀y,inv (mo (pack d.ps d.ts hh) d.em d.v (@kV _ _ (Ty.int .i64).keq [] x.1 y))=y:=λy=>by
  show (match xm d.em d.v _ with
   |some ((_,y)::_)=>y
   |_=>d.v.dflt)=y
  rw[jzQ];rfl
 have hG:∀(R:Type)(κ:d.v.den->I R),d.G hh x.1 x.2 R κ=o.bind λs=>κ (inv s):=λR κ=>by
  rw[<-ho]
  simp_all
 rw[aW,hG];have h2:=iw.2;rw[hG]at h2;cases o with
 |none=>simp at h2
 |some s0=>
  simp_all
def mrAt(c:Í)(b:U):Code:=(((gj 0 c).find? λx=>Nat.beq x.1 b).getD (0,.skip)).2
def AD(E:Env)(c:Í):D MrD->Prop
 |[]=>ä
 |d::ds=>Oe E (mrAt c d.b) d/\AD E c ds
theorem AD.get{E:Env}{c:Í}:∀{ds:D MrD},AD E c ds->∀d∈ds,Oe E (mrAt c d.b) d
 |[],_,d,h=>by simp at h
 |x::r,hs,d,h=>by
  rcases jb.1 h with rfl|h
  .exact hs.1
  .exact AD.get hs.2 d h
theorem Za:∀{l:D (U×Í)}{x:U×Í},(l.map (·.1)).Nodup->x∈l->l.find? (λy=>Nat.beq y.1 x.1)=O x
 |[],x,_,h=>by simp at h
 |y::r,x,hn,h=>by
  have hc:=qk.1 (show (y.1::r.map (·.1)).Nodup from hn);rcases jb.1 h with rfl|h
  .rw[Û,Nat.beq_refl]
  .have bD:y.1≠x.1:=λe=>hc.1 (e▸k7.2 ⟨x,h,rfl⟩);rw[Û,beqF bD];exact Za hc.2 h
def uk(E:Env)(d:nS)(e:Ex)(σ:St):I (HL d.ts ⊕ XT d.exits):=
 match e with
 |.normal=>match kX E.np (E.keep d.b) σ with
  |some s=>match tI d.ps d.ts s with
   |some h=>O (.inl h)
   |none=>X
  |none=>X
 |e=>match kX E.np (E.keepX d.b e) σ with
  |some s=>match unX d.exits e s with
   |some x=>O (.inr x)
   |none=>X
  |none=>X
def ukR(E:Env)(d:nS)(ps:Ò U)(x y:Í)(p:I (D Item))(e:Ex)(σ:St):I (HL d.ts ⊕ XT d.exits):=
 match p,e with
 |some q,.normal=>match kX E.np (E.keep d.b) σ with
  |some s=>match tI d.ps d.ts (q++s) with
   |some h=>O (.inl h)
   |none=>X
  |none=>X
 |_,e=>cond (pinK ps x y (E.keepX d.b e)) (match kX E.np (E.keepX d.b e) σ with
  |some s=>match unX d.exits e s with
   |some x=>O (.inr x)
   |none=>X
  |none=>X) X
def jEf(E:Env)(d:nS)(h:HL d.ts):Í->I (HL d.ts ⊕ XT d.exits)
 |.rangeFunc g ps x y=>D7 E d.b g ps x y (pack d.ps d.ts h) (ukR E d ps x y)
 |c=>fP E d.b c (dz E.np (E.keep d.b) (pack d.ps d.ts h)) (uk E d)
def IZ(E:Env)(c:Í)(d:nS):Prop:=∀h,jEf E d h c=d.step h
def outS(d:nS)(r:HL d.ts ⊕ XT d.exits):Snap ⊕ Ex×Snap:=match r with
 |.inl a=> .inl (pack d.ps d.ts a)
 |.inr x=> .inr (tK d.exits x)
theorem jIq{E:Env}(hF:CFun E.C)(hz:E.nz=Y)(hL:LFun E.L/\MFun E.M){g:Operand}{ps:Ò U}{x y:Í}{d:nS}(hs:IZ E (.rangeFunc g ps x y) d)(h:HL d.ts)(r:HL d.ts ⊕ XT d.exits):d.step h=O r->
  xn E d.b g ps x y (pack d.ps d.ts h)=O (outS d r):=by
 intro hr;obtain⟨o,ho⟩:=jwH hF hz hL d.b g ps x y (pack d.ps d.ts h);rw[<-hs h]at hr;have h1:O r=_:=hr.symm.trans (ho _ (λz=>ukR E d ps x y z.1 z.2.1 z.2.2));cases o with
 |none=>simp at h1
 |some z=>
  obtain⟨p,e,σ⟩:=z;simp only[j4]at h1
  have h2:=ho _ (λz:I (D Item)×Ex×St=>match z.1,z.2.1 with
   |some q,.normal=>match kX E.np (E.keep d.b) z.2.2 with
    |some s'=>O (Sum.inl (q++s'))
    |none=>X
   |_,e=>cond (pinK ps x y (E.keepX d.b e)) (match kX E.np (E.keepX d.b e) z.2.2 with
    |some s'=>O (Sum.inr (e,s'))
    |none=>X) X)
  have h3:xn E d.b g ps x y (pack d.ps d.ts h)=_:=h2;rw[h3,j4];clear h3 h2 hr ho;dsimp only;have h1:=h1.symm;unfold ukR at h1
  have hx:∀e,(cond (pinK ps x y (E.keepX d.b e)) (match kX E.np (E.keepX d.b e) σ with
    |some s=>match unX d.exits e s with
     |some x=>O (Sum.inr x)
     |none=>X
    |none=>X) X:I (HL d.ts ⊕ XT d.exits))=O r->(cond (pinK ps x y (E.keepX d.b e)) (match kX E.np (E.keepX d.b e) σ with
    |some s'=>O (Sum.inr (e,s'))
    |none=>X) X:I (Snap ⊕ Ex×Snap))=O (outS d r):=by
   grind[outS,Ob]
  cases p<;>grind[outS,CU]
theorem jEg{E:Env}(hF:CFun E.C)(hz:E.nz=Y)(hL:LFun E.L/\MFun E.M){c:Í}{d:nS}(hs:∀h,fP E d.b c (dz E.np (E.keep d.b) (pack d.ps d.ts h)) (uk E d)=d.step h)(h:HL d.ts)(r:HL d.ts ⊕ XT d.exits):d.step h=O r->
  zB E d.b c (pack d.ps d.ts h)=O (match r with|.inl a=> .inl (pack d.ps d.ts a)|.inr x=> .inr (tK d.exits x)):=by
 intro hr;obtain⟨o,ho⟩:=Fz hF hz hL c d.b (dz E.np (E.keep d.b) (pack d.ps d.ts h));rw[<-hs h]at hr;have h1:O r=_:=hr.symm.trans (ho _ (λz=>uk E d z.1 z.2));cases o with
 |none=>simp at h1
 |some z=>
  obtain⟨e,σ⟩:=z;simp only[j4]at h1
  have h2:=ho _ (λz:Ex×St=>match z.1 with
   |.normal=>match kX E.np (E.keep d.b) z.2 with
    |some s'=>O (Sum.inl s')
    |none=>X
   |e=>match kX E.np (E.keepX d.b e) z.2 with
    |some s'=>O (Sum.inr (e,s'))
    |none=>X)
  have h3:zB E d.b c (pack d.ps d.ts h)=_:=h2;grind[uk,CU,Ob]
theorem jBM{E:Env}(h0:E.off0=E)(hF:CFun E.C)(hz:E.nz=Y)(hL:LFun E.L/\MFun E.M){c:Í}{d:nS}(hs:IZ E c d)
  (he:∀s R k,E.L d.b s R k=match tI d.ps d.ts s with|some h=>(loopOpt d.step h).bind λx=>FE d.exits x k|none=>X):CH E d.b c:=by
 intro s R k r h;rw[he]at h;split at h
 .rename_i hl hu;cases hq:loopOpt d.step hl with
  |none=>simp[hq]at h
  |some x=>
   rw[hq,j4,Oa]at h;obtain⟨n,hn⟩:=FD hq;refine⟨n,(tK d.exits x).1,(tK d.exits x).2,?_,h⟩;rw[CU hu]
   exact Y7 (f:=D8 E d.b c) (p:=pack d.ps d.ts) (q:=tK d.exits) (λa r hr=>by
    have hq:=h0;unfold D8;rw[hq];cases c with
    |rangeFunc g ps x y=>have:=jIq hF hz hL hs a r hr;cases r<;>exact this
    |_=>have:=jEg hF hz hL hs a r hr;cases r<;>exact this) hn
 .simp at h
def lpAt(c:Í)(j:U):Code:=((gj 0 c).getD j (0,.skip)).2
def yl(E:Env)(c:Í):U->D nS->Prop
 |_,[]=>ä
 |j,d::ds=>IZ E (lpAt c j) d/\yl E c (j+1) ds
theorem yl.get{E:Env}{c:Í}:∀{ds:D nS}{i j:U}{d:nS},yl E c i ds->ds[j]? = O d->IZ E (lpAt c (i+j)) d
 |[],_,_,_,_,h=>by simp at h
 |x::xs,i,0,d,hs,h=>by simp at h;subst h;exact hs.1
 |x::xs,i,j+1,d,hs,h=>by
  have:=yl.get (i:=i+1) (j:=j) hs.2 (by simpa using h);grind
theorem Zb:∀{ds:D nS}{j:U}{d:nS},pL (ds.map (·.b))=Å->ds[j]? = O d->∀s R k,wB ds d.b s R k=match tI d.ps d.ts s with|some h=>(loopOpt d.step h).bind λx=>FE d.exits x k|none=>X
 |[],_,_,_,h=>by simp at h
 |x::xs,0,d,_,h=>by simp at h;subst h;intro s R k;simp only[wB,if_true]
 |x::xs,j+1,d,hn,h=>by
  simp only[qc,pL,jc,q9,qn,ka]at hn;have hm:d∈xs:=jz (by simpa using h);have bD:x.b≠d.b:=λe=>hn.1 (e▸k7.2 ⟨d,hm,rfl⟩);intro s R k;simp only[wB,bD,zv];exact Zb (j:=j) hn.2 (by simpa using h) s R k
theorem jEh{E:Env}(h0:E.off0=E)(hF:CFun E.C)(hz:E.nz=Y){c:Í}{ds:D nS}(hE:E.L=wB ds)(hm:(gj 0 c).map (·.1)=ds.map (·.b))(hn:pL (ds.map (·.b))=Å)(hs:yl E c 0 ds){ms:D MrD}(NL:E.mr=mrF ms)(hM:E.M=mrL ms)(ym:AD E c ms) :
  ∀x∈gj 0 c,CH E x.1 x.2/\MrOK E x.1 x.2:=by
 intro x hx;have Zc:LFun E.L/\MFun E.M:=⟨hE▸Oc ds,hM▸Od ms⟩;have ew:((gj 0 c).map (·.1)).Nodup:=hm▸zX hn;refine⟨?_,jGV h0 hF hz Zc NL hM λd hd hb=>?_⟩
 rotate_left
 .have:=ym.get d hd
  simp_all[mrAt,Za]
 obtain⟨j,hj⟩:=zd.1 hx;have x8:(ds.map (·.b))[j]? = O x.1:=by grind
 rw[q8]at x8;cases hd:ds[j]? with
 |none=>simp[hd]at x8
 |some d=>
  simp only[hd,kb,j5]at x8;have h1:=yl.get hs hd;rw[ku]at h1;have h2:lpAt c j=x.2:=by grind[lpAt]
  rw[h2]at h1;have:=jBM (E:=E) h0 hF hz Zc h1 (λs R k=>by rw[hE];grind[Zb]);rwa[x8]at this
inductive VPat where
 |v (t:Ty)
 |own (e:U) (t:Ty)
 |box (ts:D Ty)
 |hd
 |vn (t:Ty) (ns:D U)
 |clo (f:U) (caps:D CPat)
 |so (ls:D (I U×Ty))
 |raw (ns:D U) (ps:D IPat)
 deriving Æ
inductive OPat where
 |ref (ts:D Ty)
 |rl (t:Ty)
 deriving Æ
def rlP:RL->(I U×Ty)×TV
 |.d x=>((X,x.t),x)
 |.own e x=>((O e,x.t),x)
def rlsF:D (I U×Ty)->D TV->D RL
 |[],_=>[]
 |(X,_)::ps,xs=> .d (xs.headD tv0)::rlsF ps xs.tail
 |(O e,_)::ps,xs=> .own e (xs.headD tv0)::rlsF ps xs.tail
theorem Of:∀(ls:D RL)(r:D TV),rlsF (ls.map λl=>(rlP l).1) ((ls.map λl=>(rlP l).2)++r)=ls
 |[],r=>rfl
 |.d x::ls,r=>by
  have:=Of ls r;show RL.d _::rlsF _ (_++r)=_;rw[this];rfl
 |.own e x::ls,r=>by
  have:=Of ls r;show RL.own e _::rlsF _ (_++r)=_;rw[this];rfl
def I0:D IPat->U
 |[]=>0
 |c::cs=>c.n+I0 cs
theorem Og:∀(cs:Snap)(r:D TV),AB (nR cs).1 ((nR cs).2++r)=cs/\I0 (nR cs).1=(nR cs).2.length
 |[],r=>⟨rfl,rfl⟩
 |c::cs,r=>by
  simp only[nR,AB,I0,jk,Ì];have h1:=Y4 c ((nR cs).2++r);have h2:=Og cs r;rw[h1.1,h1.2,zk,h2.1,h2.2];exact⟨rfl,rfl⟩
def rvP:RV->VPat×D TV
 |.v x=>(.v x.t,[x])
 |.own e x=>(.own e x.t,[x])
 |.box ls=>(.box (ls.map (·.t)),ls)
 |.hd n=>(.hd,[⟨.int .i64,(n:È)⟩])
 |.vn x ns=>(.vn x.t ns,[x])
 |.clo f caps=>(.clo f (pV caps).1,(pV caps).2)
 |.so ls=>(.so (ls.map λl=>(rlP l).1),ls.map λl=>(rlP l).2)
 |.raw ns s=>(.raw ns (nR s).1,(nR s).2)
def VPat.n:VPat->U
 |.v _=>1
 |.own _ _=>1
 |.box ts=>ts.length
 |.hd=>1
 |.vn _ _=>1
 |.clo _ cs=>CR cs
 |.so ls=>ls.length
 |.raw _ ps=>I0 ps
def rvF:VPat->D TV->RV
 |.v _,xs=> .v (xs.headD tv0)
 |.own e _,xs=> .own e (xs.headD tv0)
 |.box ts,xs=> .box (xs.take ts.length)
 |.hd,xs=> .hd (N7 (xs.headD tv0))
 |.vn _ ns,xs=> .vn (xs.headD tv0) ns
 |.clo f cs,xs=> .clo f (CQ cs xs)
 |.so ls,xs=> .so (rlsF ls xs)
 |.raw ns ps,xs=> .raw ns (AB ps xs)
theorem jJN(c:RV)(r:D TV):rvF (rvP c).1 ((rvP c).2++r)=c/\(rvP c).1.n=(rvP c).2.length:=by
 cases c with
 |v x=>exact⟨rfl,rfl⟩
 |own e x=>exact⟨rfl,rfl⟩
 |hd n=>exact⟨rfl,rfl⟩
 |vn x ns=>exact⟨rfl,rfl⟩
 |box ls=>simp[rvP,rvF,VPat.n]
 |clo f cs=>grind[IV,rvP,rvF,VPat.n]
 |so ls=>grind[rvP,rvF,Of,VPat.n]
 |raw ns s=>exact⟨by grind[rvP,rvF,Og],(Og s r).2⟩
def outP:Out->OPat×D TV
 |.ref ls=>(.ref (ls.map (·.t)),ls)
 |.rl x=>(.rl x.t,[x])
def OPat.n:OPat->U
 |.ref ts=>ts.length
 |.rl _=>1
def outF:OPat->D TV->Out
 |.ref ts,xs=> .ref (xs.take ts.length)
 |.rl _,xs=> .rl (xs.headD tv0)
theorem jIr(c:Out)(r:D TV):outF (outP c).1 ((outP c).2++r)=c/\(outP c).1.n=(outP c).2.length:=by
 cases c<;>grind[outP,outF,OPat.n]
def rvsP:D RV->D VPat×D TV
 |[]=>([],[])
 |c::cs=>((rvP c).1::(rvsP cs).1,(rvP c).2++(rvsP cs).2)
def rvsF:D VPat->D TV->D RV
 |[],_=>[]
 |c::cs,xs=>rvF c xs::rvsF cs (xs.drop c.n)
def rvsN:D VPat->U
 |[]=>0
 |c::cs=>c.n+rvsN cs
theorem Oh:∀(cs:D RV)(r:D TV),rvsF (rvsP cs).1 ((rvsP cs).2++r)=cs/\rvsN (rvsP cs).1=(rvsP cs).2.length
 |[],r=>⟨rfl,rfl⟩
 |c::cs,r=>by
  simp only[rvsP,rvsF,rvsN,jk,Ì];have h1:=jJN c ((rvsP cs).2++r);have h2:=Oh cs r;rw[h1.1,h1.2,zk,h2.1,h2.2];exact⟨rfl,rfl⟩
def yn:D Out->D OPat×D TV
 |[]=>([],[])
 |c::cs=>((outP c).1::(yn cs).1,(outP c).2++(yn cs).2)
def I1:D OPat->D TV->D Out
 |[],_=>[]
 |c::cs,xs=>outF c xs::I1 cs (xs.drop c.n)
theorem Zd:∀(cs:D Out)(r:D TV),I1 (yn cs).1 ((yn cs).2++r)=cs
 |[],r=>rfl
 |c::cs,r=>by
  simp only[yn,I1,jk];have h1:=jIr c ((yn cs).2++r);rw[h1.1,h1.2,zk,Zd cs r]
structure RPat where
 vs:D VPat
 os:D OPat
 deriving Æ
def o5(rp:RPat)(ts:D Ty)(h:HL ts):Ret:=⟨rvsF rp.vs (ofHL ts h),I1 rp.os ((ofHL ts h).drop (rvsN rp.vs))⟩
def I2(rp:RPat)(ts:D Ty)(r:Ret):I (HL ts):=
 if (rvsP r.vals).1=rp.vs/\(yn r.outs).1=rp.os then toHL ts ((rvsP r.vals).2++(yn r.outs).2) else X
theorem jzR{rp:RPat}{ts:D Ty}{r:Ret}{h:HL ts}(hs:I2 rp ts r=O h):r=o5 rp ts h:=by
 unfold I2 at hs;split at hs
 .rename_i hp;have:=IU hs;unfold o5;rw[<-this,<-hp.1,<-hp.2,(Oh r.vals _).1,(Oh r.vals []).2,zk];have h2:=Zd r.outs []
  simp_all
 .simp at hs
structure Con where
 f:U
 ps:D APat
 ts:D Ty
 rp:RPat
 rs:D Ty
 F:HL ts->I (HL rs)
def Con.C(c:Con)(args:D Arg)(R:Type)(k:Ret->I R):I R:=
 match IX c.ps c.ts args with
 |some h=>(c.F h).bind λx=>k (o5 c.rp c.rs x)
 |none=>X
def Con.OK(P:Á)(c:Con):Prop:=FnOK P c.f c.C
def orF{α:Type}(a b:I α):I α:=match a with
 |some x=>O x
 |none=>b
theorem Ze{P:Á}{f:U}{ps:D APat}{ts:D Ty}{rp:RPat}{rs:D Ty}{F G:HL ts->I (HL rs)}(h1:Con.OK P ⟨f,ps,ts,rp,rs,F⟩)(h2:Con.OK P ⟨f,ps,ts,rp,rs,G⟩) :
  Con.OK P ⟨f,ps,ts,rp,rs,λh=>orF (F h) (G h)⟩:=by
 intro args R k r hk;unfold Con.C at hk;split at hk
 .rename_i h hu;have e1:=h1 args R k r;have e2:=h2 args R k r;unfold Con.C at e1 e2;simp only[hu]at e1 e2;cases hF:F h<;>grind[orF]
 .simp at hk
def conC:D Con->U->D Arg->(R:Type)->(Ret->I R)->I R
 |[],_,_,_,_=>X
 |c::cs,f,args,R,k=>if c.f=f then (if (wA args).1=c.ps then c.C args R k else conC cs f args R k) else conC cs f args R k
theorem Oi{P:Á}{f:U}:FnOK P f (λ_ _ _=>X):=by
 intro args R k r h;simp at h
def FF(P:Á):D Con->Prop
 |[]=>ä
 |c::cs=>c.OK P/\FF P cs
theorem Oj{P:Á}:∀cs:D Con,FF P cs->lk P (conC cs)
 |[],_,_=>Oi
 |c::cs,h,f=>by
  have ih:=Oj cs h.2 f;intro args R k r hk;simp only[conC]at hk;split at hk
  .rename_i hf;subst hf;split at hk
   .exact h.1 args R k r hk
   .exact ih args R k r hk
  .exact ih args R k r hk
theorem Ol:∀cs:D Con,CFun (conC cs)
 |[]=>λ_ _=>⟨X,λ_ _=>rfl⟩
 |c::cs=>λf args=>by
  have ih:=Ol cs f args;simp only[conC];split
  .split
   .unfold Con.C;split
    .rename_i h _;cases hq:c.F h with
     |none=>exact⟨X,λ_ _=>rfl⟩
     |some x=>exact⟨O (o5 c.rp c.rs x),λ_ _=>rfl⟩
    .exact⟨X,λ_ _=>rfl⟩
   .exact ih
  .exact ih
def Om:D (U×Keep)->U->Keep
 |[],_=>⟨[],[],[],[]⟩
 |x::r,b=>if x.1=b then x.2 else Om r b
def On:D (U×Ex×Keep)->U->Ex->Keep
 |[],_,_=>⟨[],[],[],[]⟩
 |x::r,b,e=>if x.1=b/\x.2.1=e then x.2.2 else On r b e
def Oo:D (U×D Ç)->U->D Ç
 |[],_=>[]
 |x::r,b=>if x.1=b then x.2 else Oo r b
def dwL:D (U×D (D U))->U->D (D U)
 |[],_=>[]
 |x::r,b=>if x.1=b then x.2 else dwL r b
def bwL:D (U×(Ç×Ty))->U->I (Ç×Ty)
 |[],_=>X
 |x::r,f=>if x.1=f then O x.2 else bwL r f
def I3(P:Á):D (U×(Ç×Ty))->Prop
 |[]=>ä
 |x::r=>BwK P x.1 x.2/\I3 P r
theorem Zf{P:Á}:∀{l:D (U×(Ç×Ty))},I3 P l->∀f t,bwL l f=O t->BwK P f t
 |[],_,f,t,h=>by simp[bwL]at h
 |x::r,hl,f,t,h=>by
  simp only[bwL]at h;split at h
  .rename_i e;simp only[j5]at h;rw[<-e,<-h];exact hl.1
  .exact Zf hl.2 f t h
structure FnD where
 N:U
 np:U
 cs:D Con:=[]
 ds:D nS:=[]
 modes:D (U×D Ç):=[]
 keep:D (U×Keep):=[]
 keepX:D (U×Ex×Keep):=[]
 ro:D Bool:=[]
 dw:D (U×D (D U)):=[]
 hd:Bool:=Y
 ns:D Nat:=[]
 bw:D (U×(Ç×Ty)):=[]
 so:D SoK:=[]
 cr:D Nat:=[]
 un:D Nat:=[]
 unr:Nat:=2
 pre:D (U×D Gh):=[]
 rw:Bool:=Y
 rn:D Nat:=[]
 b1:D Nat:=[]
 ks:D Nat:=[]
 ms:D MrD:=[]
 mvf:D Nat:=[]
 pa:D (U×U×Ty):=[]
 sc:Bool:=Y
def paL:D (U×U×Ty)->U->I (U×Ty)
 |[],_=>X
 |x::r,i=>if x.1=i then O x.2 else paL r i
def preL:D (U×D Gh)->U->D Gh
 |[],_=>[]
 |x::r,i=>if x.1=i then x.2 else preL r i
def FnD.env(d:FnD)(T:D (I TyI)):Env:=⟨⟨d.N,λ_=>Y⟩,d.np,tab T,conC d.cs,Oo d.modes,wB d.ds,Om d.keep,On d.keepX,d.ro,dwL d.dw,Y,d.hd,d.ns,bwL d.bw,d.so,d.cr,λb=>cond (d.un.contains b) d.unr 0,preL d.pre,d.rw,d.rn,d.b1,λi=>d.ks.contains i,λf=>d.mvf.contains f,mrF d.ms,mrL d.ms,paL d.pa,d.sc,0⟩
theorem jIs{P:Á}{T:D (I TyI)}(hT:cP P (tab T))(iD:P.follows .mixedOrders=Å)(d:FnD)(mM:Con)(fn:å)(c:Í)(hf:P.funcs[mM.f]? = O fn)(hb:fn.body=O c)
  (hN : fn.ntmps = d.N) (Az : d.np ≤ d.N) (cF : (fn.name == "runtime.NumGoroutine") = Y) (dm : FF P d.cs) (hm : (gj 0 c).map (·.1) = d.ds.map (·.b)) (hn : pL (d.ds.map (·.b)) = Å)
  (hs:yl (d.env T) c 0 d.ds)(hF:∀h,xo (d.env T) fn (tJ mM.ps mM.ts h) (I2 mM.rp mM.rs)=mM.F h)(jX:I3 P d.bw:=by trivial)(ym:AD (d.env T) c d.ms:=by trivial):mM.OK P:=by
 have hC:lk P (d.env T).C:=Oj d.cs dm;have tL:CFun (d.env T).C:=Ol d.cs;have hL:LFun (d.env T).L/\MFun (d.env T).M:=⟨Oc d.ds,Od d.ms⟩;have tc:=YU (E:=d.env T) hT hC tL iD hf hb hN rfl (Zf jX) Az cF (jEh rfl tL rfl rfl hm hn hs rfl rfl ym);intro args R k r hk;unfold Con.C at hk;split at hk
 .rename_i h hu;rw[IY hu];cases hq:mM.F h with
  |none=>simp[hq]at hk
  |some x=>rw[hq,j4]at hk;refine tc _ R k r ?_;obtain⟨o,ho⟩:=jzM tL rfl hL fn (tJ mM.ps mM.ts h);have h1:O x=_:=((hF h).trans hq).symm.trans (ho _ _);cases o<;>grind[jzR]
 .simp at hk
theorem cOf{P:Á}{T:D (I TyI)}(hT:cP P (tab T))(iD:P.follows .mixedOrders=Å)(d:FnD)(mM:Con){fn:å}(hf:P.funcs[mM.f]? = O fn)(dm:FF P d.cs)
  (hs:yl (d.env T) (fn.body.getD .skip) 0 d.ds)(jX:I3 P d.bw:=by trivial)(hb:fn.body=O (fn.body.getD .skip):=by kernel_rfl)(hN:fn.ntmps=d.N:=by kernel_rfl)
  (Az : Nat.ble d.np d.N = true := by kernel_rfl) (cF : (fn.name == "runtime.NumGoroutine") = false := by kernel_rfl) (hm : (gj 0 (fn.body.getD .skip)).map (·.1) = d.ds.map (·.b) := by kernel_rfl)
  (hn:pL (d.ds.map (·.b))=true:=by kernel_rfl)(hF:∀h,xo (d.env T) fn (tJ mM.ps mM.ts h) (I2 mM.rp mM.rs)=mM.F h:=by intro h;kernel_rfl)(ym:AD (d.env T) (fn.body.getD .skip) d.ms:=by trivial):mM.OK P:=
 jIs hT iD d mM fn _ hf hb hN (zt Az) cF dm hm hn hs hF jX ym
def iX{α β:Type}(B:(α->I β)->α->I β):U->α->I β
 |0,_=>X
 |n+1,a=>B (iX B n) a
open Classical in
def yo{α β:Type}(B:(α->I β)->α->I β)(a:α):I β:=
 if h:∃x n,iX B n a=O x then O h.choose else X
theorem jBT{α β:Type}{B:(α->I β)->α->I β}{a:α}{x:β}(h:yo B a=O x):∃n,iX B n a=O x:=by
 unfold yo at h;split at h;all_goals grind
theorem I4{α β:Type}{B:(α->I β)->α->I β}{a:α}{x:β}(h1:∃n,iX B n a=O x)(h2:∀n y,iX B n a=O y->y=x):yo B a=O x:=by
 obtain⟨n,hn⟩:=h1;have hx:∃x n,iX B n a=O x:=⟨x,n,hn⟩;grind[yo]
theorem I5{P:Á}{f:U}{ps:D APat}{ts:D Ty}{rp:RPat}{rs:D Ty}{B:(HL ts->I (HL rs))->HL ts->I (HL rs)}
  (fi:∀g,Con.OK P ⟨f,ps,ts,rp,rs,g⟩->Con.OK P ⟨f,ps,ts,rp,rs,B g⟩):Con.OK P ⟨f,ps,ts,rp,rs,yo B⟩:=by
 have all:∀n,Con.OK P ⟨f,ps,ts,rp,rs,iX B n⟩:=by
  intro n;induction n with
  |zero=>intro args R k r hk;grind[Con.C,iX]
  |succ n ih=>exact fi _ ih
 intro args R k r hk;unfold Con.C at hk;split at hk
 .rename_i h hu;cases hq:yo B h with
  |none=>simp[hq]at hk
  |some x=>obtain⟨n,hn⟩:=jBT hq;refine all n args R k r ?_;grind[Con.C]
 .simp at hk
def FnD.envN(d:FnD)(T:D (I TyI)):Env:=⟨⟨d.N,λ_=>Y⟩,d.np,tab T,conC d.cs,Oo d.modes,wB d.ds,Om d.keep,On d.keepX,d.ro,dwL d.dw,Å,d.hd,d.ns,λ_=>X,d.so,d.cr,λ_=>0,λ_=>[],Y,[],[],λ_=>Y,λ_=>Y,λ_=>X,λ_ _ _ _=>X,λ_=>X,Y,0⟩
theorem jBU{α R:Type}(xs:D α)(K:D α->I R){r:R}(h:(cond (Ë (([]:D α).length+xs.length<=aK)) (O (([]:D α)++xs)) X).bind K=O r) :
  yW (á xs) (K []) (cond (Ë (([]:D α).length+xs.length<=aK)) (K (([]:D α)++xs)) X)=O r:=by
 cases hd:Ë (([]:D α).length+xs.length<=aK) with
 |false=>rw[hd]at h;simp at h
 |true=>
  rw[hd]at h;simp only[j6,j4]at h ⊢;cases xs with
  |nil=>simp only[qu]at h ⊢;rw[jwc];exact h
  |cons x r=>exact h
theorem Zg{P:Á}{T:D (I TyI)}(hT:cP P (tab T))(iD:P.follows .mixedOrders=Å)(d:FnD)(f:U)(a:Ty)(e:U)(fn:å)(c:Í)(hf:P.funcs[f]? = O fn)(hb:fn.body=O c)
  (hN : fn.ntmps = d.N) (Az : d.np ≤ d.N) (cF : (fn.name == "runtime.NumGoroutine") = Y) (dm : FF P d.cs) (hl : gj 0 c = [])
  (hF:∀(h:D a.den)(R:Type)(k:Ret->I R),xo (d.envN T) fn [.v ⟨.list a,h⟩] k=yW (á h) (k ⟨[.own e ⟨.list a,([]:D a.den)⟩],[]⟩)
   (cond (Ë (([]:D a.den).length+Ê h<=aK)) (k ⟨[.own e ⟨.list a,([]:D a.den)++h⟩],[]⟩) X)) :
  Con.OK P ⟨f,[.v (.list a)],[.list a],⟨[.own e (.list a)],[]⟩,[.list a],λh=>cond (Ë (([]:D a.den).length+Ê h<=aK)) (O (([]:D a.den)++h)) X⟩:=by
 have hC:lk P (d.envN T).C:=Oj d.cs dm;have tL:CFun (d.envN T).C:=Ol d.cs;have tc:=YU (E:=d.envN T) hT hC tL iD hf hb hN rfl (λf t h=>by simp[FnD.envN]at h) Az cF (by rw[hl];simp);intro args R k r hk;unfold Con.C at hk;split at hk
 .rename_i h hu;rw[IY hu];refine tc _ R k r ?_;refine(hF h R k).trans ?_;exact jBU (α:=a.den) h (λx=>k ⟨[.own e ⟨.list a,x⟩],[]⟩) hk
 .simp at hk
def w64(x:È):Int:=IntKind.wrap .i64 x
class LP where
 lp:{α β:Type}->(α->I (α ⊕ β))->α->I β
 rp:{α β:Type}->((α->I β)->α->I β)->α->I β
noncomputable instance realLP:LP:=⟨loopOpt,yo⟩
abbrev jKd(N:U):LP:=⟨λf a=>loopN f N a,λB a=>iX B N a⟩
theorem gh{x:È}(h1 : -9223372036854775808<=x)(h2:x<=9223372036854775807):w64 x=x:=IntWalk.i64_in x ⟨h1,h2⟩
def lpK{α β:Type}(r:I (α ⊕ β))(f:α->I β):I β:=match r with
 |none=>X
 |some (.inl s)=>f s
 |some (.inr x)=>O x
theorem bg{α β:Type}(s:α)(f:α->I β):lpK (O (.inl s)) f=f s:=rfl
theorem bV{α β:Type}(x:β)(f:α->I β):lpK (O (.inr x)) f=O x:=rfl
theorem pX{α β γ:Type}(x:α)(f:α->γ)(g:β->γ):sumC (.inl x) f g=f x:=rfl
theorem o8{α β γ:Type}(x:β)(f:α->γ)(g:β->γ):sumC (.inr x) f g=g x:=rfl
theorem iO{α β:Type}(f:α->I (α ⊕ β))(s:α):loopOpt f s=lpK (f s) (loopOpt f):=by
 cases h:f s with
 |none=>
  cases hq:loopOpt f s with
  |none=>rfl
  |some x=>obtain⟨n,hn⟩:=FD hq;cases n<;>simp[loopN,h]at hn
 |some r=>
  cases r with
  |inl s'=>exact juS h
  |inr x=>exact jwJ h
section
variable{S0:aX}{w0:Â}{refs:Refs}
theorem Oq{P:Á}{E:Env}(hT:cP P E.T)(hC:lk P E.C){ops:Ò Ö}{R:Type}{k:St->I R}{r:R}{Q:Exit->É->Â->Prop}{n:U}{rest:D U}
  (hn:∀σ' a' w' S' γ',Rel E.N E.np S0 w0 refs σ' a' w' S' γ'->du σ'->k σ'=O r->wpOpsIn (FR X) n P ops Q rest a' w') :
  ∀(l:D Ö)(i:U){σ:St}{a:É}{w:Â}{S:aX}{γ:U->Ä},(∀j o,l[j]? = O o->ops[i+j]? = O o/\o.guard=X)->Rel E.N E.np S0 w0 refs σ a w S γ->du σ->qE E l σ k=O r->
   wpOpsIn (FR X) n P ops Q (æ i l.length++rest) a w
 |[],i,σ,a,w,S,γ,hl,hR,hc,h=>hn _ _ _ _ _ hR hc h
 |o::l,i,σ,a,w,S,γ,hl,hR,hc,h=>by
  simp only[qE]at h;split at h
  .rename_i hd;obtain⟨ho,hg⟩:=hl 0 o rfl;have hw:Ð o (yielded ops a.tmps)=true:=by simp[Ð,hg]
   simp only[jf,ve,qo,wpOpsIn,show ops[i]? = O o from ho,hw,if_true];refine IA (.inl rfl) (λ_ _ h=>h) (EZ hT hC hR (act:=[]) (λg hg=>by simp at hg) (p:=Y) (λ_=>hc) hd h (λσ' a' w' S' γ' dK dO hk=>?_));exact Oq hT hC hn l (i+1) (λj o' hj=>by rw[show i+1+j=i+(j+1) by omega];exact hl (j+1) o' (by simpa using hj)) dK (dO rfl) hk
  .simp at h
theorem FG{N:NT}{np:U}{fx:U->I Ä}{σ:St}{a:É}{W:Â}{S:aX}(cO:a.tmps.size=N.n)(hd:a.defers=[])(bA:∀k,σ.bx k = .free)(hS:∀g o,S g o->g<W.heap.size)
  (tz:∀i,jD S W (λ_=>undef) σ.bx (tm a) (σ.sl i) (tm a i))(Ot:∀i v,fx i=O v->N.pin i=Å/\tm a i=v):Rel N np S W { blks:=[],val:=λ_=>X,fix:=fx } σ a W S (λ_=>undef):=
 ⟨cO,hd,tz,λk b h=>by simp_all,λk b g h=>by simp_all,λk k' b b' g _ h=>by simp_all,λ_ _ h=>h,λ_ _ h=> .inl h,hS,λ_ _ _=>rfl,jh _,rfl,rfl,rfl,
  λk v h=>by simp at h,λg o h=>by simp at h,Ot⟩
theorem yp{N:NT}{np:U}{fx:U->I Ä}{σ:St}{a:É}{w:Â}{S:aX}{γ:U->Ä}(hR:Rel N np S0 w0 { blks:=[],val:=λ_=>X,fix:=fx } σ a w S γ):Grew w0 w:=
 ⟨λg hg=>hR.below g hg (λh=>by have h:g∈([]:D U):=h;simp at h),hR.grow,hR.os,hR.tape,hR.output⟩
theorem juW{P:Á}{a:É}{w:Â}{o:Ö}{cl:Call}(ho:o.op = .call cl){x:Operand}(hc:cl.callee = .value x){l:U}(hx:a.eval x = .func (.yield l) #[] #[]){nx:Next}{w':Â}
  (hy:(Instr.yield l (cl.args.map a.eval)).run P w = .ok nx w'):(execOp a.eval o).run P w = .ok nx w':=by
 simp_all[execOp,resolve,Deferred.ofValue,invoke]
end
section
variable{S0:aX}{w0:Â}{refs:Refs}
def bwE(T:U->I TyI):Env:=
 { N:=⟨19,λi=>i==0||(i==1||i==11)⟩,np:=0,T:=T,C:=λ_ _ _ _=>X,modes:=λ_=>[],L:=λ_ _ _ _=>X,keep:=λ_=>⟨[],[],[],[]⟩,keepX:=λ_ _=>⟨[],[],[],[]⟩,ro:=[] }
def slF(l:D (U×Cel)):St:={ sl:=λj=>match l.find? (λx=>x.1==j) with|some x=> .one x.2|none=> .one (.one .dead),bx:=λ_=> .free }
def g3(σ:St):I Int:=match σ.sl 3 with
 |.one (.one (.d (.int .i64) v))=>O v
 |_=>X
def g1(σ:St):I (Ç×È):=match σ.sl 8,σ.sl 3 with
 |.one (.one (.d .bool b)),.one (.one (.d (.int .i64) v))=>O (b,v)
 |_,_=>X
def g18(σ:St):I (Ç×È):=match σ.sl 18,σ.sl 3 with
 |.one (.one (.d .bool b)),.one (.one (.d (.int .i64) v))=>O (b,v)
 |_,_=>X
def g16(t:Ty)(σ:St):I (È×t.den×È):=match σ.sl 12,σ.sl 16,σ.sl 3 with
 |.one (.one (.d (.int .i64) u)),.one c,.one (.one (.d (.int .i64) v))=>match rG (λ_=> .gone) t c with
  |some (x,[])=>O (u,x,v)
  |_=>X
 |_,_,_=>X
def lstP(t:Ty)(xs:D t.den):Cel:= .one (.ip [⟨.list t,xs⟩])
def intP(i:È):Cel:= .one (.d (.int .i64) i)
theorem FH(l:D (U×Cel)):du (slF l):=λi=>by
 simp only[slF];split<;>rfl
theorem jEl{np:U}{σ:St}:RdF np σ (λ_=> .gone):=⟨λ_=> .inr rfl,λk e a xs f h=>by simp at h⟩
theorem FI{S:aX}{W:Â}{γ:U->Ä}{l:D (U×Cel)}{Ou:U->Ä}(h:∀x∈l,bS S W γ (λ_=> .free) x.2 (Ou x.1))(i:U):jD S W γ (λ_=> .free) Ou ((slF l).sl i) (Ou i):=by
 simp only[slF];split
 .rename_i x hx;have:=h x (List.mem_of_find?_eq_some hx);have e:=List.find?_some hx;simp only[vu]at e;rw[<-e];exact this
 .exact⟨trivial,λh=>absurd rfl h⟩
theorem Ov{P:Á}{T:U->I TyI}(hT:cP P T){NM n:U}{A:Ò Ö}{σ:St}{fx:U->I Ä}{a:É}{w:Â}{S:aX}{γ:U->Ä}{R:Type}{k:St->I R}{r:R}
  (hR:Rel (bwE T).N (bwE T).np S0 w0 { blks:=[],val:=λ_=>X,fix:=fx } σ a w S γ)(hc:du σ)(h:rJ (bwE T) A σ k=O r) :
  (Ã NM A Y).wpIn (FR X) n P (λe a' w'=>e = .normal/\∃σ' S' γ',Rel (bwE T).N (bwE T).np S0 w0 { blks:=[],val:=λ_=>X,fix:=fx } σ' a' w' S' γ'/\k σ'=O r) a w:=
 wpIn_region (CD (.inl rfl) (by rintro⟨a,w,h,_⟩;cases h) _ _ _ (XQ hT (λf=>Oi) hR hc (λσ' a' w' S' γ' dK _ hk=>⟨rfl,σ',S',γ',dK,hk⟩) h))
theorem Zh{σ:St}{v:È}(h:g3 σ=O v):σ.sl 3 = .one (.one (.d (.int .i64) v)):=by
 grind[g3]
theorem jJO{σ:St}{b:Ç}{v:È}(h:g1 σ=O (b,v)):σ.sl 8 = .one (.one (.d .bool b))/\σ.sl 3 = .one (.one (.d (.int .i64) v)):=by
 grind[g1]
theorem jIu{σ:St}{b:Ç}{v:È}(h:g18 σ=O (b,v)):σ.sl 18 = .one (.one (.d .bool b))/\σ.sl 3 = .one (.one (.d (.int .i64) v)):=by
 grind[g18]
theorem jIv{t:Ty}{σ:St}{i:È}{x:t.den}{v:È}(h:g16 t σ=O (i,x,v)):σ.sl 12 = .one (.one (.d (.int .i64) i))/\σ.sl 3 = .one (.one (.d (.int .i64) v))/\∃c,σ.sl 16 = .one c/\rG (λ_=> .gone) t c=O (x,[]):=by
 grind[g16]
theorem CY{N:NT}{np:U}{σ:St}{a:É}{w:Â}{S:aX}{γ:U->Ä}(hR:Rel N np S0 w0 refs σ a w S γ){s:U}{v:È}(h:σ.sl s = .one (.one (.d (.int .i64) v))):tm a s = .int .i64 v:=by
 have:=hR.slot s;rw[h]at this;have h1:[a.tmps.getD s undef]=[Value.int .i64 v]:=this.1;simpa[tm]using h1
theorem Zi{N:NT}{np:U}{σ:St}{a:É}{w:Â}{S:aX}{γ:U->Ä}(hR:Rel N np S0 w0 refs σ a w S γ){s:U}{v:Ç}(h:σ.sl s = .one (.one (.d .bool v))):tm a s = .bool v:=by
 have:=hR.slot s;rw[h]at this;have h1:[a.tmps.getD s undef]=[Value.bool v]:=this.1;simpa[tm]using h1
theorem jJP{P:Á}{T:U->I TyI}(hT:cP P T){f:U}{t:Ty}{fn:å}(hf:P.funcs[f]? = O fn){r0 b0 r1 b1 r3 r2:U}{A0 A1 A2:Ò Ö}{o0 o6 o7:Ö}{l3:D Ö}{cl:Call}
  (hb:fn.body=O ((Ã r0 A0 Y).seq (Ñ b0 ((((Ã r1 A1 Y).seq (Î (.tmp 8) .skip (.exit b0))).seq ((Ñ b1 ((Ã r3 (o0::(l3++[o6,o7])).toArray Y).seq (Î (.tmp 18) .ret .skip))).seq (Ã r2 A2 Y))).loop))))
  (Zj : fn.ntmps = 19) (qZ : fn.results = #[]) (cF : (fn.name == "runtime.NumGoroutine") = Y) (Ow : l3.length = 5) (dL : (o0 :: (l3 ++ [o6, o7])).all (fun o => o.guard.isNone) = Å)
  (FJ:o0.op = .move (.tmp 0))(Zk:o0.dst=O 11)(FK:o6.op = .call cl)(Zl:cl.callee = .value (.tmp 11))(Zm:cl.args = #[.tmp 12,.tmp 16])(h6d:o6.dst=O 17)
  (e0:∀xs:D t.den,rJ (bwE T) A0 (slF [(1,lstP t xs)]) g3=O (w64 (Int.ofNat (Ê xs)-1)))
  (e1:∀i:È,rJ (bwE T) A1 (slF [(3,intP i)]) g1=O (Ë (i>=0),i))
  (e2:∀i:È,rJ (bwE T) A2 (slF [(3,intP i)]) g3=O (w64 (i-1)))
  (e3:∀(xs:D t.den)(i:È),qE (bwE T) l3 (slF [(1,lstP t xs),(3,intP i)]) (g16 t)=cond (inR i (Ê xs)) (O (i,Þ xs (Int.toNat i) t.dflt,i)) X)
  (e7:∀(b:Ç)(i:È),qE (bwE T) [o7] (slF [(17,.one (.d .bool b)),(3,intP i)]) g18=O (!b,i)):BwOK P f t:=by
 refine⟨⟨fn,hf,by rw[hb];rfl,cF⟩,?_⟩;intro cv m l J Jx W S aW Ab gJ hY o9 Fl;have hC:lk P (bwE T).C:=λf=>Oi;obtain⟨S0,mL,hm,hS0,pY⟩:=o9
 obtain⟨z0,rR⟩:∃z0,cv = #[z0]:=by
  have:=pY.length;obtain⟨cl⟩:=cv;match cl,this with
  |[z],_=>exact⟨z,rfl⟩
 subst rR;refine callsIn_of_wp hf hb trivial ?_;rw[Zj];obtain⟨yv,Zn⟩:∃yv,yv=Value.func (.yield l) #[] #[]:=⟨_,rfl⟩;obtain⟨R,hR⟩:∃R:Ending->Â->Prop,R=λe W'=>(∃v,e = .returned v)/\((∃S',J m S' W')\/Jx W'):=⟨_,rfl⟩;rw[<-Zn,<-hR];let fx:U->I Value:=λi=>if i=0 then O yv else if i=1 then O z0 else X
 let Fr:É->Prop:=λa=>a.tmps.size=19/\a.defers=[]/\tm a 0=yv/\tm a 1=z0
 let ç:É->Â->Prop:=λa W=>Fr a/\∃j S,j<=m/\J j S W/\tm a 3 = .int .i64 ((m:È)-1-j)
 let μ:É->Â->Nat:=λa W=>match tm a 3 with
  |.int _ v=>(v+1).toNat
  |_=>0
 have fV:∀{a:É}{W':Â},a.defers=[]->((∃S',J m S' W')\/Jx W')->a.defers=[]/\∃v,(results fn a.tmps).run P W' = .ok v W'/\R (.returned v) W':=by intro a W' hd h;exact⟨hd,_,results_none qZ _ _ _,by simp_all⟩
 have gY:∀{σ:St}{a:É}{w w0:Â}{S S0:aX}{γ:U->Ä},Rel (bwE T).N (bwE T).np S0 w0 { blks:=[],val:=λ_=>X,fix:=fx } σ a w S γ->Fr a:=λhR=>
  ⟨hR.size,hR.defers,(hR.fix 0 yv rfl).2,(hR.fix 1 z0 rfl).2⟩
 have nT:∀{a:É},Fr a->∀i v,fx i=O v->(bwE T).N.pin i=Å/\tm a i=v:=by
  intro a ha i v hv;simp only[fx]at hv;split at hv
  .rename_i e;subst e;simp only[j5]at hv;subst hv;exact⟨rfl,ha.2.2.1⟩
  .split at hv
   .rename_i _ e;subst e;simp only[j5]at hv;subst hv;exact⟨rfl,ha.2.2.2⟩
   .simp at hv
 have same:∀{j:U}{S:aX}{W W':Â},J j S W->Grew W W'->CE S W S W':=λhJ hg=>⟨λ_ _ h=>h,λ_ _ h=> .inl h,λg o h=>qd (gJ _ _ _ hJ g o h) hg.size⟩
 have hmlt:m<=9223372036854775807:=by
  obtain⟨g,o,cs,_,aD,_⟩:=pY.1;match cs,aD with
  |[z],aD=>obtain⟨ad,cap,_,h1,h2,_⟩:=aD.1;grind[maxLen]
 obtain⟨a0,yk⟩:∃a0:É,a0={ tmps:=#[yv] ++ #[z0]++Array.replicate (19-(#[yv] ++ #[z0]).size) undef,defers:=[] }:=⟨_,rfl⟩;rw[<-yk]
 have wC:Fr a0:=by
  subst yk;refine⟨?_,rfl,?_,?_⟩
  .simp
  .simp[tm]
  .simp[tm]
 have o9:Rel (bwE T).N (bwE T).np S0 W { blks:=[],val:=λ_=>X,fix:=fx } (slF [(1,lstP t mL)]) a0 W S0 (λ_=>undef):=
  FG wC.1 wC.2.1 (λ_=>rfl) hS0 (FI (λx hx=>by
   simp only[k9]at hx;subst hx;rw[wC.2.2.2];exact⟨pY.1,λ_=>by obtain⟨g,o,cs,hu,_⟩:=pY.1;rw[hu];rfl⟩)) (nT wC)
 refine wpIn_seq (wpIn_mono (Ov hT o9 (FH _) (e0 mL)) ?_)
 rintro e a W1 ⟨rfl,σ1,S1,γ1,bI,dr⟩
 show (Ñ b0 _).wpIn _ _ _ _ _ _;have h3:=CY bI (Zh dr);refine wpIn_block (wpIn_loop ç μ ⟨gY bI,0,S,jy _,aW _ _ _ _ _ (yp bI) (same Fl (yp bI)) Fl,?_⟩ ?_)
 .grind[gh]
 .rintro a W ⟨Ox,j,S,x8,hJ,h3⟩
  have hint:∀{a:É}{W:Â}{S:aX}{v:È},tm a 3 = .int .i64 v->bS S W (λ_=>undef) (λ_=> .free) (intP v) (tm a 3):=λh=>by rw[h];exact⟨rfl,λ_=>rfl⟩
  have hRs:Rel (bwE T).N (bwE T).np S W { blks:=[],val:=λ_=>X,fix:=fx } (slF [(3,intP ((m:È)-1-j))]) a W S (λ_=>undef):=
   FG Ox.1 Ox.2.1 (λ_=>rfl) (gJ _ _ _ hJ) (FI (λx hx=>by
    grind)) (nT Ox)
  refine wpIn_seq (wpIn_seq (wpIn_mono (Ov hT hRs (FH _) (e1 _)) ?_))
  rintro e a1 W1 ⟨rfl,σ1,S1,γ1,bI,dr⟩
  obtain⟨h8,Zo⟩:=jJO dr;have Zo:=CY bI Zo;have h8:a1.eval (.tmp 8) = .bool (Ë ((m:È)-1-j>=0)):=Zi bI h8;have Oy:=aW _ _ _ _ _ (yp bI) (same hJ (yp bI)) hJ;have pb:=gY bI;show (Î _ _ _).wpIn _ _ _ _ _ _;by_cases bZ:(m:È)-1-j>=0
  case neg=>rw[decide_eq_false bZ]at h8;refine wpIn_cond_false h8 (wpIn_exit ?_);show Z b0 (bodyPost P fn R) (.exit b0) a1 W1;simp only[Z,if_true];have hj:j=m:=aa;subst hj;exact fV pb.2.1 (.inl ⟨S,Oy⟩)
  case pos=>
  rw[ya bZ]at h8;refine wpIn_cond_true h8 (wpIn_skip ?_);show (Code.seq _ _).wpIn _ _ _ _ _ _;have Oz:j<m:=aa;obtain⟨xs,dt,hlen,qL⟩:=hY j S W1 Oz Oy;refine wpIn_seq (wpIn_block (wpIn_seq (wpIn_region ?_)));obtain⟨ops,AE⟩:∃ops,ops=(o0::(l3++[o6,o7])).toArray:=⟨_,rfl⟩;rw[<-AE];have tq:∀k,ops[k]? = (o0::(l3++[o6,o7]))[k]? := λk=>by rw[AE];exact List.getElem?_toArray
  have br:∀o∈o0::(l3++[o6,o7]),o.guard=none:=λo ho=>by have:=jw.1 dL o ho;simpa using this
  have cO:ops.size=8:=by rw[AE];simp[Ow]
  have hw:∀(o:Ö)(a:É),o∈o0::(l3++[o6,o7])->Ð o (yielded ops a.tmps)=true:=λo a ho=>by simp[Ð,br o ho]
  rw[cO,show Ø 8=0::(æ 1 l3.length++[6,7]) by rw[Ow];rfl];have OA:ops[0]? = O o0:=by rw[tq];rfl
  simp only[wpOpsIn,OA,hw o0 _ (zb ..),if_true];refine IA (.inl rfl) (λ_ _ h=>h) ?_;unfold Oper.wp;rw[show (execOp a1.eval o0).run P W1 = .ok (.value (a1.eval (.tmp 0))) W1 by simp[execOp,FJ,go_sem],Oper.upon_value,Zk];have uN:a1.eval (.tmp 0)=yv:=pb.2.2.1;rw[uN];have FL:11<a1.tmps.size:=by rw[pb.1];omega
  obtain⟨a2,uA⟩:∃a2,a2=a1.put (O 11) yv:=⟨_,rfl⟩;rw[<-uA];have AF:∀i,tm a2 i=if i=11 then yv else tm a1 i:=λi=>by rw[uA];exact Cx FL yv i
  have wD:Fr a2:=⟨by rw[uA,M1];exact pb.1,by rw[uA,M3];exact pb.2.1,by rw[AF];exact pb.2.2.1,by rw[AF];exact pb.2.2.2⟩;let Zp:U->I Value:=λi=>if i=11 then O yv else fx i
  have cC:Rel (bwE T).N (bwE T).np S W1 { blks:=[],val:=λ_=>X,fix:=Zp } (slF [(1,lstP t xs),(3,intP ((m:È)-1-j))]) a2 W1 S (λ_=>undef):=
   FG wD.1 wD.2.1 (λ_=>rfl) (gJ _ _ _ Oy) (FI (λx hx=>by
    simp only[jb,vf,or_false]at hx;rcases hx with rfl|rfl
    .rw[wD.2.2.2];exact⟨dt.1,λ_=>by obtain⟨g,o,cs,hu,_⟩:=dt.1;rw[hu];rfl⟩
    grind)) (λi v hv=>by
     simp only[Zp]at hv;split at hv
     .rename_i e;subst e;simp only[j5]at hv;subst hv;exact⟨rfl,by rw[AF,if_pos rfl]⟩
     .exact nT wD i v hv)
  have hx:∃x,xs[m-1-j]? = O x/\Þ xs (Int.toNat ((m:È)-1-j)) t.dflt=x:=by
   simp_all
  obtain⟨x,hx,hxd⟩:=hx;have Zq:=e3 xs ((m:È)-1-j)
  rw[hxd,show inR ((m:È)-1-j) (Ê xs)=Å by
   grind[inR],j6]at Zq
  refine Oq hT hC ?_ l3 1 (λk o hk=>⟨?_,?_⟩) cC (FH _) Zq
  rotate_left
  .rw[tq,Nat.add_comm,List.getElem?_cons_succ,ko (List.getElem?_eq_some_iff.1 hk).1];exact hk
  .exact br o (qm _ (jo _ (jz hk)))
  intro σ3 a3 W3 S3 γ3 gz _ lx;obtain⟨uI,OC,c,Zr,OD⟩:=jIv lx;have uI:=CY gz uI;have OC:=CY gz OC;have OE:VRep S3 W3 ⟨t,x⟩ (tm a3 16):=by have:=gz.slot 16;rw[Zr]at this;exact(Eh (np:=(bwE T).np) jEl gz.box OD this).2.1 S3 W3 (.refl _ _) (λy hy=>by simp at hy)
  have MC:=yp gz;have h11:tm a3 11=yv:=(gz.fix 11 yv rfl).2;have tM:Fr a3:=⟨gz.size,gz.defers,(gz.fix 0 yv rfl).2,(gz.fix 1 z0 rfl).2⟩;obtain⟨fn6,FM,as6,bo6,hy6,tN⟩:=qL S3 W3 x _ MC ⟨gz.ext,λg o h=>(gz.new g o h).imp id λh=>h.nil rfl,gz.here⟩ hx OE;have OG:ops[6]? = O o6:=by simp_all
  have OH:ops[7]? = O o7:=by simp_all
  simp only[wpOpsIn,OG,hw o6 _ ae,if_true];refine⟨λ_ _=>trivial,?_⟩
  have aU:(execOp a3.eval o6).run P W3 = .ok (.round l fn6 FM as6 bo6) W3:=by
   refine juW FK Zl (l:=l) (by rw[<-Zn];exact h11) ?_;rw[Zm];have yq:a3.eval (.tmp 12) = .int .i64 ((m-1-j:U):È):=by rw[show ((m-1-j:U):È)=(m:È)-1-j by omega];exact uI
   have e16:a3.eval (.tmp 16)=tm a3 16:=rfl
   simp_all
  rw[show o6.semAt (FR X).round a3.eval=execOp a3.eval o6 from rfl,aU,Oper.uponIn_round];refine⟨λhd=>by simp[FR,Fence.wide]at hd,?_⟩;refine RoundIn.mono ⟨tN.1,λc cs _=>tN.2 c cs (Yj _ _)⟩ ?_;have FN:17<a3.tmps.size:=by rw[tM.1];omega
  have rest:∀(bb:Ç)(W4:Â)(S4:aX),(∀g o,S4 g o->g<W4.heap.size)->
    (∀a5 W5,Fr a5->Grew W4 W5->tm a5 18 = .bool (!bb)->tm a5 3 = .int .i64 ((m:È)-1-j)->(Exit.then ((Î (.tmp 18) .ret .skip).wpIn (FR X) 0 P (Z b1 (Exit.then ((Ã r2 A2 Y).wpIn (FR X) 0 P (Exit.then (λa' W'=>ç a' W'/\μ a' W'<μ a W) (Z b0 (bodyPost P fn R))))
     (Exit.then (λa' W'=>ç a' W'/\μ a' W'<μ a W) (Z b0 (bodyPost P fn R)))))) (Z b1 (Exit.then ((Ã r2 A2 Y).wpIn (FR X) 0 P (Exit.then (λa' W'=>ç a' W'/\μ a' W'<μ a W) (Z b0 (bodyPost P fn R))))
     (Exit.then (λa' W'=>ç a' W'/\μ a' W'<μ a W) (Z b0 (bodyPost P fn R)))))) .normal a5 W5)->
    wpOpsIn (FR X) 0 P ops (Exit.then ((Î (.tmp 18) .ret .skip).wpIn (FR X) 0 P (Z b1 (Exit.then ((Ã r2 A2 Y).wpIn (FR X) 0 P (Exit.then (λa' W'=>ç a' W'/\μ a' W'<μ a W) (Z b0 (bodyPost P fn R))))
     (Exit.then (λa' W'=>ç a' W'/\μ a' W'<μ a W) (Z b0 (bodyPost P fn R)))))) (Z b1 (Exit.then ((Ã r2 A2 Y).wpIn (FR X) 0 P (Exit.then (λa' W'=>ç a' W'/\μ a' W'<μ a W) (Z b0 (bodyPost P fn R))))
     (Exit.then (λa' W'=>ç a' W'/\μ a' W'<μ a W) (Z b0 (bodyPost P fn R)))))) [7] (a3.put o6.dst (.bool bb)) W4:=by
   intro bb W4 S4 hS4 fj;rw[h6d];obtain⟨a4,I6⟩:∃a4,a4=a3.put (O 17) (.bool bb):=⟨_,rfl⟩;rw[<-I6];have wE:∀i,tm a4 i=if i=17 then .bool bb else tm a3 i:=λi=>by rw[I6];exact Cx FN _ i
   have AG:Fr a4:=⟨by rw[I6,M1];exact tM.1,by rw[I6,M3];exact tM.2.1,by rw[wE];exact tM.2.2.1,by rw[wE];exact tM.2.2.2⟩
   have rX:Rel (bwE T).N (bwE T).np S4 W4 { blks:=[],val:=λ_=>X,fix:=fx } (slF [(17,.one (.d .bool bb)),(3,intP ((m:È)-1-j))]) a4 W4 S4 (λ_=>undef):=
    FG AG.1 AG.2.1 (λ_=>rfl) hS4 (FI (λx hx=>by
     simp only[jb,vf,or_false]at hx;rcases hx with rfl|rfl
     .rw[wE,if_pos rfl];exact⟨rfl,λ_=>rfl⟩
     .exact hint (by rw[wE];exact OC))) (nT AG)
   refine Oq (rest:=[]) hT hC (λσ5 a5 W5 S5 γ5 rZ _ tG=>?_) [o7] 7 (λk o hk=>?_) rX (FH _) (e7 bb _)
   .obtain⟨q1,q2⟩:=jIu tG;exact fj a5 W5 (gY rZ) (yp rZ) (Zi rZ q1) (CY rZ q2)
   .cases k with
    |zero=>simp at hk;subst hk;exact⟨OH,br _ ae⟩
    |succ k=>simp at hk
  rintro e W4 (⟨rfl,S4,OI⟩|⟨rfl,hx4⟩)
  .refine rest Å W4 S4 (gJ _ _ _ OI) (λa5 W5 tO I7 OJ Zs=>?_);refine wpIn_cond_false (c:= .tmp 18) OJ (wpIn_skip ?_);show (Ã r2 A2 Y).wpIn _ _ _ _ _ _;have OL:=aW _ _ _ _ _ I7 (same OI I7) OI
   have rZ:Rel (bwE T).N (bwE T).np S4 W5 { blks:=[],val:=λ_=>X,fix:=fx } (slF [(3,intP ((m:È)-1-j))]) a5 W5 S4 (λ_=>undef):=
    FG tO.1 tO.2.1 (λ_=>rfl) (gJ _ _ _ OL) (FI (λx hx=>by
     simp only[k9]at hx;subst hx;exact hint Zs)) (nT tO)
   refine wpIn_mono (Ov hT rZ (FH _) (e2 _)) ?_
   rintro e a6 W6 ⟨rfl,σ6,S6,γ6,yi,hk6⟩
   have OM:=CY yi (Zh hk6);rw[gh aa aa]at OM;refine⟨⟨gY yi,j+1,S4,aa,aW _ _ _ _ _ (yp yi) (same OL (yp yi)) OL,?_⟩,?_⟩
   .rw[OM];congr 1;push_cast;omega
   .simp only[μ,OM,h3];omega
  .refine rest Y W4 (λ_ _=>False) (λ_ _ h=>h.elim) (λa5 W5 tO I7 OJ Zs=>?_);refine wpIn_cond_true (c:= .tmp 18) OJ (wpIn_ret ?_);exact fV tO.2.1 (.inr (Ab _ _ I7 hx4))
end
def AH:Í->D (U×Ò Ö)
 |.seq x y=>AH x++AH y
 |.cond _ x y=>AH x++AH y
 |.block _ c=>AH c
 |.loop c=>AH c
 |.region id ops _=>[(id,ops)]
 |_=>[]
def bwA(fn:å)(i:U):Ò Oper:=(((AH (fn.body.getD .skip)).find? λx=>x.1==i).getD (0, #[])).2
def opAt(A:Ò Ö)(i:U):Oper:=(A[i]?).getD default
def ON(o:Ö):Call:=match o.op with
 |.call c=>c
 |_=>default
theorem jIw{P:Á}{T:U->I TyI}(hT:cP P T){f:U}{t:Ty}{fn:å}(hf:P.funcs[f]? = O fn){A0 A1 A2 A3:Ò Ö}
  (hb:fn.body=O ((Ã 0 A0 Y).seq (Ñ 0 ((((Ã 1 A1 Y).seq (Î (.tmp 8) .skip (.exit 0))).seq ((Ñ 1 ((Ã 3 A3 Y).seq (Î (.tmp 18) .ret .skip))).seq (Ã 2 A2 Y))).loop))))
  (hA:A3=(opAt A3 0::((A3.toList.drop 1).take 5++[opAt A3 6,opAt A3 7])).toArray)
  (Zj : fn.ntmps = 19) (qZ : fn.results = #[]) (cF : (fn.name == "runtime.NumGoroutine") = Y) (Ow : ((A3.toList.drop 1).take 5).length = 5) (dL : (opAt A3 0 :: ((A3.toList.drop 1).take 5 ++ [opAt A3 6, opAt A3 7])).all (fun o => o.guard.isNone) = Å)
  (FJ:(opAt A3 0).op = .move (.tmp 0))(Zk:(opAt A3 0).dst=O 11)(FK:(opAt A3 6).op = .call (ON (opAt A3 6)))(Zl:(ON (opAt A3 6)).callee = .value (.tmp 11))(Zm:(ON (opAt A3 6)).args = #[.tmp 12,.tmp 16]/\(opAt A3 6).dst=O 17)
  (e0:∀xs:D t.den,rJ (bwE T) A0 (slF [(1,lstP t xs)]) g3=O (w64 (Int.ofNat (Ê xs)-1)))
  (e1:∀i:È,rJ (bwE T) A1 (slF [(3,intP i)]) g1=O (Ë (i>=0),i))
  (e2:∀i:È,rJ (bwE T) A2 (slF [(3,intP i)]) g3=O (w64 (i-1)))
  (e3:∀(xs:D t.den)(i:È),qE (bwE T) ((A3.toList.drop 1).take 5) (slF [(1,lstP t xs),(3,intP i)]) (g16 t)=cond (inR i (Ê xs)) (O (i,Þ xs (Int.toNat i) t.dflt,i)) X)
  (e7:∀(b:Ç)(i:È),qE (bwE T) [opAt A3 7] (slF [(17,.one (.d .bool b)),(3,intP i)]) g18=O (!b,i)):BwOK P f t:=by
 grind[jJP]
section
variable{P:Á}{E:Env}{ops pre:Ò Ö}{cl:D U}{τ:U->St}{S0:aX}{w0:Â}{refs:Ç->Refs}
end
section
variable{S0:aX}{w0:Â}{refs:Refs}
def g7(σ:St):I (Ç×È):=match σ.sl 7,σ.sl 3 with
 |.one (.one (.d .bool b)),.one (.one (.d (.int .i64) v))=>O (b,v)
 |_,_=>X
theorem Grew.trans{w w' zD:Â}(h:Grew w w')(h':Grew w' zD):Grew w zD:=
 ⟨λg hg=>(h'.old g (qd hg h.size)).trans (h.old g hg),kf h.size h'.size,h'.os.trans h.os,h'.tape.trans h.tape,h'.output.trans h.output⟩
end
open Go.RowKit Go.WideShapes Go.ChangeShapes
theorem jBX{P:Á}{f:U}{ps:D APat}{ts:D Ty}{F:HL ts->I Ç}(ca:Con.OK P ⟨f,ps,ts,⟨[.v .bool],[]⟩,[.bool],F⟩)(h:HL ts)(hF:F h=O Å)
  (w:Â)(S:aX)(vals:D Ä)(ha:All2 (oO S w) (tJ ps ts h) vals)(hr:ei (tJ ps ts h) vals=[])(hS:∀g o,S g o->g<w.heap.size)(hu:IX ps ts (tJ ps ts h)=O h) :
  Calls P f vals.toArray w λe w'=>e = .returned (.bool Å)/\Below w.heap.size w w':=by
 have:=(ca (tJ ps ts h) Ret O (o5 ⟨[.v .bool],[]⟩ [.bool] Å) (by
  unfold Con.C;rw[hu];show (F h).bind _=_;rw[hF];rfl)).2
 refine(this w S vals ha (by rw[hr];exact vc) hS).mono ?_
 rintro e w' ⟨ret,dg,v,S',vs,rfl,ca⟩
 simp only[j5]at dg;subst dg;have bR:All2 (rS S' w') [.v ⟨.bool,Å⟩] vs:=ca.rep;refine⟨?_,ca.os,ca.tape,ca.output,ca.grow,λk hk=>ca.below k hk (by rw[hr];simp)⟩;rw[ca.val];match vs,bR with
 |[u],bR=>have h1:=bR.1;have h2:u.cells.toList=[.bool Å]/\(lX Ty.bool=Å->∃cs,u=Value.agg cs)/\(lX Ty.bool=Y->One u):=h1;have h3:=B9 (h2.2.2 rfl);rw[h2.1]at h3;simp only[vr,y9]at h3;rw[<-h3];rfl
 |[],bR=>exact absurd bR (by simp[All2])
 |_::_::_,bR=>exact absurd bR (by simp[All2])
theorem jsS{H:Type}{enc:Ï×Ä->H}{P:Á}{f:å}{s:ChangeSpec}{apart fresh handsOn again:Ç}{W W':Â}{args:Ò Ä}{v:Ä}{ds gs:D (ß H)}{before pa pv:D Ô}
  (hW:DataW.Whole enc P f.params.toList s.vars apart W args.toList ds gs before)
  (qZ:∀(b:U)(sp:U->Ç)(hd:Ç),à enc P W' b sp hd f.resultTypes.toList (v.resultList f.resultTypes.size) (s.fn H (ds++gs)).results [])
  (cW:∀sp:U->Ç,(∀p∈before,sp p.block=Å)->à enc P W' 0 sp Å f.params.toList args.toList (s.fn H (ds++gs)).args pa)
  (yt:∀sp:U->Ç,(∀p∈before,sp p.block=Å)->DataW.TrodVars enc P W' sp s.vars (s.fn H (ds++gs)).vars pv)
  (iv:before=pa++pv)(hb:Below W.heap.size W W')
  (ca:∀(j:U)(t:Ï)(r:Ä),f.resultTypes[j]? = O t->(v.resultList f.resultTypes.size)[j]? = O r->Ó P W' .any 0 t r) :
  s.post enc P f apart fresh handsOn again W args v W':=by
 have ao:∀p∈before,p.block<W.heap.size:=λp hp=>hW.lt p hp;have hold:∀p∈before,(λb=>Ë (b<W.heap.size)) p.block=true:=λp hp=>by simpa using ao p hp
 refine⟨ds,gs,before,[],pa,pv,hW,qZ _ _ _,cW _ hold,yt _ hold,World.keptBut_mono (λp hp=>⟨hp,?_⟩) (hb.frame (· ∈ before)),λ_=>?_⟩
 .rw[iv,ji]at hp;exact Or.inr hp
 .obtain⟨_,_,_,_,_,hz,hn⟩:=hW;refine⟨ca,_,_,([]++pa)++pv,⟨[]++pa,pv,trodAll_append (cW _ (λ_ _=>rfl)) (qZ _ _ _),yt _ (λ_ _=>rfl),rfl,?_,?_⟩,?_⟩
  .intro b off hp;have iL:MemPlace.cell b off∈before:=by rw[iv];simpa using hp
   rw[hb.frozen (ao _ iL)];exact hz b off iL
  .intro ha;have:=hn ha;rw[iv]at this;simpa using this
  .intro p hp _;rw[iv];simpa using hp
open Go.RowKit Go.WideShapes Go.ChangeShapes
def wF(P:Á):U->Ï->Ty->Ç
 |0,_,_=>Y
 |n+1,t,ty=>match P.underlying t with
  |some (.int k)=>Ë (ty = .int k)
  |some .bool=>Ë (ty = .bool)
  |some .string=>Ë (ty = .str)
  |some (.slice e)=>match ty with
   |.list a=>wF P n e a&&Ë (P.cellsOf e=a.size)&&Ë (0<a.size)
   |_=>Y
  |_=>Y
def Wf:(t:Ty)->t.den->Prop
 |.int k,n=>(Lit.int k n).wf=Å
 |.bool,_=>ä
 |.str,s=>s.size<=maxLen
 |.unit,_=>ä
 |.wrap a,v=>Wf a v
 |.pair a b,v=>Wf a v.1/\Wf b v.2
 |.list a,xs=>Ê xs<=maxLen/\∀x∈(show D a.den from xs),Wf a x
 |.arr _ _,_=>ä
theorem I8{α β:Type}{f:α->I β}:∀{l:D α}{ys:D β},l.mapM f=O ys->ys.length=l.length/\∀(i:U)(x:α),l[i]? = O x->∃y,ys[i]? = O y/\f x=O y
 |[],ys,h=>by
  simp at h;subst h;exact⟨rfl,λi x hx=>by simp at hx⟩
 |a::l,ys,h=>by
  rw[Ü]at h;cases ha:f a with
  |none=>simp[ha]at h
  |some y=>
   cases hl:l.mapM f with
   |none=>simp[ha,hl]at h
   |some zs=>
    simp[ha,hl]at h;subst h;obtain⟨h1,h2⟩:=I8 hl;refine⟨by simp[h1],λi x hx=>?_⟩;cases i with
    |zero=>simp at hx;subst hx;exact⟨y,rfl,ha⟩
    |succ i=>simp at hx;obtain⟨z,hz,hf⟩:=h2 i x hx;exact⟨z,by simpa using hz,hf⟩
theorem I9{α β:Type}{f g:α->I β}:∀{l:D α}{ys:D β},l.mapM f=O ys->(∀x∈l,∀y,y∈ys->f x=O y->g x=O y)->l.mapM g=O ys
 |[],ys,h,_=>by simpa using h
 |a::l,ys,h,hk=>by
  rw[Ü]at h ⊢;cases ha:f a with
  |none=>simp[ha]at h
  |some y=>
   cases hl:l.mapM f with
   |none=>simp[ha,hl]at h
   |some zs=>simp[ha,hl]at h;subst h;rw[hk a ae y ae ha,I9 hl (λx hx z hz hf=>hk x (by simp[hx]) z (by simp[hz]) hf)];rfl
theorem Zt{α:Type}{Q:U->α->Prop}:∀n,(∀i,i<n->∃x,Q i x)->∃xs:D α,xs.length=n/\∀i x,xs[i]? = O x->Q i x
 |0,_=>⟨[],rfl,λi x h=>by simp at h⟩
 |n+1,h=>by
  obtain⟨xs,hl,hx⟩:=Zt n (λi hi=>h i aa);obtain⟨x,hq⟩:=h n aa;refine⟨xs++[x],by simp[hl],λi y hy=>?_⟩;rcases qr i n with hi|hi
  .rw[ko aa]at hy;exact hx i y hy
  .have:i=n:=by have:=(List.getElem?_eq_some_iff.1 hy).1;simp[hl]at this;omega
   subst this;rw[kj aa,hl,Nat.sub_self]at hy;simp at hy;subst hy;exact hq
theorem Zu{α β:Type}{R:α->β->Prop}:∀{as:D α}{bs:D β},as.length=bs.length->(∀(i:U)(a:α)(b:β),as[i]? = O a->bs[i]? = O b->R a b)->All2 R as bs
 |[],[],_,_=>trivial
 |a::as,b::bs,hl,h=>⟨h 0 a b rfl rfl,Zu (by simpa using hl) λi x y hx hy=>h (i+1) x y (by simpa using hx) (by simpa using hy)⟩
 |[],_::_,hl,_=>by simp at hl
 |_::_,[],hl,_=>by simp at hl
theorem Zv{m:U}:∀{css:D (D Ä)},(∀c∈css,c.length=m)->∀{j:U}{v:Ä},css.flatten[j]? = O v->∃i r c,j=i*m+r/\r<m/\css[i]? = O c/\c[r]? = O v
 |[],_,j,v,h=>by simp at h
 |c::css,hl,j,v,h=>by
  simp only[kq]at h;have hc:=hl c ae;rcases qr j c.length with hj|hj
  .rw[ko hj]at h;exact⟨0,j,c,aa,aa,rfl,h⟩
  .rw[kj hj]at h;obtain⟨i,r,c',e,hr,hi,hv⟩:=Zv (λx hx=>hl x (by simp[hx])) h;exact⟨i+1,r,c',by rw[Nat.add_mul];omega,hr,by simpa using hi,hv⟩
def Ext(W W':Â):Prop:=∀(k:U) x,W.heap[k]? = O x->W'.heap[k]? = O x
theorem Ext.cell{W W':Â}(h:Ext W W'){a:í}{v:Ä}(hc:W.cell? a=O v):W'.cell? a=O v:=by
 unfold World.cell? at hc ⊢;split at hc
 .rename_i c _ _ hb;rw[h _ _ hb];exact hc
 .simp at hc
theorem Ext.cells{W W':Â}(h:Ext W W'){a:í}{n:U}{cs:D Ä}(hc:W.cells? 0 a n=O cs):W'.cells? 0 a n=O cs:=by
 unfold World.cells? at hc ⊢;simp only[jy,if_true]at hc ⊢;exact I9 hc λi _ y _ hf=>h.cell hf
theorem OO{W:Â}{a:í}{n:U}{cs:D Ä}(hc:W.cells? 0 a n=O cs):cs.length=n/\∀i v,cs[i]? = O v->W.cell? (a.add i)=O v:=by
 unfold World.cells? at hc;simp only[jy,if_true]at hc;obtain⟨h1,h2⟩:=I8 hc;simp only[Ú]at h1;refine⟨h1,λi v hv=>?_⟩;have hi:i<n:=by rw[<-h1];exact(List.getElem?_eq_some_iff.1 hv).1
 obtain⟨y,hy,hf⟩:=h2 i i (by simp[hi]);rw[hv]at hy;simp at hy;subst hy;exact hf
theorem Zw{W:Â}{a:í}{v:Ä}(h:W.cell? a=O v):a.block<W.heap.size/\a.spot=none:=by
 unfold World.cell? at h;split at h
 .rename_i c _ _ hb;refine⟨(jq.1 hb).1,?_⟩;split at h
  .simp at h
  .rename_i hs;simpa using hs
 .simp at h
def oldS(W:Â):aX:=λg _=>g<W.heap.size
def Ja{H:Type}(enc:Ï×Ä->H)(P:Á)(W:Â)(held:Ç)(fuel:U)(t:Ï)(ty:Ty)(cs:D Ä)(d:ß H)(ps:D Ô):Prop:=
 cs.length=ty.size/\(∃v:ty.den,Rep (oldS W) W ty v cs/\Wf ty v)/\
  ∀W' sp,Ext W W'->(∀q∈ps,sp q.block=Å)->À enc P W' 0 sp held fuel t cs=O (d,ps)
section
variable{H:Type}{enc:Ï×Ä->H}{P:Á}{W:Â}{held:Ç}
theorem jBZ{a:í}{n:U}(hn:0<n):∃q∈MemPlace.row a n,q.block=a.block:=
 ⟨.cell a.block (a.off+0),k7.2 ⟨0,by simp[hn],rfl⟩,rfl⟩
theorem jwO{n:U}{t e:Ï}{el:Ty}(hu:P.underlying t=O (.slice e))(cO:P.cellsOf e=el.size)(bZ:0<el.size){fuel:U}{cs:D Ä}{d:ß H}{ps:D Ô}
  (ih:∀(m:U)(cs:D Ä)(d:ß H)(ps:D Ô),À enc P W 0 (λ_=>Å) held m e cs=O (d,ps)->Ja enc P W held m e el cs d ps)
  (h:À enc P W 0 (λ_=>Å) held fuel t cs=O (d,ps)):Ja enc P W held fuel t (.list el) cs d ps:=by
 cases fuel with
 |zero=>simp[À]at h
 |succ m=>
  have h':=h;unfold À at h;rw[hu]at h;split at h;all_goals (try (rename_i heq _;simp at heq;done))
  all_goals (try (rename_i heq;simp at heq;done))
  .rename_i heq;refine⟨rfl,⟨[],⟨X,0,rfl,jh _,jy _,λ_=>rfl,λb hb=>by simp at hb⟩,⟨jy _,ae⟩⟩,λW' sp _ _=>?_⟩;unfold À;rw[hu];exact h
  .rename_i e' a len cap heq;simp only[j5,TypeDesc.slice.injEq]at heq;subst heq;simp only[jy,kc,if_true]at h;split at h
   .rename_i hc;cases fI:(Ø len).mapM (λi=>(W.cells? 0 (a.add (i*P.cellsOf e)) (P.cellsOf e)).bind (À enc P W 0 (λ_=>Å) held m e)) with
    |none=>rw[fI]at h;simp at h
    |some elems=>
     rw[fI]at h;simp only[j4]at h;cases Jb:(Ø (cap-len)).mapM (λj=>(W.cells? 0 (a.add ((len+j)*P.cellsOf e)) (P.cellsOf e)).bind (À enc P W 0 (λ_=>Å) held m e)) with
     |none=>rw[Jb]at h;simp at h
     |some rest=>
      rw[Jb]at h;simp only[kb,j5,j9]at h;obtain⟨rfl,rfl⟩:=h;obtain⟨l1,g1⟩:=I8 fI;obtain⟨l2,g2⟩:=I8 Jb;simp only[Ú]at l1 l2
      have one:∀i y,(W.cells? 0 (a.add (i*P.cellsOf e)) (P.cellsOf e)).bind (À enc P W 0 (λ_=>Å) held m e)=O y->∃c,W.cells? 0 (a.add (i*P.cellsOf e)) (P.cellsOf e)=O c/\Ja enc P W held m e el c y.1 y.2:=by
       intro i y hy;cases hc:W.cells? 0 (a.add (i*P.cellsOf e)) (P.cellsOf e) with
       |none=>rw[hc]at hy;simp at hy
       |some c=>rw[hc]at hy;exact⟨c,rfl,ih m c y.1 y.2 hy⟩
      refine⟨rfl,?_,?_⟩
      .have each:∀i,i<len->∃x:el.den×D Ä,W.cells? 0 (a.add (i*P.cellsOf e)) (P.cellsOf e)=O x.2/\Rep (oldS W) W el x.1 x.2/\Wf el x.1:=by intro i hi;obtain⟨y,hy,hf⟩:=g1 i i (by simp[hi]);obtain⟨c,eP,_,⟨v,hv,hw⟩,_⟩:=one i y hf;exact⟨(v,c),eP,hv,hw⟩
       obtain⟨xs,nG,iB⟩:=Zt len each;have FO:∀c∈xs.map (·.2),c.length=P.cellsOf e:=by intro c hc;obtain⟨x,hx,rfl⟩:=k7.1 hc;obtain⟨i,hi⟩:=zd.1 hx;exact(OO (iB i x hi).1).1
       refine⟨xs.map (·.1),?_,?_⟩
       .refine⟨O a,cap,by simp[nG],by simp[nG,hc.1],hc.2,ae,λb hb=>?_⟩;simp only[j5]at hb;subst hb;have yu:len≠0->a.spot=none:=by intro hl;obtain⟨x,hx⟩:∃x,xs[0]? = O x:=⟨xs[0],jn aa⟩;obtain⟨k1,k2⟩:=OO (iB 0 x hx).1;obtain⟨v,hv⟩:∃v,x.2[0]? = O v:=⟨x.2[0],jn aa⟩;have:=(Zw (k2 0 v hv)).2;simpa[Addr.add]using this
        refine⟨λbD=>yu (λh0=>bD (by rw[List.map_eq_nil_iff];exact k8 aa)),xs.map (·.2),Zu ae (λi x c hx hc=>?_),λj v hv=>?_⟩
        .simp only[q8,Õ]at hx hc;obtain⟨y,hy,rfl⟩:=hx;obtain⟨z,hz,rfl⟩:=hc;rw[hy]at hz;simp at hz;subst hz;exact(iB i y hy).2.1
        .obtain⟨i,r,c,hj,hr,oG,zY⟩:=Zv FO hv;simp only[q8,Õ]at oG;obtain⟨x,hx,rfl⟩:=oG;have fa:=(OO (iB i x hx).1).2 r v zY;have kL:i<len:=by rw[<-nG];exact(List.getElem?_eq_some_iff.1 hx).1
         have hs:=yu aa;have zU:(a.add (i*P.cellsOf e)).add r=⟨a.block,a.off+j,X⟩:=by obtain⟨g,o,s⟩:=a;simp only at hs;subst hs;simp only[Addr.add];split<;>split<;>simp<;>omega
         rw[zU]at fa;exact⟨(Zw fa).1,fa⟩
       .refine⟨by simp only[ki,nG];omega,λx hx=>?_⟩;obtain⟨y,hy,rfl⟩:=k7.1 hx;obtain⟨i,hi⟩:=zd.1 hy;exact(iB i y hi).2.2
      .intro W' sp hE dx
       have keep:∀i y,y∈elems++rest->(W.cells? 0 (a.add (i*P.cellsOf e)) (P.cellsOf e)).bind (À enc P W 0 (λ_=>Å) held m e)=O y->
         (W'.cells? 0 (a.add (i*P.cellsOf e)) (P.cellsOf e)).bind (À enc P W' 0 sp held m e)=O y:=by
        intro i y hy hf;obtain⟨c,eP,_,_,hk⟩:=one i y hf;rw[hE.cells eP];exact hk W' sp hE (λq hq=>dx q (jm _ (kz.2 ⟨y,hy,hq⟩)))
       unfold À;rw[hu];simp only[jy,kc];rw[if_pos hc,I9 fI (λi _ y hy hf=>keep i y (jo _ hy) hf)];simp only[j4]
       have fh:(if sp a.block=Å then (Ø (cap-len)).mapM (λj=>(W'.cells? 0 (a.add ((len+j)*P.cellsOf e)) (P.cellsOf e)).bind (À enc P W' 0 sp held m e)) else O [])=O rest:=by
        split
        .exact I9 Jb (λj _ y hy hf=>keep (len+j) y (jm _ hy) hf)
        .rename_i hsf;rcases vv ((elems.length+rest.length)*P.cellsOf e) with h0|h0
         .have:rest=[]:=by
           rcases Nat.mul_eq_zero.1 h0 with h|h
           .exact k8 aa
           .omega
          rw[this]
         .obtain⟨q,hq,hb⟩:=jBZ (a:=a) h0;have:=dx q (jo _ hq);rw[hb]at this;exact absurd this hsf
       rw[fh];rfl
   .simp at h
  .simp at h
theorem Zx:∀(n:U)(t:Ï)(ty:Ty),wF P n t ty=Å->∀(fuel:U)(cs:D Ä)(d:ß H)(ps:D Ô),À enc P W 0 (λ_=>Å) held fuel t cs=O (d,ps)->
  Ja enc P W held fuel t ty cs d ps
 |0,_,_,hc,_,_,_,_,_=>by simp[wF]at hc
 |n+1,t,ty,hc,fuel,cs,d,ps,h=>by
  have ih:=Zx n;cases fuel with
  |zero=>simp[À]at h
  |succ m=>
  have ij:=hc;unfold wF at hc;split at hc
  .rename_i k hu;have:=kv hc;subst this;obtain⟨z,rfl,hx,hw⟩:=DataW.trod_int hu h;refine⟨rfl,⟨z,rfl,hw⟩,λW' sp _ _=>?_⟩;simp only[j9]at hx;rw[hx.1,hx.2];exact trod_int_mk m hu hw
  .rename_i hu;have:=kv hc;subst this;obtain⟨z,rfl,hx⟩:=DataW.trod_bool hu h;refine⟨rfl,⟨z,rfl,trivial⟩,λW' sp _ _=>?_⟩;unfold À at h ⊢;rw[hu]at h ⊢;exact h
  .rename_i hu;have:=kv hc;subst this;obtain⟨z,rfl,hx,hw⟩:=DataW.trod_string hu h;refine⟨rfl,⟨z,rfl,hw⟩,λW' sp _ _=>?_⟩;unfold À at h ⊢;rw[hu]at h ⊢;exact h
  .rename_i e hu;split at hc
   .rename_i a;simp only[jc,jl]at hc;exact jwO (n:=n) hu hc.1.2 hc.2 (λm cs d ps h=>ih e a hc.1.1 m cs d ps h) h
   .simp at hc
  .simp at hc
end
theorem Jc{P:Á}{W:Â}{r:Reach}{base:U}{t:Ï}{v:Ä}{d:TypeDesc}(hu:P.underlying t=O d)(hd:(∃k,d = .int k)\/d = .bool\/d = .string\/∃e,d = .slice e)(h:Ó P W r base t v):One v:=by
 have hc:Cell.ok P W r base t v:=by unfold Ó at h;rw[hu]at h;rcases hd with⟨k,rfl⟩|rfl|rfl|⟨e,rfl⟩<;>(dsimp only at h;unfold Cell.okWide at h;rw[hu]at h;exact h)
 unfold Cell.ok at hc;rw[hu]at hc;rcases hd with⟨k,rfl⟩|rfl|rfl|⟨e,rfl⟩<;>cases v<;>first|rfl|(exact absurd hc ae)
theorem FP{H:Type}{enc:Ï×Ä->H}{P:Á}{W:Â}{n:U}{t:Ï}{ty:Ty}(iq:wF P n t ty=Å){r:Reach}{base:U}{v:Ä}(ca:Ó P W r base t v){d:ß H}{p:D Ô}
  (h:ê enc P W 0 (λ_=>Å) Å t v d p) :
  ∃x:ty.den,oO (oldS W) W (.v ⟨ty,x⟩) v/\Wf ty x/\∀W' sp,Below W.heap.size W W'->(∀q∈p,sp q.block=Å)->ê enc P W' 0 sp Å t v d p:=by
 obtain⟨fuel,h⟩:=h;obtain⟨_,⟨x,hx,hw⟩,hk⟩:=Zx n t ty iq fuel _ d p h;refine⟨x,⟨hx,λhm=>?_,λhm=>?_⟩,hw,λW' sp hb dx=>⟨fuel,hk W' sp (λk y hy=>by rw[hb.block k (jq.1 hy).1];exact hy) dx⟩⟩
 .cases n with
  |zero=>simp[wF]at iq
  |succ n=>
   unfold wF at iq;split at iq
   .have:=kv iq;subst this;simp[lX,Ty.agg]at hm
   .have:=kv iq;subst this;simp[lX,Ty.agg]at hm
   .have:=kv iq;subst this;simp[lX,Ty.agg]at hm
   .split at iq
    .simp[lX,Ty.agg]at hm
    .simp at iq
   .simp at iq
 .cases n with
  |zero=>simp[wF]at iq
  |succ n=>
   unfold wF at iq;split at iq
   .rename_i k hu;exact Jc hu (.inl ⟨k,rfl⟩) ca
   .rename_i hu;exact Jc hu (.inr (.inl rfl)) ca
   .rename_i hu;exact Jc hu (.inr (.inr (.inl rfl))) ca
   .rename_i e hu;exact Jc hu (.inr (.inr (.inr ⟨e,rfl⟩))) ca
   .simp at iq
def OLe{α:Type}(a b:I α):Prop:=∀r,a=O r->b=O r
theorem OLe.refl{α:Type}(a:I α):OLe a a:=λ_ h=>h
theorem OLe.none{α:Type}(a:I α):OLe X a:=λ_ h=>by simp at h
theorem OLe.bind{α β:Type}{a b:I α}{f g:α->I β}(h:OLe a b)(h':∀x,OLe (f x) (g x)):OLe (a.bind f) (b.bind g):=by
 intro r hr;cases a with
 |none=>simp at hr
 |some x=>rw[h x rfl];exact h' x r hr
theorem OLe.cond{α:Type}{c:Ç}{a b a' b':I α}(h:OLe a a')(h':OLe b b'):OLe (cond c a b) (cond c a' b'):=by
 cases c with
 |true=>exact h
 |false=>exact h'
theorem OLe.sumC{α β γ:Type}{x:α ⊕ β}{f f':α->I γ}{g g':β->I γ}(h:∀x,OLe (f x) (f' x))(h':∀x,OLe (g x) (g' x)):OLe (sumC x f g) (Lft.sumC x f' g'):=by
 cases x with
 |inl a=>exact h a
 |inr b=>exact h' b
theorem OLe.loopN{α β:Type}{f g:α->I (α ⊕ β)}(h:∀s,OLe (f s) (g s)):∀(n:U)(s:α),OLe (Lft.loopN f n s) (Lft.loopN g n s)
 |0,_=> .none _
 |n+1,s=>by
  intro r hr;simp only[Lft.loopN]at hr ⊢;cases hf:f s with
  |none=>simp[hf]at hr
  |some x=>
   rw[h s x hf];cases x with
   |inl a=>simp only[hf]at hr;exact OLe.loopN h n a r hr
   |inr b=>simpa[hf]using hr
theorem OLe.loop{α β:Type}{f g:α->I (α ⊕ β)}(n:U)(s:α)(h:∀s,OLe (f s) (g s)):OLe (Lft.loopN f n s) (loopOpt g s):=
 λr hr=>FC (OLe.loopN h n s r hr)
theorem OLe.loopOpt{α β:Type}{f g:α->I (α ⊕ β)}(s:α)(h:∀s,OLe (f s) (g s)):OLe (Lft.loopOpt f s) (Lft.loopOpt g s):=by
 intro r hr;obtain⟨n,hn⟩:=FD hr;exact FC (OLe.loopN h n s r hn)
theorem Zy{α β:Type}{B B':(α->I β)->α->I β}(h:∀g g',(∀a,OLe (g a) (g' a))->∀a,OLe (B g a) (B' g' a)):∀n a,OLe (iX B n a) (iX B' n a)
 |0,_=> .none _
 |n+1,a=>h _ _ (Zy h n) a
theorem OP{α β:Type}{B:(α->I β)->α->I β}(h:∀g g',(∀a,OLe (g a) (g' a))->∀a,OLe (B g a) (B g' a)):∀(k n:U)(a:α),OLe (iX B n a) (iX B (n+k) a)
 |k,0,a=> .none _
 |k,n+1,a=>by
  rw[show n+1+k=(n+k)+1 by omega];exact h _ _ (OP h k n) a
theorem OLe.rec{α β:Type}{B B':(α->I β)->α->I β}(n:U)(a:α)(h:∀g g',(∀a,OLe (g a) (g' a))->∀a,OLe (B g a) (B' g' a))(h':∀g g',(∀a,OLe (g a) (g' a))->∀a,OLe (B' g a) (B' g' a)) :
  OLe (iX B n a) (yo B' a):=by
 intro r hr;have h1:=Zy h n a r hr;refine I4 ⟨n,h1⟩ λm y hy=>?_;have e1:=OP h' m n a r h1;have e2:=OP h' n m a y hy;rw[Nat.add_comm m n]at e2;rw[e1]at e2;simpa using e2.symm
end Go.Lft
