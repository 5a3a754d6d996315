/- Nu of arguments and B1: what is known of them but the data. WJ. -/
import Derived.Test.YtmccfdihkphfaaaGreatRELC
import Derived.KernelRfl
import Derived.IntWalk
import Derived.Below
import Derived.ChangeSame
open _root_ renaming List->D,Option->O,Nat->U,Int->Ã,Bool->É,Array->Ð,DecidableEq->Ñ,Inv->ê,True->ñ
open Option renaming some->I,none->X,map_eq_some_iff->Ý
open Bool renaming false->Y,true->À
open Go.Code renaming region->Z,cond->Î,block->Ò,seq->û
open List renaming length->Á,getD->Ì,getElem?_append_left->Ó,length_append->Õ,range->Ú,getElem?_toArray->Þ,length_range->ä,map_toArray->å,find?_cons->æ,mapM_cons->è,isEmpty->í,map_nil->î,range'->ò
open Go renaming World->Â,Act->Ä,Value->Å,Program->Ç,Oper->Í,Code->Ö,TypeId->Ø,MemPlace->Ü,Func->à,DataW->ë,Addr->ú
open Go.Exit renaming inBlock->Æ
open Go.DataW renaming trod->È,TrodAll->ì,Trod->ø
open Go.Region renaming wanted->Ê,ready->â
open Int renaming toNat->Ë,ofNat->Ù
open Decidable renaming decide->Ï
open Array renaming replicate->Ô,mem_of_getElem?->ß
open Go.Value renaming okWide->Û,func->õ
noncomputable section
set_option linter.unusedVariables false
namespace Go.Lft
inductive CPat where
 |v (t:Ty)
 |p (ts:D Ty)
 deriving Ñ
inductive LPat where
 |dead|nil
 |d (t:Ty)
 |ol (k:U)
 |bp (k c:U)
 |ep (k i c:U)
 |tl (k:U)
 |hd (k:U)
 |ip (ts:D Ty)
 |clo (f:U) (caps:D CPat)
 |clr (f:U) (ks:D U)
 deriving Ñ
inductive KPat where
 |one (l:LPat)
 |st (ls:D LPat)
 |av (n:U) (a:Ty)
 deriving Ñ
inductive BPat where
 |free|gone
 |cell (ls:D LPat) (frz:É)
 |lst (e:U) (a:Ty) (frz:É)
 |arr (n:U) (a:Ty)
 |row (e:U) (a:Ty) (n:U) (ls:D LPat)
 deriving Ñ
inductive IPat where
 |s (c:KPat)
 |b (x:BPat)
 deriving Ñ
abbrev iT:Ty:= .int .i64
abbrev sI:IPat:= .s (.one (.d iT))
abbrev sD(t:Ty):IPat:= .s (.one (.d t))
abbrev sO(k:U):IPat:= .s (.one (.ol k))
abbrev sB(k c:U):IPat:= .s (.one (.bp k c))
abbrev sC(f:U)(l:D CPat):IPat:= .s (.one (.clo f l))
inductive APat where
 |v (t:Ty)
 |ref (ts:D Ty)
 |rl (e:U) (t:Ty)
 |ip (ts:D Ty)
 |clo (f:U) (caps:D CPat)
 |mv (e:U) (t:Ty)
 deriving Ñ
@[reducible] def HL:List Ty->Type
 |[]=>Unit
 |[t]=>t.den
 |t::t'::ts=>t.den×HL (t'::ts)
def ofHL:(ts:D Ty)->HL ts->D TV
 |[],_=>[]
 |[t],h=>[⟨t,h⟩]
 |t::t'::ts,h=>⟨t,h.1⟩::ofHL (t'::ts) h.2
def toHL:(ts:D Ty)->D TV->O (HL ts)
 |[],[]=>I ()
 |[t],[x]=>x.to t
 |t::t'::ts,x::xs=>match x.to t with
  |some v=>match toHL (t'::ts) xs with
   |some r=>I (v,r)
   |none=>X
  |none=>X
 |_,_=>X
theorem HY:∀{ts:D Ty}{xs:D TV}{h:HL ts},toHL ts xs=I h->xs=ofHL ts h
 |[],[],_,_=>rfl
 |[],_::_,_,h=>by simp[toHL]at h
 |[_],[],_,h=>by simp[toHL]at h
 |[t],[x],hl,h=>by
  simp only[toHL]at h;rw[nv h];rfl
 |[t],x::y::xs,hl,h=>by simp[toHL]at h
 |_::_::_,[],_,h=>by simp[toHL]at h
 |t::t'::ts,x::xs,hl,h=>by
  simp only[toHL]at h;split at h
  .rename_i v hv;split at h
   .rename_i r hr;simp only[j5]at h;subst h;rw[nv hv,HY hr];rfl
   .simp at h
  .simp at h
def capP:Cap->CPat×D TV
 |.v x=>(.v x.t,[x])
 |.p ls=>(.p (ls.map (·.t)),ls)
def oU:D Cap->D CPat×D TV
 |[]=>([],[])
 |c::cs=>((capP c).1::(oU cs).1,(capP c).2++(oU cs).2)
def tv0:TV:=⟨.unit,()⟩
def capF:CPat->D TV->Cap
 |.v _,xs=> .v (xs.headD tv0)
 |.p ts,xs=> .p (xs.take ts.length)
def CPat.n:CPat->U
 |.v _=>1
 |.p ts=>ts.length
def B2:D CPat->D TV->D Cap
 |[],_=>[]
 |c::cs,xs=>capF c xs::B2 cs (xs.drop c.n)
def B3:D CPat->U
 |[]=>0
 |c::cs=>c.n+B3 cs
theorem jF8(c:Cap)(r:D TV):capF (capP c).1 ((capP c).2++r)=c/\(capP c).1.n=(capP c).2.length:=by
 cases c<;>grind[capP,capF,CPat.n]
theorem HZ:∀(cs:D Cap)(r:D TV),B2 (oU cs).1 ((oU cs).2++r)=cs/\B3 (oU cs).1=(oU cs).2.length
 |[],r=>⟨rfl,rfl⟩
 |c::cs,r=>by
  simp only[oU,B2,B3,jg,Õ];have h1:=jF8 c ((oU cs).2++r);have h2:=HZ cs r;rw[h1.1,h1.2,ve,h2.1,h2.2];exact⟨rfl,rfl⟩
def tB:Leaf->LPat×D TV
 |.dead=>(.dead,[])
 |.nil=>(.nil,[])
 |.d t v=>(.d t,[⟨t,v⟩])
 |.ol k=>(.ol k,[])
 |.bp k c=>(.bp k c,[])
 |.ep k i c=>(.ep k i c,[])
 |.tl k i=>(.tl k,[⟨.int .i64,(i:Ã)⟩])
 |.hd k i=>(.hd k,[⟨.int .i64,(i:Ã)⟩])
 |.ip ls=>(.ip (ls.map (·.t)),ls)
 |.clo f caps=>(.clo f (oU caps).1,(oU caps).2)
 |.clr f ks=>(.clr f ks,[])
def Nv:TV->U
 |⟨.int _,v⟩=>Ë v
 |_=>0
def LPat.n:LPat->U
 |.d _=>1
 |.tl _=>1
 |.hd _=>1
 |.ip ts=>ts.length
 |.clo _ cs=>B3 cs
 |_=>0
def ED:LPat->D TV->Leaf
 |.dead,_=> .dead
 |.nil,_=> .nil
 |.d _,xs=> .d (xs.headD tv0).t (xs.headD tv0).v
 |.ol k,_=> .ol k
 |.bp k c,_=> .bp k c
 |.ep k i c,_=> .ep k i c
 |.tl k,xs=> .tl k (Nv (xs.headD tv0))
 |.hd k,xs=> .hd k (Nv (xs.headD tv0))
 |.ip ts,xs=> .ip (xs.take ts.length)
 |.clo f cs,xs=> .clo f (B2 cs xs)
 |.clr f ks,_=> .clr f ks
theorem WK(l:Leaf)(r:D TV):ED (tB l).1 ((tB l).2++r)=l/\(tB l).1.n=(tB l).2.length:=by
 cases l with
 |ip ls=>simp[tB,ED,LPat.n]
 |clo f cs=>grind[HZ,tB,ED,LPat.n]
 |_=>exact⟨rfl,rfl⟩
def oV:D Leaf->D LPat×D TV
 |[]=>([],[])
 |c::cs=>((tB c).1::(oV cs).1,(tB c).2++(oV cs).2)
def B4:D LPat->D TV->D Leaf
 |[],_=>[]
 |c::cs,xs=>ED c xs::B4 cs (xs.drop c.n)
def B5:D LPat->U
 |[]=>0
 |c::cs=>c.n+B5 cs
theorem H0:∀(cs:D Leaf)(r:D TV),B4 (oV cs).1 ((oV cs).2++r)=cs/\B5 (oV cs).1=(oV cs).2.length
 |[],r=>⟨rfl,rfl⟩
 |c::cs,r=>by
  simp only[oV,B4,B5,jg,Õ];have h1:=WK c ((oV cs).2++r);have h2:=H0 cs r;rw[h1.1,h1.2,ve,h2.1,h2.2];exact⟨rfl,rfl⟩
def celP:Cel->KPat×D TV
 |.one l=>(.one (tB l).1,(tB l).2)
 |.st ls=>(.st (oV ls).1,(oV ls).2)
 |.av n a xs=>(.av n a,[⟨.list a,xs⟩])
def EE(a:Ty)(xs:D TV):D a.den:=((xs.headD tv0).to (.list a)).getD []
theorem Nw(a:Ty)(xs:D a.den)(r:D TV):EE a (⟨.list a,xs⟩::r)=xs:=by
 simp[EE,TV.to]
def KPat.n:KPat->U
 |.one l=>l.n
 |.st ls=>B5 ls
 |.av _ _=>1
def celF:KPat->D TV->Cel
 |.one l,xs=> .one (ED l xs)
 |.st ls,xs=> .st (B4 ls xs)
 |.av n a,xs=> .av n a (EE a xs)
theorem jF9(c:Cel)(r:D TV):celF (celP c).1 ((celP c).2++r)=c/\(celP c).1.n=(celP c).2.length:=by
 cases c with
 |one l=>have:=WK l r;exact⟨by grind[celP,celF],this.2⟩
 |st ls=>have:=H0 ls r;exact⟨by grind[celP,celF],this.2⟩
 |av n a xs=>exact⟨by grind[celP,celF,Nw],rfl⟩
def bsP:BS->BPat×D TV
 |.free=>(.free,[])
 |.gone=>(.gone,[])
 |.live (.cell ls f)=>(.cell (oV ls).1 f,(oV ls).2)
 |.live (.lst e a xs f)=>(.lst e a f,[⟨.list a,xs⟩])
 |.live (.arr n a xs)=>(.arr n a,[⟨.list a,xs⟩])
 |.live (.row e a n ls)=>(.row e a n (oV ls).1,(oV ls).2)
def BPat.n:BPat->U
 |.free|.gone=>0
 |.cell ls _=>B5 ls
 |.lst _ _ _=>1
 |.arr _ _=>1
 |.row _ _ _ ls=>B5 ls
def bsF:BPat->D TV->BS
 |.free,_=> .free
 |.gone,_=> .gone
 |.cell ls f,xs=> .live (.cell (B4 ls xs) f)
 |.lst e a f,xs=> .live (.lst e a (EE a xs) f)
 |.arr n a,xs=> .live (.arr n a (EE a xs))
 |.row e a n ls,xs=> .live (.row e a n (B4 ls xs))
theorem jGx(c:BS)(r:D TV):bsF (bsP c).1 ((bsP c).2++r)=c/\(bsP c).1.n=(bsP c).2.length:=by
 cases c with
 |free=>exact⟨rfl,rfl⟩
 |gone=>exact⟨rfl,rfl⟩
 |live b=>
  cases b with
  |cell ls f=>have:=H0 ls r;exact⟨by grind[bsP,bsF],this.2⟩
  |lst e a xs f=>exact⟨by grind[bsP,bsF,Nw],rfl⟩
  |arr n a xs=>exact⟨by grind[bsP,bsF,Nw],rfl⟩
  |row e a n ls=>have:=H0 ls r;exact⟨by grind[bsP,bsF],this.2⟩
def itP:Item->IPat×D TV
 |.s c=>(.s (celP c).1,(celP c).2)
 |.b x=>(.b (bsP x).1,(bsP x).2)
def IPat.n:IPat->U
 |.s c=>c.n
 |.b x=>x.n
def itF:IPat->D TV->Item
 |.s c,xs=> .s (celF c xs)
 |.b x,xs=> .b (bsF x xs)
theorem WM(c:Item)(r:D TV):itF (itP c).1 ((itP c).2++r)=c/\(itP c).1.n=(itP c).2.length:=by
 cases c with
 |s c=>have:=jF9 c r;exact⟨by grind[itP,itF],this.2⟩
 |b x=>have:=jGx x r;exact⟨by grind[itP,itF],this.2⟩
def mY:Snap->D IPat×D TV
 |[]=>([],[])
 |c::cs=>((itP c).1::(mY cs).1,(itP c).2++(mY cs).2)
def zA:D IPat->D TV->Snap
 |[],_=>[]
 |c::cs,xs=>itF c xs::zA cs (xs.drop c.n)
theorem WN:∀(cs:Snap),zA (mY cs).1 (mY cs).2=cs
 |[]=>rfl
 |c::cs=>by
  simp only[mY,zA];have h1:=WM c (mY cs).2;rw[h1.1,h1.2,ve,WN cs]
def pack(ps:D IPat)(ts:D Ty)(h:HL ts):Snap:=zA ps (ofHL ts h)
def r9(ps:D IPat)(ts:D Ty)(s:Snap):O (HL ts):=
 if (mY s).1=ps then toHL ts (mY s).2 else X
theorem B6{ps:D IPat}{ts:D Ty}{s:Snap}{h:HL ts}(hs:r9 ps ts s=I h):s=pack ps ts h:=by
 grind[r9,HY,pack,WN]
def argP:Arg->APat×D TV
 |.v x=>(.v x.t,[x])
 |.ref ls=>(.ref (ls.map (·.t)),ls)
 |.rl e x=>(.rl e x.t,[x])
 |.ip ls=>(.ip (ls.map (·.t)),ls)
 |.clo f cs=>(.clo f (oU cs).1,(oU cs).2)
 |.mv e x=>(.mv e x.t,[x])
def APat.n:APat->U
 |.v _=>1
 |.ref ts=>ts.length
 |.rl _ _=>1
 |.ip ts=>ts.length
 |.clo _ cs=>B3 cs
 |.mv _ _=>1
def argF:APat->D TV->Arg
 |.v _,xs=> .v (xs.headD tv0)
 |.ref ts,xs=> .ref (xs.take ts.length)
 |.rl e _,xs=> .rl e (xs.headD tv0)
 |.ip ts,xs=> .ip (xs.take ts.length)
 |.clo f cs,xs=> .clo f (B2 cs xs)
 |.mv e _,xs=> .mv e (xs.headD tv0)
theorem jFb(c:Arg)(r:D TV):argF (argP c).1 ((argP c).2++r)=c/\(argP c).1.n=(argP c).2.length:=by
 cases c<;>grind[argP,argF,APat.n,HZ]
def uU:D Arg->D APat×D TV
 |[]=>([],[])
 |c::cs=>((argP c).1::(uU cs).1,(argP c).2++(uU cs).2)
def B7:D APat->D TV->D Arg
 |[],_=>[]
 |c::cs,xs=>argF c xs::B7 cs (xs.drop c.n)
theorem WO:∀(cs:D Arg),B7 (uU cs).1 (uU cs).2=cs
 |[]=>rfl
 |c::cs=>by
  simp only[uU,B7];have h1:=jFb c (uU cs).2;rw[h1.1,h1.2,ve,WO cs]
def sa(ps:D APat)(ts:D Ty)(h:HL ts):D Arg:=B7 ps (ofHL ts h)
def H2(ps:D APat)(ts:D Ty)(s:D Arg):O (HL ts):=
 if (uU s).1=ps then toHL ts (uU s).2 else X
theorem H3{ps:D APat}{ts:D Ty}{s:D Arg}{h:HL ts}(hs:H2 ps ts s=I h):s=sa ps ts h:=by
 grind[H2,HY,sa,WO]
theorem Nx{α β:Type}{f:α->O (α ⊕ β)}:∀{n m:U}{s:α}{x y:β},loopN f n s=I x->loopN f m s=I y->x=y
 |0,_,_,_,_,h,_=>by simp[loopN]at h
 |_+1,0,_,_,_,_,h=>by simp[loopN]at h
 |n+1,m+1,s,x,y,h,h'=>by
  simp only[loopN]at h h';cases hf:f s with
  |none=>simp[hf]at h
  |some r=>
   cases r with
   |inl s'=>simp only[hf]at h h';exact Nx h h'
   |inr z=>simp only[hf,j5]at h h';rw[<-h,<-h']
open Classical in
def loopOpt{α β:Type}(f:α->O (α ⊕ β))(s:α):O β:=
 match loopN f 100000 s with
 |some x=>I x
 |none=>if h:∃x n,loopN f n s=I x then I h.choose else X
theorem EF{α β:Type}{f:α->O (α ⊕ β)}{s:α}{n:U}{x:β}(h:loopN f n s=I x):loopOpt f s=I x:=by
 unfold loopOpt;split
 .grind[Nx]
 have hx:∃x n,loopN f n s=I x:=⟨x,n,h⟩;grind[Nx]
theorem EG{α β:Type}{f:α->O (α ⊕ β)}{s:α}{x:β}(h:loopOpt f s=I x):∃n,loopN f n s=I x:=by
 unfold loopOpt at h;split at h
 .grind
 split at h;all_goals grind
theorem jsu{α β:Type}{f:α->O (α ⊕ β)}{s s':α}(h:f s=I (.inl s')):loopOpt f s=loopOpt f s':=by
 cases hq:loopOpt f s' with
 |some x=>obtain⟨n,hn⟩:=EG hq;exact EF (n:=n+1) (by grind[loopN])
 |none=>
  cases hp:loopOpt f s with
  |none=>rfl
  |some x=>obtain⟨n,hn⟩:=EG hp;cases n<;>grind[loopN,EF]
theorem jui{α β:Type}{f:α->O (α ⊕ β)}{s:α}{x:β}(h:f s=I (.inr x)):loopOpt f s=I x:=
 EF (n:=1) (by simp only[loopN,h])
theorem WQ{α β A B:Type}{f:α->O (α ⊕ β)}{g:A->O (A ⊕ B)}{p:A->α}{q:B->β}
  (h:∀a r,g a=I r->f (p a)=I (match r with|.inl a'=> .inl (p a')|.inr b=> .inr (q b))):∀{n:U}{a:A}{x:B},loopN g n a=I x->loopN f n (p a)=I (q x)
 |0,_,_,hn=>by simp[loopN]at hn
 |n+1,a,x,hn=>by
  simp only[loopN]at hn;cases hg:g a with
  |none=>simp[hg]at hn
  |some r=>
   have:=h a r hg;cases r with
   |inl a'=>simp only[hg]at hn;simp only[loopN,this];exact WQ h hn
   |inr b=>grind[loopN]
def sumC{α β γ:Type}(x:α ⊕ β)(f:α->γ)(g:β->γ):γ:=match x with
 |.inl a=>f a
 |.inr b=>g b
structure XD where
 ex:Ex
 ps:D IPat
 ts:D Ty
@[reducible] def XT:List XD->Type
 |[]=>Empty
 |[x]=>HL x.ts
 |x::y::r=>HL x.ts ⊕ XT (y::r)
def sb:(l:D XD)->XT l->Ex×Snap
 |[],h=>nomatch h
 |[x],h=>(x.ex,pack x.ps x.ts h)
 |x::y::r,h=>match h with
  |.inl a=>(x.ex,pack x.ps x.ts a)
  |.inr b=>sb (y::r) b
def EH{R:Type}:(l:D XD)->XT l->(Ex->Snap->O R)->O R
 |[],_,_=>X
 |[x],h,k=>k x.ex (pack x.ps x.ts h)
 |x::y::r,h,k=>sumC h (λa=>k x.ex (pack x.ps x.ts a)) (λb=>EH (y::r) b k)
theorem Ny{R:Type}:∀(l:D XD)(h:XT l)(k:Ex->Snap->O R),EH l h k=k (sb l h).1 (sb l h).2
 |[],h,_=>nomatch h
 |[x],h,k=>rfl
 |x::y::r,h,k=>by
  cases h with
  |inl a=>rfl
  |inr b=>exact Ny (y::r) b k
def unX:(l:D XD)->Ex->Snap->O (XT l)
 |[],_,_=>X
 |[x],e,s=>if e=x.ex then r9 x.ps x.ts s else X
 |x::y::r,e,s=>if e=x.ex/\(mY s).1=x.ps then match r9 x.ps x.ts s with
   |some a=>I (.inl a)
   |none=>X
  else match unX (y::r) e s with
   |some b=>I (.inr b)
   |none=>X
theorem Nz:∀(l:D XD)(e:Ex)(s:Snap)(x:XT l),unX l e s=I x->sb l x=(e,s)
 |[],_,_,_,h=>by simp[unX]at h
 |[x],e,s,h,he=>by
  simp only[unX]at he;split at he
  .rename_i h1;rw[sb,<-B6 he,h1]
  .simp at he
 |x::y::r,e,s,h,he=>by
  simp only[unX]at he;split at he
  .rename_i h1;split at he
   .rename_i a ha;simp only[j5]at he;subst he;show (x.ex,pack x.ps x.ts a)=(e,s);rw[<-B6 ha,h1.1]
   .simp at he
  .split at he
   .rename_i b hb;simp only[j5]at he;subst he;exact Nz (y::r) e s b hb
   .simp at he
structure mZ where
 b:U
 ps:D IPat
 ts:D Ty
 exits:D XD
 step:HL ts->O (HL ts ⊕ XT exits)
def uV:D mZ->U->Snap->(R:Type)->(Ex->Snap->O R)->O R
 |[],_,_,_,_=>X
 |d::ds,b,s,R,k=>if d.b=b then match r9 d.ps d.ts s with
   |some h=>(loopOpt d.step h).bind λx=>EH d.exits x k
   |none=>X
  else uV ds b s R k
theorem NA:∀ds:D mZ,LFun (uV ds)
 |[]=>λ_ _=>⟨X,λ_ _=>rfl⟩
 |d::ds=>λb s=>by
  simp only[uV];split
  .split
   .rename_i h _;cases hq:loopOpt d.step h with
    |none=>exact⟨X,λ_ _=>rfl⟩
    |some x=>exact⟨I (sb d.exits x),λR k=>Ny d.exits x k⟩
   .exact⟨X,λ_ _=>rfl⟩
  .exact NA ds b s
structure MrD where
 b:U
 m:U
 nm:U
 ps:D IPat
 ts:D Ty
 em:U
 v:Ty
 G:HL ts->Ã->v.den->(R:Type)->(v.den->O R)->O R
def mrL:D MrD->U->Snap->(R:Type)->(Snap->O R)->O R
 |[],_,_,_,_=>X
 |d::ds,b,s,R,k=>if d.b=b then match r9 d.ps d.ts s,wa d.em d.v s with
   |some h,I xs=>(tX (λq z=>d.G h q z d.v.den I) xs).bind λys=>k (lK s d.em d.v ys)
   |_,_=>X
  else mrL ds b s R k
def mrF:D MrD->U->O (U×U)
 |[],_=>X
 |d::ds,b=>if d.b=b then I (d.m,d.nm) else mrF ds b
theorem NB:∀ds:D MrD,MFun (mrL ds)
 |[]=>λ_ _=>⟨X,λ_ _=>rfl⟩
 |d::ds=>λb s=>by
  simp only[mrL];split
  .split
   .rename_i h xs _ _;cases tX (λq z=>d.G h q z d.v.den I) xs with
    |none=>exact⟨X,λ_ _=>rfl⟩
    |some ys=>exact⟨I (lK s d.em d.v ys),λ_ _=>rfl⟩
   .exact⟨X,λ_ _=>rfl⟩
  .exact NB ds b s
theorem WR{b m nm:U}:∀{ds:D MrD},mrF ds b=I (m,nm)->∃d∈ds,d.b=b/\d.m=m/\d.nm=nm/\∀s R k,mrL ds b s R k=match r9 d.ps d.ts s,wa d.em d.v s with
   |some h,I xs=>(tX (λq z=>d.G h q z d.v.den I) xs).bind λys=>k (lK s d.em d.v ys)
   |_,_=>X
 |[],h=>by simp[mrF]at h
 |d::ds,h=>by
  simp only[mrF]at h;split at h
  .rename_i hb;simp only[j5,j9]at h;refine⟨d,ae,hb,h.1,h.2,λs R k=>?_⟩;simp only[mrL,hb,if_true]
  .rename_i hb;obtain⟨d',hm,h1,h2,h3,h4⟩:=WR h;refine⟨d',by simp[hm],h1,h2,h3,λs R k=>?_⟩;rw[<-h4];simp only[mrL,hb,qz]
def mrPd(b:U)(c:Ö):MrP:=(mrP b c).getD ⟨0,0,0,0,0, #[],.skip⟩
structure NC(E:Env)(c:Ö)(d:MrD):Prop where
 em:isM d.em=À
 bx:∀h zs,(dD E.np (E.keep d.b) (lK (pack d.ps d.ts h) d.em d.v zs)).bx d.nm = .live (.lst d.em (.pair (.int .i64) d.v) zs Y)
 sl:∀h zs,(dD E.np (E.keep d.b) (lK (pack d.ps d.ts h) d.em d.v zs)).sl d.m = .one (.one (.ol d.nm))
 step:∀h zs q z (R:Type) (k:Snap->O R),G0 E d.b (mrPd d.b c) d.m (lK (pack d.ps d.ts h) d.em d.v zs) d.v q z k=
  d.G h q z R (λy=>k (lK (pack d.ps d.ts h) d.em d.v (@iI _ _ (Ty.int .i64).keq zs q y)))
theorem jDU(t:Ty)(v:t.den):(TV.mk t v).to t=I v:=by simp[TV.to]
theorem jxh(s:Snap)(em:U)(v:Ty)(zs:D (Ã×v.den)):wa em v (lK s em v zs)=I zs:=by
 grind[wa,lK,jDU]
theorem jzd{em:U}{v:Ty}{s:Snap}{xs:D (Ã×v.den)}(h:wa em v s=I xs):s=lK s em v xs:=by
 unfold wa at h;split at h
 .rename_i e a zs hl;split at h
  .rename_i he;subst he;have:=nv h;grind[List.getLast?_eq_some_iff,lK]
  .simp at h
 .simp at h
theorem WS{α β:Type}{G:α->β->O β}:∀{xs ys:D (α×β)},tX G xs=I ys->All2 (λx y=>y.1=x.1/\G x.1 x.2=I y.2) xs ys
 |[],ys,h=>by
  simp only[tX,j5]at h;subst h;trivial
 |x::r,ys,h=>by
  simp only[tX]at h;cases hg:G x.1 x.2 with
  |none=>rw[hg]at h;simp at h
  |some z=>
   rw[hg,j4]at h;cases hr:tX G r with
   |none=>rw[hr]at h;simp at h
   |some r'=>rw[hr,j4,j5]at h;subst h;exact⟨⟨rfl,hg⟩,WS hr⟩
theorem jDV{E:Env}(h0:E.off0=E)(hF:CFun E.C)(hz:E.nz=Y)(hL:LFun E.L/\MFun E.M){c:Ö}{ds:D MrD}{b:U}(hm:E.mr=mrF ds)(hM:E.M=mrL ds)(hs:∀d∈ds,d.b=b->NC E c d):MrOK E b c:=by
 intro m nm p hb hp s R k r h;rw[h0];rw[hm]at hb;obtain⟨d,hd,rfl,rfl,rfl,he⟩:=WR hb;have bT:=hs d hd rfl;rw[hM,he]at h;split at h
 case h_2=>simp at h
 rename_i hh xs hu hg;cases hq:tX (λq z=>d.G hh q z d.v.den I) xs with
 |none=>simp_all
 |some ys=>
 rw[hq,j4]at h;obtain rfl:=B6 hu;have hpd:mrPd d.b c=p:=by grind[mrPd]
 refine⟨d.em,d.v,xs,ys,bT.em,jzd hg,λzs=>⟨bT.bx hh zs,bT.sl hh zs⟩,(WS hq).mono λx y jE=>⟨jE.1,λzs=>?_⟩,h⟩;obtain⟨o,ho⟩:=jxc hF hz hL d.b p d.m (lK (pack d.ps d.ts hh) d.em d.v []) d.v x.1 x.2;have aV:=λzs R k=>bT.step hh zs x.1 x.2 R k;rw[hpd]at aV
 let inv:Snap->d.v.den:=λs=>match wa d.em d.v s with
  |some ((_,y)::_)=>y
  |_=>d.v.dflt
 have hinv:∀y,inv (lK (pack d.ps d.ts hh) d.em d.v (@iI _ _ (Ty.int .i64).keq [] x.1 y))=y:=λy=>by
  show (match wa d.em d.v _ with
   |some ((_,y)::_)=>y
   |_=>d.v.dflt)=y
  rw[jxh];rfl
 have hG:∀(R:Type)(κ:d.v.den->O R),d.G hh x.1 x.2 R κ=o.bind λs=>κ (inv s):=λR κ=>by
  rw[<-ho]
  simp_all
 rw[aV,hG];have h2:=jE.2;rw[hG]at h2;cases o with
 |none=>simp at h2
 |some s0=>
  simp_all
def mrAt(c:Ö)(b:U):Code:=(((fV 0 c).find? λx=>Nat.beq x.1 b).getD (0,.skip)).2
def zB(E:Env)(c:Ö):D MrD->Prop
 |[]=>ñ
 |d::ds=>NC E (mrAt c d.b) d/\zB E c ds
theorem zB.get{E:Env}{c:Ö}:∀{ds:D MrD},zB E c ds->∀d∈ds,NC E (mrAt c d.b) d
 |[],_,d,h=>by simp at h
 |x::r,hs,d,h=>by
  rcases je.1 h with rfl|h
  .exact hs.1
  .exact zB.get hs.2 d h
theorem WT:∀{l:D (U×Ö)}{x:U×Ö},(l.map (·.1)).Nodup->x∈l->l.find? (λy=>Nat.beq y.1 x.1)=I x
 |[],x,_,h=>by simp at h
 |y::r,x,hn,h=>by
  have hc:=qo.1 (show (y.1::r.map (·.1)).Nodup from hn);rcases je.1 h with rfl|h
  .rw[æ,Nat.beq_refl]
  .have br:y.1≠x.1:=λe=>hc.1 (e▸jx.2 ⟨x,h,rfl⟩);rw[æ,beqF br];exact WT hc.2 h
def uk(E:Env)(d:mZ)(e:Ex)(σ:St):O (HL d.ts ⊕ XT d.exits):=
 match e with
 |.normal=>match kH E.np (E.keep d.b) σ with
  |some s=>match r9 d.ps d.ts s with
   |some h=>I (.inl h)
   |none=>X
  |none=>X
 |e=>match kH E.np (E.keepX d.b e) σ with
  |some s=>match unX d.exits e s with
   |some x=>I (.inr x)
   |none=>X
  |none=>X
def ukR(E:Env)(d:mZ)(ps:Ð U)(x y:Ö)(p:O (D Item))(e:Ex)(σ:St):O (HL d.ts ⊕ XT d.exits):=
 match p,e with
 |some q,.normal=>match kH E.np (E.keep d.b) σ with
  |some s=>match r9 d.ps d.ts (q++s) with
   |some h=>I (.inl h)
   |none=>X
  |none=>X
 |_,e=>cond (pinK ps x y (E.keepX d.b e)) (match kH E.np (E.keepX d.b e) σ with
  |some s=>match unX d.exits e s with
   |some x=>I (.inr x)
   |none=>X
  |none=>X) X
def jBu(E:Env)(d:mZ)(h:HL d.ts):Ö->O (HL d.ts ⊕ XT d.exits)
 |.rangeFunc g ps x y=>Df E d.b g ps x y (pack d.ps d.ts h) (ukR E d ps x y)
 |c=>fL E d.b c (dD E.np (E.keep d.b) (pack d.ps d.ts h)) (uk E d)
def H4(E:Env)(c:Ö)(d:mZ):Prop:=∀h,jBu E d h c=d.step h
def outS(d:mZ)(r:HL d.ts ⊕ XT d.exits):Snap ⊕ Ex×Snap:=match r with
 |.inl a=> .inl (pack d.ps d.ts a)
 |.inr x=> .inr (sb d.exits x)
theorem jFc{E:Env}(hF:CFun E.C)(hz:E.nz=Y)(hL:LFun E.L/\MFun E.M){g:Operand}{ps:Ð U}{x y:Ö}{d:mZ}(hs:H4 E (.rangeFunc g ps x y) d)(h:HL d.ts)(r:HL d.ts ⊕ XT d.exits):d.step h=I r->
  wb E d.b g ps x y (pack d.ps d.ts h)=I (outS d r):=by
 intro hr;obtain⟨o,ho⟩:=jug hF hz hL d.b g ps x y (pack d.ps d.ts h);rw[<-hs h]at hr;have h1:I r=_:=hr.symm.trans (ho _ (λz=>ukR E d ps x y z.1 z.2.1 z.2.2));cases o with
 |none=>simp at h1
 |some z=>
  obtain⟨p,e,σ⟩:=z;simp only[j4]at h1
  have h2:=ho _ (λz:O (D Item)×Ex×St=>match z.1,z.2.1 with
   |some q,.normal=>match kH E.np (E.keep d.b) z.2.2 with
    |some s'=>I (Sum.inl (q++s'))
    |none=>X
   |_,e=>cond (pinK ps x y (E.keepX d.b e)) (match kH E.np (E.keepX d.b e) z.2.2 with
    |some s'=>I (Sum.inr (e,s'))
    |none=>X) X)
  have h3:wb E d.b g ps x y (pack d.ps d.ts h)=_:=h2;rw[h3,j4];clear h3 h2 hr ho;dsimp only;have h1:=h1.symm;unfold ukR at h1
  have hx:∀e,(cond (pinK ps x y (E.keepX d.b e)) (match kH E.np (E.keepX d.b e) σ with
    |some s=>match unX d.exits e s with
     |some x=>I (Sum.inr x)
     |none=>X
    |none=>X) X:O (HL d.ts ⊕ XT d.exits))=I r->(cond (pinK ps x y (E.keepX d.b e)) (match kH E.np (E.keepX d.b e) σ with
    |some s'=>I (Sum.inr (e,s'))
    |none=>X) X:O (Snap ⊕ Ex×Snap))=I (outS d r):=by
   grind[outS,Nz]
  cases p<;>grind[outS,B6]
theorem jBv{E:Env}(hF:CFun E.C)(hz:E.nz=Y)(hL:LFun E.L/\MFun E.M){c:Ö}{d:mZ}(hs:∀h,fL E d.b c (dD E.np (E.keep d.b) (pack d.ps d.ts h)) (uk E d)=d.step h)(h:HL d.ts)(r:HL d.ts ⊕ XT d.exits):d.step h=I r->
  xL E d.b c (pack d.ps d.ts h)=I (match r with|.inl a=> .inl (pack d.ps d.ts a)|.inr x=> .inr (sb d.exits x)):=by
 intro hr;obtain⟨o,ho⟩:=EC hF hz hL c d.b (dD E.np (E.keep d.b) (pack d.ps d.ts h));rw[<-hs h]at hr;have h1:I r=_:=hr.symm.trans (ho _ (λz=>uk E d z.1 z.2));cases o with
 |none=>simp at h1
 |some z=>
  obtain⟨e,σ⟩:=z;simp only[j4]at h1
  have h2:=ho _ (λz:Ex×St=>match z.1 with
   |.normal=>match kH E.np (E.keep d.b) z.2 with
    |some s'=>I (Sum.inl s')
    |none=>X
   |e=>match kH E.np (E.keepX d.b e) z.2 with
    |some s'=>I (Sum.inr (e,s'))
    |none=>X)
  have h3:xL E d.b c (pack d.ps d.ts h)=_:=h2;grind[uk,B6,Nz]
theorem jzf{E:Env}(h0:E.off0=E)(hF:CFun E.C)(hz:E.nz=Y)(hL:LFun E.L/\MFun E.M){c:Ö}{d:mZ}(hs:H4 E c d)
  (he:∀s R k,E.L d.b s R k=match r9 d.ps d.ts s with|some h=>(loopOpt d.step h).bind λx=>EH d.exits x k|none=>X):BU E d.b c:=by
 intro s R k r h;rw[he]at h;split at h
 .rename_i hl hu;cases hq:loopOpt d.step hl with
  |none=>simp[hq]at h
  |some x=>
   rw[hq,j4,Ny]at h;obtain⟨n,hn⟩:=EG hq;refine⟨n,(sb d.exits x).1,(sb d.exits x).2,?_,h⟩;rw[B6 hu]
   exact WQ (f:=Dg E d.b c) (p:=pack d.ps d.ts) (q:=sb d.exits) (λa r hr=>by
    have hq:=h0;unfold Dg;rw[hq];cases c with
    |rangeFunc g ps x y=>have:=jFc hF hz hL hs a r hr;cases r<;>exact this
    |_=>have:=jBv hF hz hL hs a r hr;cases r<;>exact this) hn
 .simp at h
def lpAt(c:Ö)(j:U):Code:=((fV 0 c).getD j (0,.skip)).2
def xb(E:Env)(c:Ö):U->D mZ->Prop
 |_,[]=>ñ
 |j,d::ds=>H4 E (lpAt c j) d/\xb E c (j+1) ds
theorem xb.get{E:Env}{c:Ö}:∀{ds:D mZ}{i j:U}{d:mZ},xb E c i ds->ds[j]? = I d->H4 E (lpAt c (i+j)) d
 |[],_,_,_,_,h=>by simp at h
 |x::xs,i,0,d,hs,h=>by simp at h;subst h;exact hs.1
 |x::xs,i,j+1,d,hs,h=>by
  have:=xb.get (i:=i+1) (j:=j) hs.2 (by simpa using h);grind
theorem WU:∀{ds:D mZ}{j:U}{d:mZ},oG (ds.map (·.b))=À->ds[j]? = I d->∀s R k,uV ds d.b s R k=match r9 d.ps d.ts s with|some h=>(loopOpt d.step h).bind λx=>EH d.exits x k|none=>X
 |[],_,_,_,h=>by simp at h
 |x::xs,0,d,_,h=>by simp at h;subst h;intro s R k;simp only[uV,if_true]
 |x::xs,j+1,d,hn,h=>by
  simp only[kj,oG,jd,q9,qj,kg]at hn;have hm:d∈xs:=k9 (by simpa using h);have br:x.b≠d.b:=λe=>hn.1 (e▸jx.2 ⟨d,hm,rfl⟩);intro s R k;simp only[uV,br,qz];exact WU (j:=j) hn.2 (by simpa using h) s R k
theorem jBw{E:Env}(h0:E.off0=E)(hF:CFun E.C)(hz:E.nz=Y){c:Ö}{ds:D mZ}(hE:E.L=uV ds)(hm:(fV 0 c).map (·.1)=ds.map (·.b))(hn:oG (ds.map (·.b))=À)(hs:xb E c 0 ds){ms:D MrD}(M7:E.mr=mrF ms)(hM:E.M=mrL ms)(EI:zB E c ms) :
  ∀x∈fV 0 c,BU E x.1 x.2/\MrOK E x.1 x.2:=by
 intro x hx;have WV:LFun E.L/\MFun E.M:=⟨hE▸NA ds,hM▸NB ms⟩;have dZ:((fV 0 c).map (·.1)).Nodup:=hm▸yu hn;refine⟨?_,jDV h0 hF hz WV M7 hM λd hd hb=>?_⟩
 rotate_left
 .have:=EI.get d hd
  simp_all[mrAt,WT]
 obtain⟨j,hj⟩:=zj.1 hx;have wU:(ds.map (·.b))[j]? = I x.1:=by grind
 rw[qg]at wU;cases hd:ds[j]? with
 |none=>simp[hd]at wU
 |some d=>
  simp only[hd,kn,j5]at wU;have h1:=xb.get hs hd;rw[kb]at h1;have h2:lpAt c j=x.2:=by grind[lpAt]
  rw[h2]at h1;have:=jzf (E:=E) h0 hF hz WV h1 (λs R k=>by rw[hE];grind[WU]);rwa[wU]at this
inductive VPat where
 |v (t:Ty)
 |own (e:U) (t:Ty)
 |box (ts:D Ty)
 |hd
 |vn (t:Ty) (ns:D U)
 |clo (f:U) (caps:D CPat)
 |so (ls:D (O U×Ty))
 |raw (ns:D U) (ps:D IPat)
 deriving Ñ
inductive OPat where
 |ref (ts:D Ty)
 |rl (t:Ty)
 deriving Ñ
def rlP:RL->(O U×Ty)×TV
 |.d x=>((X,x.t),x)
 |.own e x=>((I e,x.t),x)
def rlsF:D (O U×Ty)->D TV->D RL
 |[],_=>[]
 |(X,_)::ps,xs=> .d (xs.headD tv0)::rlsF ps xs.tail
 |(I e,_)::ps,xs=> .own e (xs.headD tv0)::rlsF ps xs.tail
theorem ND:∀(ls:D RL)(r:D TV),rlsF (ls.map λl=>(rlP l).1) ((ls.map λl=>(rlP l).2)++r)=ls
 |[],r=>rfl
 |.d x::ls,r=>by
  have:=ND ls r;show RL.d _::rlsF _ (_++r)=_;rw[this];rfl
 |.own e x::ls,r=>by
  have:=ND ls r;show RL.own e _::rlsF _ (_++r)=_;rw[this];rfl
def H5:D IPat->U
 |[]=>0
 |c::cs=>c.n+H5 cs
theorem NF:∀(cs:Snap)(r:D TV),zA (mY cs).1 ((mY cs).2++r)=cs/\H5 (mY cs).1=(mY cs).2.length
 |[],r=>⟨rfl,rfl⟩
 |c::cs,r=>by
  simp only[mY,zA,H5,jg,Õ];have h1:=WM c ((mY cs).2++r);have h2:=NF cs r;rw[h1.1,h1.2,ve,h2.1,h2.2];exact⟨rfl,rfl⟩
def rvP:RV->VPat×D TV
 |.v x=>(.v x.t,[x])
 |.own e x=>(.own e x.t,[x])
 |.box ls=>(.box (ls.map (·.t)),ls)
 |.hd n=>(.hd,[⟨.int .i64,(n:Ã)⟩])
 |.vn x ns=>(.vn x.t ns,[x])
 |.clo f caps=>(.clo f (oU caps).1,(oU caps).2)
 |.so ls=>(.so (ls.map λl=>(rlP l).1),ls.map λl=>(rlP l).2)
 |.raw ns s=>(.raw ns (mY s).1,(mY s).2)
def VPat.n:VPat->U
 |.v _=>1
 |.own _ _=>1
 |.box ts=>ts.length
 |.hd=>1
 |.vn _ _=>1
 |.clo _ cs=>B3 cs
 |.so ls=>ls.length
 |.raw _ ps=>H5 ps
def rvF:VPat->D TV->RV
 |.v _,xs=> .v (xs.headD tv0)
 |.own e _,xs=> .own e (xs.headD tv0)
 |.box ts,xs=> .box (xs.take ts.length)
 |.hd,xs=> .hd (Nv (xs.headD tv0))
 |.vn _ ns,xs=> .vn (xs.headD tv0) ns
 |.clo f cs,xs=> .clo f (B2 cs xs)
 |.so ls,xs=> .so (rlsF ls xs)
 |.raw ns ps,xs=> .raw ns (zA ps xs)
theorem jGy(c:RV)(r:D TV):rvF (rvP c).1 ((rvP c).2++r)=c/\(rvP c).1.n=(rvP c).2.length:=by
 cases c with
 |v x=>exact⟨rfl,rfl⟩
 |own e x=>exact⟨rfl,rfl⟩
 |hd n=>exact⟨rfl,rfl⟩
 |vn x ns=>exact⟨rfl,rfl⟩
 |box ls=>simp[rvP,rvF,VPat.n]
 |clo f cs=>grind[HZ,rvP,rvF,VPat.n]
 |so ls=>grind[rvP,rvF,ND,VPat.n]
 |raw ns s=>exact⟨by grind[rvP,rvF,NF],(NF s r).2⟩
def outP:Out->OPat×D TV
 |.ref ls=>(.ref (ls.map (·.t)),ls)
 |.rl x=>(.rl x.t,[x])
def OPat.n:OPat->U
 |.ref ts=>ts.length
 |.rl _=>1
def outF:OPat->D TV->Out
 |.ref ts,xs=> .ref (xs.take ts.length)
 |.rl _,xs=> .rl (xs.headD tv0)
theorem jFd(c:Out)(r:D TV):outF (outP c).1 ((outP c).2++r)=c/\(outP c).1.n=(outP c).2.length:=by
 cases c<;>grind[outP,outF,OPat.n]
def rvsP:D RV->D VPat×D TV
 |[]=>([],[])
 |c::cs=>((rvP c).1::(rvsP cs).1,(rvP c).2++(rvsP cs).2)
def rvsF:D VPat->D TV->D RV
 |[],_=>[]
 |c::cs,xs=>rvF c xs::rvsF cs (xs.drop c.n)
def rvsN:D VPat->U
 |[]=>0
 |c::cs=>c.n+rvsN cs
theorem NG:∀(cs:D RV)(r:D TV),rvsF (rvsP cs).1 ((rvsP cs).2++r)=cs/\rvsN (rvsP cs).1=(rvsP cs).2.length
 |[],r=>⟨rfl,rfl⟩
 |c::cs,r=>by
  simp only[rvsP,rvsF,rvsN,jg,Õ];have h1:=jGy c ((rvsP cs).2++r);have h2:=NG cs r;rw[h1.1,h1.2,ve,h2.1,h2.2];exact⟨rfl,rfl⟩
def xc:D Out->D OPat×D TV
 |[]=>([],[])
 |c::cs=>((outP c).1::(xc cs).1,(outP c).2++(xc cs).2)
def H6:D OPat->D TV->D Out
 |[],_=>[]
 |c::cs,xs=>outF c xs::H6 cs (xs.drop c.n)
theorem WW:∀(cs:D Out)(r:D TV),H6 (xc cs).1 ((xc cs).2++r)=cs
 |[],r=>rfl
 |c::cs,r=>by
  simp only[xc,H6,jg];have h1:=jFd c ((xc cs).2++r);rw[h1.1,h1.2,ve,WW cs r]
structure RPat where
 vs:D VPat
 os:D OPat
 deriving Ñ
def oq(rp:RPat)(ts:D Ty)(h:HL ts):Ret:=⟨rvsF rp.vs (ofHL ts h),H6 rp.os ((ofHL ts h).drop (rvsN rp.vs))⟩
def H7(rp:RPat)(ts:D Ty)(r:Ret):O (HL ts):=
 if (rvsP r.vals).1=rp.vs/\(xc r.outs).1=rp.os then toHL ts ((rvsP r.vals).2++(xc r.outs).2) else X
theorem jxi{rp:RPat}{ts:D Ty}{r:Ret}{h:HL ts}(hs:H7 rp ts r=I h):r=oq rp ts h:=by
 unfold H7 at hs;split at hs
 .rename_i hp;have:=HY hs;unfold oq;rw[<-this,<-hp.1,<-hp.2,(NG r.vals _).1,(NG r.vals []).2,ve];have h2:=WW r.outs []
  simp_all
 .simp at hs
structure Con where
 f:U
 ps:D APat
 ts:D Ty
 rp:RPat
 rs:D Ty
 F:HL ts->O (HL rs)
def Con.C(c:Con)(args:D Arg)(R:Type)(k:Ret->O R):O R:=
 match H2 c.ps c.ts args with
 |some h=>(c.F h).bind λx=>k (oq c.rp c.rs x)
 |none=>X
def Con.OK(P:Ç)(c:Con):Prop:=FnOK P c.f c.C
def orF{α:Type}(a b:O α):O α:=match a with
 |some x=>I x
 |none=>b
theorem jFe{P:Ç}{f:U}{ps:D APat}{ts:D Ty}{rp:RPat}{rs:D Ty}{F G:HL ts->O (HL rs)}(h1:Con.OK P ⟨f,ps,ts,rp,rs,F⟩)(h2:Con.OK P ⟨f,ps,ts,rp,rs,G⟩) :
  Con.OK P ⟨f,ps,ts,rp,rs,λh=>orF (F h) (G h)⟩:=by
 intro args R k r hk;unfold Con.C at hk;split at hk
 .rename_i h hu;have e1:=h1 args R k r;have e2:=h2 args R k r;unfold Con.C at e1 e2;simp only[hu]at e1 e2;cases hF:F h<;>grind[orF]
 .simp at hk
def conC:D Con->U->D Arg->(R:Type)->(Ret->O R)->O R
 |[],_,_,_,_=>X
 |c::cs,f,args,R,k=>if c.f=f then (if (uU args).1=c.ps then c.C args R k else conC cs f args R k) else conC cs f args R k
theorem EJ{P:Ç}{f:U}:FnOK P f (λ_ _ _=>X):=by
 intro args R k r h;simp at h
def EK(P:Ç):D Con->Prop
 |[]=>ñ
 |c::cs=>c.OK P/\EK P cs
theorem NH{P:Ç}:∀cs:D Con,EK P cs->kD P (conC cs)
 |[],_,_=>EJ
 |c::cs,h,f=>by
  have ih:=NH cs h.2 f;intro args R k r hk;simp only[conC]at hk;split at hk
  .rename_i hf;subst hf;split at hk
   .exact h.1 args R k r hk
   .exact ih args R k r hk
  .exact ih args R k r hk
theorem NI:∀cs:D Con,CFun (conC cs)
 |[]=>λ_ _=>⟨X,λ_ _=>rfl⟩
 |c::cs=>λf args=>by
  have ih:=NI cs f args;simp only[conC];split
  .split
   .unfold Con.C;split
    .rename_i h _;cases hq:c.F h with
     |none=>exact⟨X,λ_ _=>rfl⟩
     |some x=>exact⟨I (oq c.rp c.rs x),λ_ _=>rfl⟩
    .exact⟨X,λ_ _=>rfl⟩
   .exact ih
  .exact ih
def NJ:D (U×Keep)->U->Keep
 |[],_=>⟨[],[],[],[]⟩
 |x::r,b=>if x.1=b then x.2 else NJ r b
def NK:D (U×Ex×Keep)->U->Ex->Keep
 |[],_,_=>⟨[],[],[],[]⟩
 |x::r,b,e=>if x.1=b/\x.2.1=e then x.2.2 else NK r b e
def NL:D (U×D É)->U->D É
 |[],_=>[]
 |x::r,b=>if x.1=b then x.2 else NL r b
def dwL:D (U×D (D U))->U->D (D U)
 |[],_=>[]
 |x::r,b=>if x.1=b then x.2 else dwL r b
def bwL:D (U×(É×Ty))->U->O (É×Ty)
 |[],_=>X
 |x::r,f=>if x.1=f then I x.2 else bwL r f
def H8(P:Ç):D (U×(É×Ty))->Prop
 |[]=>ñ
 |x::r=>BwK P x.1 x.2/\H8 P r
theorem WX{P:Ç}:∀{l:D (U×(É×Ty))},H8 P l->∀f t,bwL l f=I t->BwK P f t
 |[],_,f,t,h=>by simp[bwL]at h
 |x::r,hl,f,t,h=>by
  simp only[bwL]at h;split at h
  .rename_i e;simp only[j5]at h;rw[<-e,<-h];exact hl.1
  .exact WX hl.2 f t h
structure FnD where
 N:U
 np:U
 cs:D Con:=[]
 ds:D mZ:=[]
 modes:D (U×D É):=[]
 keep:D (U×Keep):=[]
 keepX:D (U×Ex×Keep):=[]
 ro:D Bool:=[]
 dw:D (U×D (D U)):=[]
 hd:Bool:=Y
 ns:D Nat:=[]
 bw:D (U×(É×Ty)):=[]
 so:D SoK:=[]
 cr:D Nat:=[]
 un:D Nat:=[]
 unr:Nat:=2
 pre:D (U×D Gh):=[]
 rw:Bool:=Y
 rn:D Nat:=[]
 b1:D Nat:=[]
 ks:D Nat:=[]
 ms:D MrD:=[]
 mvf:D Nat:=[]
 pa:D (U×U×Ty):=[]
 sc:Bool:=Y
def paL:D (U×U×Ty)->U->O (U×Ty)
 |[],_=>X
 |x::r,i=>if x.1=i then I x.2 else paL r i
def preL:D (U×D Gh)->U->D Gh
 |[],_=>[]
 |x::r,i=>if x.1=i then x.2 else preL r i
def FnD.env(d:FnD)(T:D (O TyI)):Env:=⟨⟨d.N,λ_=>Y⟩,d.np,tab T,conC d.cs,NL d.modes,uV d.ds,NJ d.keep,NK d.keepX,d.ro,dwL d.dw,Y,d.hd,d.ns,bwL d.bw,d.so,d.cr,λb=>cond (d.un.contains b) d.unr 0,preL d.pre,d.rw,d.rn,d.b1,λi=>d.ks.contains i,λf=>d.mvf.contains f,mrF d.ms,mrL d.ms,paL d.pa,d.sc,0⟩
theorem jFf{P:Ç}{T:D (O TyI)}(hT:cJ P (tab T))(gh:P.follows .mixedOrders=À)(d:FnD)(mb:Con)(fn:à)(c:Ö)(hf:P.funcs[mb.f]? = I fn)(hb:fn.body=I c)
  (hN : fn.ntmps = d.N) (yY : d.np ≤ d.N) (ca : (fn.name == "runtime.NumGoroutine") = Y) (c9 : EK P d.cs) (hm : (fV 0 c).map (·.1) = d.ds.map (·.b)) (hn : oG (d.ds.map (·.b)) = À)
  (hs:xb (d.env T) c 0 d.ds)(hF:∀h,wc (d.env T) fn (sa mb.ps mb.ts h) (H7 mb.rp mb.rs)=mb.F h)(jS:H8 P d.bw:=by trivial)(EI:zB (d.env T) c d.ms:=by trivial):mb.OK P:=by
 have hC:kD P (d.env T).C:=NH d.cs c9;have sd:CFun (d.env T).C:=NI d.cs;have hL:LFun (d.env T).L/\MFun (d.env T).M:=⟨NA d.ds,NB d.ms⟩;have rD:=WA (E:=d.env T) hT hC sd gh hf hb hN rfl (WX jS) yY ca (jBw rfl sd rfl rfl hm hn hs rfl rfl EI);intro args R k r hk;unfold Con.C at hk;split at hk
 .rename_i h hu;rw[H3 hu];cases hq:mb.F h with
  |none=>simp[hq]at hk
  |some x=>rw[hq,j4]at hk;refine rD _ R k r ?_;obtain⟨o,ho⟩:=jxd sd rfl hL fn (sa mb.ps mb.ts h);have h1:I x=_:=((hF h).trans hq).symm.trans (ho _ _);cases o<;>grind[jxi]
 .simp at hk
theorem cOf{P:Ç}{T:D (O TyI)}(hT:cJ P (tab T))(gh:P.follows .mixedOrders=À)(d:FnD)(mb:Con){fn:à}(hf:P.funcs[mb.f]? = I fn)(c9:EK P d.cs)
  (hs:xb (d.env T) (fn.body.getD .skip) 0 d.ds)(jS:H8 P d.bw:=by trivial)(hb:fn.body=I (fn.body.getD .skip):=by kernel_rfl)(hN:fn.ntmps=d.N:=by kernel_rfl)
  (yY : Nat.ble d.np d.N = true := by kernel_rfl) (ca : (fn.name == "runtime.NumGoroutine") = false := by kernel_rfl) (hm : (fV 0 (fn.body.getD .skip)).map (·.1) = d.ds.map (·.b) := by kernel_rfl)
  (hn:oG (d.ds.map (·.b))=true:=by kernel_rfl)(hF:∀h,wc (d.env T) fn (sa mb.ps mb.ts h) (H7 mb.rp mb.rs)=mb.F h:=by intro h;kernel_rfl)(EI:zB (d.env T) (fn.body.getD .skip) d.ms:=by trivial):mb.OK P:=
 jFf hT gh d mb fn _ hf hb hN (vq yY) ca c9 hm hn hs hF jS EI
def mc{α β:Type}(B:(α->O β)->α->O β):U->α->O β
 |0,_=>X
 |n+1,a=>B (mc B n) a
open Classical in
def xd{α β:Type}(B:(α->O β)->α->O β)(a:α):O β:=
 if h:∃x n,mc B n a=I x then I h.choose else X
theorem jzm{α β:Type}{B:(α->O β)->α->O β}{a:α}{x:β}(h:xd B a=I x):∃n,mc B n a=I x:=by
 unfold xd at h;split at h;all_goals grind
theorem WY{α β:Type}{B:(α->O β)->α->O β}{a:α}{x:β}(h1:∃n,mc B n a=I x)(h2:∀n y,mc B n a=I y->y=x):xd B a=I x:=by
 obtain⟨n,hn⟩:=h1;have hx:∃x n,mc B n a=I x:=⟨x,n,hn⟩;grind[xd]
theorem jFg{P:Ç}{f:U}{ps:D APat}{ts:D Ty}{rp:RPat}{rs:D Ty}{B:(HL ts->O (HL rs))->HL ts->O (HL rs)}
  (gg:∀g,Con.OK P ⟨f,ps,ts,rp,rs,g⟩->Con.OK P ⟨f,ps,ts,rp,rs,B g⟩):Con.OK P ⟨f,ps,ts,rp,rs,xd B⟩:=by
 have all:∀n,Con.OK P ⟨f,ps,ts,rp,rs,mc B n⟩:=by
  intro n;induction n with
  |zero=>intro args R k r hk;grind[Con.C,mc]
  |succ n ih=>exact gg _ ih
 intro args R k r hk;unfold Con.C at hk;split at hk
 .rename_i h hu;cases hq:xd B h with
  |none=>simp[hq]at hk
  |some x=>obtain⟨n,hn⟩:=jzm hq;refine all n args R k r ?_;grind[Con.C]
 .simp at hk
def FnD.envN(d:FnD)(T:D (O TyI)):Env:=⟨⟨d.N,λ_=>Y⟩,d.np,tab T,conC d.cs,NL d.modes,uV d.ds,NJ d.keep,NK d.keepX,d.ro,dwL d.dw,À,d.hd,d.ns,λ_=>X,d.so,d.cr,λ_=>0,λ_=>[],Y,[],[],λ_=>Y,λ_=>Y,λ_=>X,λ_ _ _ _=>X,λ_=>X,Y,0⟩
theorem jzn{α R:Type}(xs:D α)(K:D α->O R){r:R}(h:(cond (Ï (([]:D α).length+xs.length<=aG)) (I (([]:D α)++xs)) X).bind K=I r) :
  xG (í xs) (K []) (cond (Ï (([]:D α).length+xs.length<=aG)) (K (([]:D α)++xs)) X)=I r:=by
 cases hd:Ï (([]:D α).length+xs.length<=aG) with
 |false=>rw[hd]at h;simp at h
 |true=>
  rw[hd]at h;simp only[j6,j4]at h ⊢;cases xs with
  |nil=>simp only[kx]at h ⊢;rw[Ġ];exact h
  |cons x r=>exact h
theorem WZ{P:Ç}{T:D (O TyI)}(hT:cJ P (tab T))(gh:P.follows .mixedOrders=À)(d:FnD)(f:U)(a:Ty)(e:U)(fn:à)(c:Ö)(hf:P.funcs[f]? = I fn)(hb:fn.body=I c)
  (hN : fn.ntmps = d.N) (yY : d.np ≤ d.N) (ca : (fn.name == "runtime.NumGoroutine") = Y) (c9 : EK P d.cs) (hl : fV 0 c = [])
  (hF:∀(h:D a.den)(R:Type)(k:Ret->O R),wc (d.envN T) fn [.v ⟨.list a,h⟩] k=xG (í h) (k ⟨[.own e ⟨.list a,([]:D a.den)⟩],[]⟩)
   (cond (Ï (([]:D a.den).length+Á h<=aG)) (k ⟨[.own e ⟨.list a,([]:D a.den)++h⟩],[]⟩) X)) :
  Con.OK P ⟨f,[.v (.list a)],[.list a],⟨[.own e (.list a)],[]⟩,[.list a],λh=>cond (Ï (([]:D a.den).length+Á h<=aG)) (I (([]:D a.den)++h)) X⟩:=by
 have hC:kD P (d.envN T).C:=NH d.cs c9;have sd:CFun (d.envN T).C:=NI d.cs;have rD:=WA (E:=d.envN T) hT hC sd gh hf hb hN rfl (λf t h=>by simp[FnD.envN]at h) yY ca (by rw[hl];simp);intro args R k r hk;unfold Con.C at hk;split at hk
 .rename_i h hu;rw[H3 hu];refine rD _ R k r ?_;refine(hF h R k).trans ?_;exact jzn (α:=a.den) h (λx=>k ⟨[.own e ⟨.list a,x⟩],[]⟩) hk
 .simp at hk
def w64(x:Ã):Int:=IntKind.wrap .i64 x
class LP where
 lp:{α β:Type}->(α->O (α ⊕ β))->α->O β
 rp:{α β:Type}->((α->O β)->α->O β)->α->O β
noncomputable instance realLP:LP:=⟨loopOpt,xd⟩
abbrev jGX(N:U):LP:=⟨λf a=>loopN f N a,λB a=>mc B N a⟩
theorem gX{x:Ã}(h1 : -9223372036854775808<=x)(h2:x<=9223372036854775807):w64 x=x:=IntWalk.i64_in x ⟨h1,h2⟩
def lpK{α β:Type}(r:O (α ⊕ β))(f:α->O β):O β:=match r with
 |none=>X
 |some (.inl s)=>f s
 |some (.inr x)=>I x
theorem aS{α β:Type}(s:α)(f:α->O β):lpK (I (.inl s)) f=f s:=rfl
theorem aW{α β:Type}(x:β)(f:α->O β):lpK (I (.inr x)) f=I x:=rfl
theorem pN{α β γ:Type}(x:α)(f:α->γ)(g:β->γ):sumC (.inl x) f g=f x:=rfl
theorem me{α β γ:Type}(x:β)(f:α->γ)(g:β->γ):sumC (.inr x) f g=g x:=rfl
theorem bj{α β:Type}(f:α->O (α ⊕ β))(s:α):loopOpt f s=lpK (f s) (loopOpt f):=by
 cases h:f s with
 |none=>
  cases hq:loopOpt f s with
  |none=>rfl
  |some x=>obtain⟨n,hn⟩:=EG hq;cases n<;>simp[loopN,h]at hn
 |some r=>
  cases r with
  |inl s'=>exact jsu h
  |inr x=>exact jui h
section
variable{S0:aY}{w0:Â}{refs:Refs}
theorem H9{P:Ç}{E:Env}(hT:cJ P E.T)(hC:kD P E.C){ops:Ð Í}{R:Type}{k:St->O R}{r:R}{Q:Exit->Ä->Â->Prop}{n:U}{rest:D U}
  (hn:∀σ' a' w' S' γ',Rel E.N E.np S0 w0 refs σ' a' w' S' γ'->dq σ'->k σ'=I r->wpOpsIn (FR X) n P ops Q rest a' w') :
  ∀(l:D Í)(i:U){σ:St}{a:Ä}{w:Â}{S:aY}{γ:U->Å},(∀j o,l[j]? = I o->ops[i+j]? = I o/\o.guard=X)->Rel E.N E.np S0 w0 refs σ a w S γ->dq σ->nM E l σ k=I r->
   wpOpsIn (FR X) n P ops Q (ò i l.length++rest) a w
 |[],i,σ,a,w,S,γ,hl,hR,hc,h=>hn _ _ _ _ _ hR hc h
 |o::l,i,σ,a,w,S,γ,hl,hR,hc,h=>by
  simp only[nM]at h;split at h
  .rename_i hd;obtain⟨ho,hg⟩:=hl 0 o rfl;have hw:Ê o (yielded ops a.tmps)=true:=by simp[Ê,hg]
   simp only[ji,y9,List.cons_append,wpOpsIn,show ops[i]? = I o from ho,hw,if_true];refine BR (.inl rfl) (λ_ _ h=>h) (D6 hT hC hR (act:=[]) (λg hg=>by simp at hg) (p:=Y) (λ_=>hc) hd h (λσ' a' w' S' γ' cT dz hk=>?_));exact H9 hT hC hn l (i+1) (λj o' hj=>by rw[show i+1+j=i+(j+1) by omega];exact hl (j+1) o' (by simpa using hj)) cT (dz rfl) hk
  .simp at h
theorem tC{N:NT}{np:U}{fx:U->O Å}{σ:St}{a:Ä}{W:Â}{S:aY}(cm:a.tmps.size=N.n)(hd:a.defers=[])(bq:∀k,σ.bx k = .free)(hS:∀g o,S g o->g<W.heap.size)
  (rV:∀i,iA S W (λ_=>undef) σ.bx (tm a) (σ.sl i) (tm a i))(NM:∀i v,fx i=I v->N.pin i=À/\tm a i=v):Rel N np S W { blks:=[],val:=λ_=>X,fix:=fx } σ a W S (λ_=>undef):=
 ⟨cm,hd,rV,λk b h=>by rw[bq]at h;simp at h,λk b g h=>by rw[bq]at h;simp at h,λk k' b b' g _ h=>by rw[bq]at h;simp at h,λ_ _ h=>h,λ_ _ h=> .inl h,hS,λ_ _ _=>rfl,jq _,rfl,rfl,rfl,
  λk v h=>by simp at h,λg o h=>by simp at h,NM⟩
theorem oW{N:NT}{np:U}{fx:U->O Å}{σ:St}{a:Ä}{w:Â}{S:aY}{γ:U->Å}(hR:Rel N np S0 w0 { blks:=[],val:=λ_=>X,fix:=fx } σ a w S γ):Grew w0 w:=
 ⟨λg hg=>hR.below g hg (λh=>by have h:g∈([]:D U):=h;simp at h),hR.grow,hR.os,hR.tape,hR.output⟩
theorem W0{P:Ç}{a:Ä}{w:Â}{o:Í}{cl:Call}(ho:o.op = .call cl){x:Operand}(hc:cl.callee = .value x){l:U}(hx:a.eval x = .func (.yield l) #[] #[]){nx:Next}{w':Â}
  (hy:(Instr.yield l (cl.args.map a.eval)).run P w = .ok nx w'):(execOp a.eval o).run P w = .ok nx w':=by
 simp[execOp,ho,resolve,hc,Deferred.ofValue,hx,invoke,hy]
end
section
variable{S0:aY}{w0:Â}{refs:Refs}
def bwE(T:U->O TyI):Env:=
 { N:=⟨19,λi=>i==0||(i==1||i==11)⟩,np:=0,T:=T,C:=λ_ _ _ _=>X,modes:=λ_=>[],L:=λ_ _ _ _=>X,keep:=λ_=>⟨[],[],[],[]⟩,keepX:=λ_ _=>⟨[],[],[],[]⟩,ro:=[] }
def slF(l:D (U×Cel)):St:={ sl:=λj=>match l.find? (λx=>x.1==j) with|some x=> .one x.2|none=> .one (.one .dead),bx:=λ_=> .free }
def g3(σ:St):O Int:=match σ.sl 3 with
 |.one (.one (.d (.int .i64) v))=>I v
 |_=>X
def g1(σ:St):O (É×Ã):=match σ.sl 8,σ.sl 3 with
 |.one (.one (.d .bool b)),.one (.one (.d (.int .i64) v))=>I (b,v)
 |_,_=>X
def g18(σ:St):O (É×Ã):=match σ.sl 18,σ.sl 3 with
 |.one (.one (.d .bool b)),.one (.one (.d (.int .i64) v))=>I (b,v)
 |_,_=>X
def g16(t:Ty)(σ:St):O (Ã×t.den×Ã):=match σ.sl 12,σ.sl 16,σ.sl 3 with
 |.one (.one (.d (.int .i64) u)),.one c,.one (.one (.d (.int .i64) v))=>match oE (λ_=> .gone) t c with
  |some (x,[])=>I (u,x,v)
  |_=>X
 |_,_,_=>X
def lstP(t:Ty)(xs:D t.den):Cel:= .one (.ip [⟨.list t,xs⟩])
def intP(i:Ã):Cel:= .one (.d (.int .i64) i)
theorem tD(l:D (U×Cel)):dq (slF l):=λi=>by
 simp only[slF];split<;>rfl
theorem W7{np:U}{σ:St}:RdF np σ (λ_=> .gone):=⟨λ_=> .inr rfl,λk e a xs f h=>by simp at h⟩
theorem tE{S:aY}{W:Â}{γ:U->Å}{l:D (U×Cel)}{NN:U->Å}(h:∀x∈l,bQ S W γ (λ_=> .free) x.2 (NN x.1))(i:U):iA S W γ (λ_=> .free) NN ((slF l).sl i) (NN i):=by
 simp only[slF];split
 .rename_i x hx;have:=h x (List.mem_of_find?_eq_some hx);have e:=List.find?_some hx;simp only[vg]at e;rw[<-e];exact this
 .exact⟨trivial,λh=>absurd rfl h⟩
theorem NO{P:Ç}{T:U->O TyI}(hT:cJ P T){Ev n:U}{A:Ð Í}{σ:St}{fx:U->O Å}{a:Ä}{w:Â}{S:aY}{γ:U->Å}{R:Type}{k:St->O R}{r:R}
  (hR:Rel (bwE T).N (bwE T).np S0 w0 { blks:=[],val:=λ_=>X,fix:=fx } σ a w S γ)(hc:dq σ)(h:lJ (bwE T) A σ k=I r) :
  (Z Ev A Y).wpIn (FR X) n P (λe a' w'=>e = .normal/\∃σ' S' γ',Rel (bwE T).N (bwE T).np S0 w0 { blks:=[],val:=λ_=>X,fix:=fx } σ' a' w' S' γ'/\k σ'=I r) a w:=
 wpIn_region (yQ (.inl rfl) (by rintro⟨a,w,h,_⟩;cases h) _ _ _ (Mu hT (λf=>EJ) hR hc (λσ' a' w' S' γ' cT _ hk=>⟨rfl,σ',S',γ',cT,hk⟩) h))
theorem Ia{σ:St}{v:Ã}(h:g3 σ=I v):σ.sl 3 = .one (.one (.d (.int .i64) v)):=by
 unfold g3 at h;split at h
 .rename_i u hu;simp only[j5]at h;subst h;exact hu
 .simp at h
theorem jGz{σ:St}{b:É}{v:Ã}(h:g1 σ=I (b,v)):σ.sl 8 = .one (.one (.d .bool b))/\σ.sl 3 = .one (.one (.d (.int .i64) v)):=by
 unfold g1 at h;split at h
 .rename_i hb hu;simp only[j5,j9]at h;obtain⟨rfl,rfl⟩:=h;exact⟨hb,hu⟩
 .simp at h
theorem jFh{σ:St}{b:É}{v:Ã}(h:g18 σ=I (b,v)):σ.sl 18 = .one (.one (.d .bool b))/\σ.sl 3 = .one (.one (.d (.int .i64) v)):=by
 unfold g18 at h;split at h
 .rename_i hb hu;simp only[j5,j9]at h;obtain⟨rfl,rfl⟩:=h;exact⟨hb,hu⟩
 .simp at h
theorem jFi{t:Ty}{σ:St}{i:Ã}{x:t.den}{v:Ã}(h:g16 t σ=I (i,x,v)):σ.sl 12 = .one (.one (.d (.int .i64) i))/\σ.sl 3 = .one (.one (.d (.int .i64) v))/\∃c,σ.sl 16 = .one c/\oE (λ_=> .gone) t c=I (x,[]):=by
 unfold g16 at h;split at h
 .rename_i c _ nA Ib h3;split at h
  .rename_i hx;simp only[j5,j9]at h;obtain⟨rfl,rfl,rfl⟩:=h;exact⟨nA,h3,c,Ib,hx⟩
  .simp at h
 .simp at h
theorem sf{N:NT}{np:U}{σ:St}{a:Ä}{w:Â}{S:aY}{γ:U->Å}(hR:Rel N np S0 w0 refs σ a w S γ){s:U}{v:Ã}(h:σ.sl s = .one (.one (.d (.int .i64) v))):tm a s = .int .i64 v:=by
 have:=hR.slot s;rw[h]at this;have h1:[a.tmps.getD s undef]=[Value.int .i64 v]:=this.1;simpa[tm]using h1
theorem Ic{N:NT}{np:U}{σ:St}{a:Ä}{w:Â}{S:aY}{γ:U->Å}(hR:Rel N np S0 w0 refs σ a w S γ){s:U}{v:É}(h:σ.sl s = .one (.one (.d .bool v))):tm a s = .bool v:=by
 have:=hR.slot s;rw[h]at this;have h1:[a.tmps.getD s undef]=[Value.bool v]:=this.1;simpa[tm]using h1
theorem jGA{P:Ç}{T:U->O TyI}(hT:cJ P T){f:U}{t:Ty}{fn:à}(hf:P.funcs[f]? = I fn){r0 b0 r1 b1 r3 r2:U}{A0 A1 A2:Ð Í}{o0 o6 o7:Í}{l3:D Í}{cl:Call}
  (hb:fn.body=I ((Z r0 A0 Y).seq (Ò b0 ((((Z r1 A1 Y).seq (Î (.tmp 8) .skip (.exit b0))).seq ((Ò b1 ((Z r3 (o0::(l3++[o6,o7])).toArray Y).seq (Î (.tmp 18) .ret .skip))).seq (Z r2 A2 Y))).loop))))
  (zC : fn.ntmps = 19) (jU : fn.results = #[]) (ca : (fn.name == "runtime.NumGoroutine") = Y) (B8 : l3.length = 5) (cu : (o0 :: (l3 ++ [o6, o7])).all (fun o => o.guard.isNone) = À)
  (mf:o0.op = .move (.tmp 0))(uW:o0.dst=I 11)(zD:o6.op = .call cl)(NP:cl.callee = .value (.tmp 11))(Ie:cl.args = #[.tmp 12,.tmp 16])(h6d:o6.dst=I 17)
  (e0:∀xs:D t.den,lJ (bwE T) A0 (slF [(1,lstP t xs)]) g3=I (w64 (Ù (Á xs)-1)))
  (e1:∀i:Ã,lJ (bwE T) A1 (slF [(3,intP i)]) g1=I (Ï (i>=0),i))
  (e2:∀i:Ã,lJ (bwE T) A2 (slF [(3,intP i)]) g3=I (w64 (i-1)))
  (e3:∀(xs:D t.den)(i:Ã),nM (bwE T) l3 (slF [(1,lstP t xs),(3,intP i)]) (g16 t)=cond (inR i (Á xs)) (I (i,Ì xs (Ë i) t.dflt,i)) X)
  (e7:∀(b:É)(i:Ã),nM (bwE T) [o7] (slF [(17,.one (.d .bool b)),(3,intP i)]) g18=I (!b,i)):BwOK P f t:=by
 refine⟨⟨fn,hf,by rw[hb];rfl,ca⟩,?_⟩;intro cv m l J Jx W S aV rK dA hY gG w6;have hC:kD P (bwE T).C:=λf=>EJ;obtain⟨S0,kQ,hm,NQ,lx⟩:=gG
 obtain⟨z0,oK⟩:∃z0,cv = #[z0]:=by
  have:=lx.length;obtain⟨cl⟩:=cv;match cl,this with
  |[z],_=>exact⟨z,rfl⟩
 subst oK;refine callsIn_of_wp hf hb trivial ?_;rw[zC];obtain⟨yv,zF⟩:∃yv,yv=õ (.yield l) #[] #[]:=⟨_,rfl⟩;obtain⟨R,hR⟩:∃R:Ending->Â->Prop,R=λe W'=>(∃v,e = .returned v)/\((∃S',J m S' W')\/Jx W'):=⟨_,rfl⟩;rw[<-zF,<-hR];let fx:U->O Value:=λi=>if i=0 then I yv else if i=1 then I z0 else X
 let Fr:Ä->Prop:=λa=>a.tmps.size=19/\a.defers=[]/\tm a 0=yv/\tm a 1=z0
 let ê:Ä->Â->Prop:=λa W=>Fr a/\∃j S,j<=m/\J j S W/\tm a 3 = .int .i64 ((m:Ã)-1-j)
 let μ:Ä->Â->Nat:=λa W=>match tm a 3 with
  |.int _ v=>(v+1).toNat
  |_=>0
 have dP:∀{a:Ä}{W':Â},a.defers=[]->((∃S',J m S' W')\/Jx W')->a.defers=[]/\∃v,(results fn a.tmps).run P W' = .ok v W'/\R (.returned v) W':=by intro a W' hd h;exact⟨hd,_,results_none jU _ _ _,by rw[hR];exact⟨⟨_,rfl⟩,h⟩⟩
 have fT:∀{σ:St}{a:Ä}{w w0:Â}{S S0:aY}{γ:U->Å},Rel (bwE T).N (bwE T).np S0 w0 { blks:=[],val:=λ_=>X,fix:=fx } σ a w S γ->Fr a:=λhR=>
  ⟨hR.size,hR.defers,(hR.fix 0 yv rfl).2,(hR.fix 1 z0 rfl).2⟩
 have fI:∀{a:Ä},Fr a->∀i v,fx i=I v->(bwE T).N.pin i=À/\tm a i=v:=by
  intro a ha i v hv;simp only[fx]at hv;split at hv
  .rename_i e;subst e;simp only[j5]at hv;subst hv;exact⟨rfl,ha.2.2.1⟩
  .split at hv
   .rename_i _ e;subst e;simp only[j5]at hv;subst hv;exact⟨rfl,ha.2.2.2⟩
   .simp at hv
 have same:∀{j:U}{S:aY}{W W':Â},J j S W->Grew W W'->wV S W S W':=λhJ hg=>⟨λ_ _ h=>h,λ_ _ h=> .inl h,λg o h=>qd (dA _ _ _ hJ g o h) hg.size⟩
 have hmlt:m<=9223372036854775807:=by
  obtain⟨g,o,cs,_,ay,_⟩:=lx.1;match cs,ay with
  |[z],ay=>obtain⟨ad,cap,_,h1,h2,_⟩:=ay.1;simp only[maxLen]at h2;have h1:Á kQ<=cap:=h1;omega
 obtain⟨a0,uT⟩:∃a0:Ä,a0={ tmps:=#[yv] ++ #[z0]++Ô (19-(#[yv] ++ #[z0]).size) undef,defers:=[] }:=⟨_,rfl⟩;rw[<-uT]
 have na:Fr a0:=by
  subst uT;refine⟨?_,rfl,?_,?_⟩
  .simp
  .simp[tm]
  .simp[tm]
 have gG:Rel (bwE T).N (bwE T).np S0 W { blks:=[],val:=λ_=>X,fix:=fx } (slF [(1,lstP t kQ)]) a0 W S0 (λ_=>undef):=
  tC na.1 na.2.1 (λ_=>rfl) NQ (tE (λx hx=>by
   simp only[ki]at hx;subst hx;rw[na.2.2.2];exact⟨lx.1,λ_=>by obtain⟨g,o,cs,hu,_⟩:=lx.1;rw[hu];rfl⟩)) (fI na)
 refine wpIn_seq (wpIn_mono (NO hT gG (tD _) (e0 kQ)) ?_)
 rintro e a W1 ⟨rfl,σ1,S1,γ1,bu,dj⟩
 show (Ò b0 _).wpIn _ _ _ _ _ _;have h3:=sf bu (Ia dj);refine wpIn_block (wpIn_loop ê μ ⟨fT bu,0,S,k7 _,aV _ _ _ _ _ (oW bu) (same w6 (oW bu)) w6,?_⟩ ?_)
 .rw[h3,hm,gX az az];simp
 .rintro a W ⟨xe,j,S,wU,hJ,h3⟩
  have hint:∀{a:Ä}{W:Â}{S:aY}{v:Ã},tm a 3 = .int .i64 v->bQ S W (λ_=>undef) (λ_=> .free) (intP v) (tm a 3):=λh=>by rw[h];exact⟨rfl,λ_=>rfl⟩
  have NR:Rel (bwE T).N (bwE T).np S W { blks:=[],val:=λ_=>X,fix:=fx } (slF [(3,intP ((m:Ã)-1-j))]) a W S (λ_=>undef):=
   tC xe.1 xe.2.1 (λ_=>rfl) (dA _ _ _ hJ) (tE (λx hx=>by
    simp only[ki]at hx;subst hx;exact hint h3)) (fI xe)
  refine wpIn_seq (wpIn_seq (wpIn_mono (NO hT NR (tD _) (e1 _)) ?_))
  rintro e a1 W1 ⟨rfl,σ1,S1,γ1,bu,dj⟩
  obtain⟨h8,zG⟩:=jGz dj;have zG:=sf bu zG;have h8:a1.eval (.tmp 8) = .bool (Ï ((m:Ã)-1-j>=0)):=Ic bu h8;have EL:=aV _ _ _ _ _ (oW bu) (same hJ (oW bu)) hJ;have iu:=fT bu;show (Î _ _ _).wpIn _ _ _ _ _ _;by_cases bK:(m:Ã)-1-j>=0
  case neg=>rw[decide_eq_false bK]at h8;refine wpIn_cond_false h8 (wpIn_exit ?_);show Æ b0 (bodyPost P fn R) (.exit b0) a1 W1;simp only[Æ,if_true];have hj:j=m:=aa;subst hj;exact dP iu.2.1 (.inl ⟨S,EL⟩)
  case pos=>
  rw[qn bK]at h8;refine wpIn_cond_true h8 (wpIn_skip ?_);show (û _ _).wpIn _ _ _ _ _ _;have NS:j<m:=aa;obtain⟨xs,cK,hlen,nX⟩:=hY j S W1 NS EL;refine wpIn_seq (wpIn_block (wpIn_seq (wpIn_region ?_)));obtain⟨ops,nd⟩:∃ops,ops=(o0::(l3++[o6,o7])).toArray:=⟨_,rfl⟩;rw[<-nd];have pB:∀k,ops[k]? = (o0::(l3++[o6,o7]))[k]? := λk=>by rw[nd];exact Þ
  have bc:∀o∈o0::(l3++[o6,o7]),o.guard=none:=λo ho=>by have:=jv.1 cu o ho;simpa using this
  have cm:ops.size=8:=by rw[nd];simp[B8]
  have hw:∀(o:Í)(a:Ä),o∈o0::(l3++[o6,o7])->Ê o (yielded ops a.tmps)=true:=λo a ho=>by simp[Ê,bc o ho]
  rw[cm,show Ú 8=0::(ò 1 l3.length++[6,7]) by rw[B8];rfl];have NU:ops[0]? = I o0:=by rw[pB];rfl
  simp only[wpOpsIn,NU,hw o0 _ (z7 ..),if_true];refine BR (.inl rfl) (λ_ _ h=>h) ?_;unfold Oper.wp;rw[show (execOp a1.eval o0).run P W1 = .ok (.value (a1.eval (.tmp 0))) W1 by simp[execOp,mf,go_sem],Oper.upon_value,uW];have pO:a1.eval (.tmp 0)=yv:=iu.2.2.1;rw[pO];have EM:11<a1.tmps.size:=by rw[iu.1];omega
  obtain⟨a2,sY⟩:∃a2,a2=a1.put (I 11) yv:=⟨_,rfl⟩;rw[<-sY];have uX:∀i,tm a2 i=if i=11 then yv else tm a1 i:=λi=>by rw[sY];exact uJ EM yv i
  have uY:Fr a2:=⟨by rw[sY,D1];exact iu.1,by rw[sY,D2];exact iu.2.1,by rw[uX];exact iu.2.2.1,by rw[uX];exact iu.2.2.2⟩;let W8:U->O Value:=λi=>if i=11 then I yv else fx i
  have cI:Rel (bwE T).N (bwE T).np S W1 { blks:=[],val:=λ_=>X,fix:=W8 } (slF [(1,lstP t xs),(3,intP ((m:Ã)-1-j))]) a2 W1 S (λ_=>undef):=
   tC uY.1 uY.2.1 (λ_=>rfl) (dA _ _ _ EL) (tE (λx hx=>by
    simp only[je,zh,or_false]at hx;rcases hx with rfl|rfl
    .rw[uY.2.2.2];exact⟨cK.1,λ_=>by obtain⟨g,o,cs,hu,_⟩:=cK.1;rw[hu];rfl⟩
    .exact hint (by rw[uX];exact zG))) (λi v hv=>by
     simp only[W8]at hv;split at hv
     .rename_i e;subst e;simp only[j5]at hv;subst hv;exact⟨rfl,by rw[uX,if_pos rfl]⟩
     .exact fI uY i v hv)
  have hx:∃x,xs[m-1-j]? = I x/\Ì xs (Ë ((m:Ã)-1-j)) t.dflt=x:=by refine⟨xs[m-1-j]'hlen,jo hlen,?_⟩;rw[show Ë ((m:Ã)-1-j)=m-1-j by omega];simp[Ì,hlen]
  obtain⟨x,hx,hxd⟩:=hx;have tF:=e3 xs ((m:Ã)-1-j)
  rw[hxd,show inR ((m:Ã)-1-j) (Á xs)=À by
   unfold inR;rw[qn (show (0:Ã)<=(m:Ã)-1-j by omega),qn (show (m:Ã)-1-j<(Á xs:Ã) by omega)];rfl,j6]at tF
  refine H9 hT hC ?_ l3 1 (λk o hk=>⟨?_,?_⟩) cI (tD _) tF
  rotate_left
  .rw[pB,Nat.add_comm,vb,Ó (List.getElem?_eq_some_iff.1 hk).1];exact hk
  .exact bc o (qi _ (jr _ (k9 hk)))
  intro σ3 a3 W3 S3 γ3 dU _ kR;obtain⟨nA,zH,c,Ib,NV⟩:=jFi kR;have nA:=sf dU nA;have zH:=sf dU zH;have NW:VRep S3 W3 ⟨t,x⟩ (tm a3 16):=by have:=dU.slot 16;rw[Ib]at this;exact(Bn (np:=(bwE T).np) W7 dU.box NV this).2.1 S3 W3 (.refl _ _) (λy hy=>by simp at hy)
  have DK:=oW dU;have h11:tm a3 11=yv:=(dU.fix 11 yv rfl).2;have jV:Fr a3:=⟨dU.size,dU.defers,(dU.fix 0 yv rfl).2,(dU.fix 1 z0 rfl).2⟩;obtain⟨NX,sg,NY,NZ,N0,jW⟩:=nX S3 W3 x _ DK ⟨dU.ext,λg o h=>(dU.new g o h).imp id λh=>h.nil rfl,dU.here⟩ hx NW;have N1:ops[6]? = I o6:=by rw[pB,vb,ke aa,B8];rfl
  have N2:ops[7]? = I o7:=by rw[pB,vb,ke aa,B8];rfl
  simp only[wpOpsIn,N1,hw o6 _ ae,if_true];refine⟨λ_ _=>trivial,?_⟩
  have aR:(execOp a3.eval o6).run P W3 = .ok (.round l NX sg NY NZ) W3:=by
   refine W0 zD NP (l:=l) (by rw[<-zF];exact h11) ?_;rw[Ie];have uZ:a3.eval (.tmp 12) = .int .i64 ((m-1-j:U):Ã):=by rw[show ((m-1-j:U):Ã)=(m:Ã)-1-j by omega];exact nA
   have e16:a3.eval (.tmp 16)=tm a3 16:=rfl;simp only[å,kj,î,uZ,e16];exact N0
  rw[show o6.semAt (FR X).round a3.eval=execOp a3.eval o6 from rfl,aR,Oper.uponIn_round];refine⟨λhd=>by simp[FR,Fence.wide]at hd,?_⟩;refine RoundIn.mono ⟨jW.1,λc cs _=>jW.2 c cs (MQ _ _)⟩ ?_;have EN:17<a3.tmps.size:=by rw[jV.1];omega
  have rest:∀(bb:É)(W4:Â)(S4:aY),(∀g o,S4 g o->g<W4.heap.size)->
    (∀a5 W5,Fr a5->Grew W4 W5->tm a5 18 = .bool (!bb)->tm a5 3 = .int .i64 ((m:Ã)-1-j)->(Exit.then ((Î (.tmp 18) .ret .skip).wpIn (FR X) 0 P (Æ b1 (Exit.then ((Z r2 A2 Y).wpIn (FR X) 0 P (Exit.then (λa' W'=>ê a' W'/\μ a' W'<μ a W) (Æ b0 (bodyPost P fn R))))
     (Exit.then (λa' W'=>ê a' W'/\μ a' W'<μ a W) (Æ b0 (bodyPost P fn R)))))) (Æ b1 (Exit.then ((Z r2 A2 Y).wpIn (FR X) 0 P (Exit.then (λa' W'=>ê a' W'/\μ a' W'<μ a W) (Æ b0 (bodyPost P fn R))))
     (Exit.then (λa' W'=>ê a' W'/\μ a' W'<μ a W) (Æ b0 (bodyPost P fn R)))))) .normal a5 W5)->
    wpOpsIn (FR X) 0 P ops (Exit.then ((Î (.tmp 18) .ret .skip).wpIn (FR X) 0 P (Æ b1 (Exit.then ((Z r2 A2 Y).wpIn (FR X) 0 P (Exit.then (λa' W'=>ê a' W'/\μ a' W'<μ a W) (Æ b0 (bodyPost P fn R))))
     (Exit.then (λa' W'=>ê a' W'/\μ a' W'<μ a W) (Æ b0 (bodyPost P fn R)))))) (Æ b1 (Exit.then ((Z r2 A2 Y).wpIn (FR X) 0 P (Exit.then (λa' W'=>ê a' W'/\μ a' W'<μ a W) (Æ b0 (bodyPost P fn R))))
     (Exit.then (λa' W'=>ê a' W'/\μ a' W'<μ a W) (Æ b0 (bodyPost P fn R)))))) [7] (a3.put o6.dst (.bool bb)) W4:=by
   intro bb W4 S4 N3 eA;rw[h6d];obtain⟨a4,u4⟩:∃a4,a4=a3.put (I 17) (.bool bb):=⟨_,rfl⟩;rw[<-u4];have mh:∀i,tm a4 i=if i=17 then .bool bb else tm a3 i:=λi=>by rw[u4];exact uJ EN _ i
   have ot:Fr a4:=⟨by rw[u4,D1];exact jV.1,by rw[u4,D2];exact jV.2.1,by rw[mh];exact jV.2.2.1,by rw[mh];exact jV.2.2.2⟩
   have oQ:Rel (bwE T).N (bwE T).np S4 W4 { blks:=[],val:=λ_=>X,fix:=fx } (slF [(17,.one (.d .bool bb)),(3,intP ((m:Ã)-1-j))]) a4 W4 S4 (λ_=>undef):=
    tC ot.1 ot.2.1 (λ_=>rfl) N3 (tE (λx hx=>by
     simp only[je,zh,or_false]at hx;rcases hx with rfl|rfl
     .rw[mh,if_pos rfl];exact⟨rfl,λ_=>rfl⟩
     .exact hint (by rw[mh];exact zH))) (fI ot)
   refine H9 (rest:=[]) hT hC (λσ5 a5 W5 S5 γ5 ma _ pI=>?_) [o7] 7 (λk o hk=>?_) oQ (tD _) (e7 bb _)
   .obtain⟨q1,q2⟩:=jFh pI;exact eA a5 W5 (fT ma) (oW ma) (Ic ma q1) (sf ma q2)
   .cases k with
    |zero=>simp at hk;subst hk;exact⟨N2,bc _ ae⟩
    |succ k=>simp at hk
  rintro e W4 (⟨rfl,S4,zI⟩|⟨rfl,N4⟩)
  .refine rest À W4 S4 (dA _ _ _ zI) (λa5 W5 gY u5 N5 xf=>?_);refine wpIn_cond_false (c:= .tmp 18) N5 (wpIn_skip ?_);show (Z r2 A2 Y).wpIn _ _ _ _ _ _;have zJ:=aV _ _ _ _ _ u5 (same zI u5) zI
   have ma:Rel (bwE T).N (bwE T).np S4 W5 { blks:=[],val:=λ_=>X,fix:=fx } (slF [(3,intP ((m:Ã)-1-j))]) a5 W5 S4 (λ_=>undef):=
    tC gY.1 gY.2.1 (λ_=>rfl) (dA _ _ _ zJ) (tE (λx hx=>by
     simp only[ki]at hx;subst hx;exact hint xf)) (fI gY)
   refine wpIn_mono (NO hT ma (tD _) (e2 _)) ?_
   rintro e a6 W6 ⟨rfl,σ6,S6,γ6,pJ,N6⟩
   have zK:=sf pJ (Ia N6);rw[gX aa aa]at zK;refine⟨⟨fT pJ,j+1,S4,aa,aV _ _ _ _ _ (oW pJ) (same zJ (oW pJ)) zJ,?_⟩,?_⟩
   .rw[zK];congr 1;push_cast;omega
   .simp only[μ,zK,h3];omega
  .refine rest Y W4 (λ_ _=>False) (λ_ _ h=>h.elim) (λa5 W5 gY u5 N5 xf=>?_);refine wpIn_cond_true (c:= .tmp 18) N5 (wpIn_ret ?_);exact dP gY.2.1 (.inr (rK _ _ u5 N4))
end
def zL:Ö->D (U×Ð Í)
 |.seq x y=>zL x++zL y
 |.cond _ x y=>zL x++zL y
 |.block _ c=>zL c
 |.loop c=>zL c
 |.region id ops _=>[(id,ops)]
 |_=>[]
def bwA(fn:à)(i:U):Ð Oper:=(((zL (fn.body.getD .skip)).find? λx=>x.1==i).getD (0, #[])).2
def opAt(A:Ð Í)(i:U):Oper:=(A[i]?).getD default
def B9(o:Í):Call:=match o.op with
 |.call c=>c
 |_=>default
theorem jFj{P:Ç}{T:U->O TyI}(hT:cJ P T){f:U}{t:Ty}{fn:à}(hf:P.funcs[f]? = I fn){A0 A1 A2 A3:Ð Í}
  (hb:fn.body=I ((Z 0 A0 Y).seq (Ò 0 ((((Z 1 A1 Y).seq (Î (.tmp 8) .skip (.exit 0))).seq ((Ò 1 ((Z 3 A3 Y).seq (Î (.tmp 18) .ret .skip))).seq (Z 2 A2 Y))).loop))))
  (hA:A3=(opAt A3 0::((A3.toList.drop 1).take 5++[opAt A3 6,opAt A3 7])).toArray)
  (zC : fn.ntmps = 19) (jU : fn.results = #[]) (ca : (fn.name == "runtime.NumGoroutine") = Y) (B8 : ((A3.toList.drop 1).take 5).length = 5) (cu : (opAt A3 0 :: ((A3.toList.drop 1).take 5 ++ [opAt A3 6, opAt A3 7])).all (fun o => o.guard.isNone) = À)
  (mf:(opAt A3 0).op = .move (.tmp 0))(uW:(opAt A3 0).dst=I 11)(zD:(opAt A3 6).op = .call (B9 (opAt A3 6)))(NP:(B9 (opAt A3 6)).callee = .value (.tmp 11))(Ie:(B9 (opAt A3 6)).args = #[.tmp 12,.tmp 16]/\(opAt A3 6).dst=I 17)
  (e0:∀xs:D t.den,lJ (bwE T) A0 (slF [(1,lstP t xs)]) g3=I (w64 (Ù (Á xs)-1)))
  (e1:∀i:Ã,lJ (bwE T) A1 (slF [(3,intP i)]) g1=I (Ï (i>=0),i))
  (e2:∀i:Ã,lJ (bwE T) A2 (slF [(3,intP i)]) g3=I (w64 (i-1)))
  (e3:∀(xs:D t.den)(i:Ã),nM (bwE T) ((A3.toList.drop 1).take 5) (slF [(1,lstP t xs),(3,intP i)]) (g16 t)=cond (inR i (Á xs)) (I (i,Ì xs (Ë i) t.dflt,i)) X)
  (e7:∀(b:É)(i:Ã),nM (bwE T) [opAt A3 7] (slF [(17,.one (.d .bool b)),(3,intP i)]) g18=I (!b,i)):BwOK P f t:=by
 rw[hA]at hb;exact jGA hT hf hb zC jU ca B8 cu mf uW zD NP Ie.1 Ie.2 e0 e1 e2 e3 e7
theorem jGB{ops:Ð Í}{l:Ð É}(hc:∀(j:U)(o:Í),ops[j]? = I o->l.getD j Y=À->∀d∈gR o,l.getD d Y=À){i j:U}(hb:Bef ops i j):l.getD i Y=À->l.getD j Y=true:=by
 induction hb with
 |dep ho hj=>exactλhi=>hc _ _ ho hi _ hj
 |trans _ _ h1 h2=>exactλhi=>h2 (h1 hi)
theorem jFk{ops:Ð Í}{l:Ð É}(hc:∀(j:U)(o:Í),ops[j]? = I o->l.getD j Y=À->∀d∈gR o,l.getD d Y=À){i j:U}{o:Í}(hb:Bef ops i j) :
  ops[i]? = I o->(∀j∈gR o,l.getD j Y=À)->l.getD j Y=true:=by
 induction hb with
 |dep rS hj=>intro ho hd;rw[ho]at rS;simp only[j5]at rS;subst rS;exact hd _ hj
 |trans dF eI h1 h2=>exactλho hd=>jGB hc eI (h1 ho hd)
theorem jBB{S:aY}{w:Â}{γ:U->Å}{bx:U->BS}{tm tm':U->Å}{s:Slot}{v:Å}(hb:s.bare=À)(h:iA S w γ bx tm s v):iA S w γ bx tm' s v:=by
 cases s with
 |cnd s b c=>simp[Slot.bare]at hb
 |_=>exact h
section
variable{P:Ç}{E:Env}{ops pre:Ð Í}{cl:D U}{τ:U->St}{S0:aY}{w0:Â}{refs:É->Refs}
theorem jBC(hT:cJ P E.T)(dR:ClOk pre cl)(bT:DOkR pre [])(h:tx P E pre cl [] τ){n n0:U}(iE:pre.size=n0)(nd:ops.size=n0+2)(h1:∀i:U,0<i->i<n0->ops[i]? = pre[i]?)
  {o0 oc on p0:Í}(jF:ops[0]? = I o0)(kN:pre[0]? = I p0)(zM:p0.dst=X)(zN:gR p0=[])(EO:gR o0=[])(Ca:ops[n0]? = I oc)(iO:ops[n0+1]? = I on)(zO:n0∈gR on)
  (cu:∀(i:U)(o:Í),ops[i]? = I o->o.guard=X)(aq:∀(i:U)(o:Í),ops[i]? = I o->∀d∈gR o,d<i){W9:D U}(N7:ClOk ops W9)(zP:∀j,j<n0->(W9.getD n0 0).testBit j=À)
  {Q:Exit->Ä->Â->Prop}(cY:¬LetsOut Q){yv:Å}{t0 t10:U}(mf:o0.op = .move (.tmp t0))(uW:o0.dst=I t10)(hN:t10<E.N.n)
  (kP:∀(σ:St)(a:Ä)(w:Â)(S:aY)(γ:U->Å),Rel E.N E.np S0 w0 (refs Y) σ a w S γ->dq σ->tm a t0=yv->σ.sl t10=(τ 0).sl t10->Rel E.N E.np S0 w0 (refs À) σ (a.put (I t10) yv) w S γ)
  (zF:∀b (σ:St) (a:Ä) (w:Â) (S:aY) (γ:U->Å),Rel E.N E.np S0 w0 (refs b) σ a w S γ->tm a t0=yv)(N8:∀(j:U)(o:Í),pre[j]? = I o->o.dst≠I t10)
  (hq:∀a w S γ,Rel E.N E.np S0 w0 (refs À) (τ n0) a w S γ->dq (τ n0)->wpOpIn (FR X) n P ops Q n0 (wpOpIn (FR X) n P ops Q (n0+1) (Q .normal)) a w) :
  ∀(fuel:U)(l:Ð É){σ:St}{a:Ä}{w:Â}{S:aY}{γ:U->Å},l.size=n0+2->l.toList.count Y<=fuel->l.getD n0 Y=Y->l.getD (n0+1) Y=Y->
   (∀(j:U)(o:Í),ops[j]? = I o->l.getD j Y=À->∀d∈gR o,l.getD d Y=À)->Rel E.N E.np S0 w0 (refs (l.getD 0 Y)) σ a w S γ->dq σ->Ph pre [] τ l σ->wpAnyIn (FR X) n P .any ops Q fuel l a w:=by
 have bK:0<n0:=by rw[<-iE];exact(jh.1 kN).1
 have hw:∀(o:Í)(a:Ä),o.guard=X->Ê o (yielded ops a.tmps)=true:=λo a hg=>by simp[Ê,hg]
 have D8:∀(o:Í)(a:Ä),o.guard=X->Ê o (yielded pre a.tmps)=true:=λo a hg=>by simp[Ê,hg]
 have si:∀(l:Ð É),l.size=n0+2->â .any ops l=[]->∀j,j<n0+2->l.getD j Y=true:=by
  intro l hs hr j;induction j using Nat.strongRecOn with
  |_ j ih=>
   intro hj;cases hq:l.getD j Y with
   |true=>rfl
   |false=>
    have ho:ops[j]? = I (ops[j]'aa):=jt aa
    have hm:j∈â .any ops l:=mem_ready.2 ⟨by
     have im:j<l.size:=aa
     simp[im]at hq ⊢;exact hq,_,ho,λe he hb=>by
      have hd:=aq j _ ho _ (HC.2 ⟨e,he,hb,rfl⟩);exact ih _ hd aa⟩
    rw[hr]at hm;simp at hm
 have EP:∀(l:Ð É),l.size=n0+2->(∀j,j<n0+2->l.getD j Y=À)->â .any ops l=[]:=by intro l hs ha;refine zv.2 λi hi=>?_;obtain⟨h0,o,ho,_⟩:=mem_ready.1 hi;have aq:=(jh.1 ho).1;have:=ha i aa;rw[Eg h0]at this;simp at this
 intro fuel;induction fuel with
 |zero=>intro l σ a w S γ hs uN gv lQ sj hR hc nD;have:=MP (l:=l) aa (j:=n0) aa;rw[gv]at this;simp at this
 |succ fuel ih=>
  intro l σ a w S γ hs uN gv lQ sj hR hc nD;refine⟨λdO=>?_,λi hi=>?_⟩
  .have:=si l hs dO n0 aa;rw[gv]at this;simp at this
  obtain⟨jC,o,ho,cW⟩:=MK hi;have l9:=Eg jC;have c9:=VV jC;have gS:i<l.size:=by rw[hs,<-nd];exact(jh.1 ho).1
  have cm:(l.setIfInBounds i À).size=n0+2:=by simpa using hs
  have xg:∀(j:U)(o:Í),ops[j]? = I o->(l.setIfInBounds i À).getD j Y=À->∀d∈gR o,(l.setIfInBounds i À).getD d Y=true:=by
   intro j oj hj my d hd;refine(mw gS).2 (.inr ?_);rcases (mw gS).1 my with rfl|my
   .rw[ho]at hj;simp only[j5]at hj;subst hj;exact cW d hd
   .exact sj j oj hj my d hd
  have keep:∀k,i≠k->l.getD k Y=Y->(l.setIfInBounds i À).getD k Y=false:=λk hk hf=>BQ λhh=>by
   rcases (mw gS).1 hh with e|e
   .exact hk e.symm
   .rw[hf]at e;simp at e
  by_cases Hi:i=0
  ·-- the first one
   subst Hi;rw[jF]at ho;simp only[j5]at ho;subst ho;unfold wpOpIn;simp only[jF,hw o0 a (cu 0 o0 jF),if_true];refine BR (.inl rfl) (λ_ _ h=>h) ?_;unfold Oper.wp;rw[show (execOp a.eval o0).run P w = .ok (.value (a.eval (.tmp t0))) w by simp[execOp,mf,go_sem],Oper.upon_value,uW];have pO:a.eval (.tmp t0)=yv:=zF _ _ _ _ _ _ hR;rw[pO];have l7:l.getD 0 Y=false:=l9;rw[l7]at hR;obtain⟨s,u,he,hu,_⟩:=HF h kN;have Xa:u=[]:=zv.2 λe hm=>by have:=hu e hm;simp at this
   have zQ:=MO bT h nD kN l9 (by rw[zN];intro j hj;simp at hj) (show pre.size<=l.size by omega) he hu;rw[Xa,zM]at zQ;have tp:σ.sl t10=(τ 0).sl t10:=nD.rest t10 λj oj hj hdj=>absurd hdj (N8 j oj hj);have hRp:=kP σ a w S γ hR hc pO tp;refine ih _ (S:=S) (γ:=γ) cm aa (keep _ aa gv) (keep _ aa lQ) xg ?_ hc zQ;rw[(mw gS).2 (.inl rfl)];exact hRp
  by_cases fY:i<n0
  .have pK:pre[i]? = I o:=by rw[<-h1 i aa fY];exact ho
   obtain⟨hd,gg⟩:=h i o pK
   have hD:=D_wp hT hR hc pK hd gg (VT bT h nD pK l9 cW dR) (VR bT h nD pK l9 cW) (K:=wpAnyIn (FR X) n P .any ops Q fuel (l.setIfInBounds i À)) (Q:=Q) (λs u a' w' S' γ' he hu cT dz=>by
    refine ih _ (S:=S') (γ:=γ') cm aa (keep _ aa gv) (keep _ aa lQ) xg ?_ dz (MO bT h nD pK l9 cW (show pre.size<=l.size by omega) he hu)
    have e0:(l.setIfInBounds i À).getD 0 Y=l.getD 0 false:=by
     cases hq:l.getD 0 Y with
     |true=>exact(mw gS).2 (.inr hq)
     |false=>exact keep _ Hi hq
    rw[e0];exact cT)
   unfold wpOp at hD;simp only[pK,D8 o a (cu i o ho),if_true]at hD;unfold wpOpIn;simp only[ho,hw o a (cu i o ho),if_true];exact BR (.inl rfl) (λ_ _ h=>h) (hD.resolve_right λhh=>cY hh.2)
  by_cases hie:i=n0
  .subst hie;rw[Ca]at ho;simp only[j5]at ho;subst ho;have ay:∀j,j<i->l.getD j Y=true:=λj hj=>jFk sj (N7 _ _ (zP j hj)) Ca cW;have he:=VU bT h nD (λj hj=>ay j aa);rw[iE]at he;subst he;rw[ay 0 bK]at hR;refine wpOpIn_mono (λa2 w2 h2=>?_) (hq a w S γ hR hc)
   have mJ:∀k,k<i+1->(l.setIfInBounds i À).getD k Y=true:=λk hk=>(mw gS).2 (by
    by_cases mz:k=i
    .exact .inl mz
    .exact .inr (ay k aa))
   have ER:=keep (i+1) aa lQ;cases fuel with
   |zero=>have:=MP (l:=l.setIfInBounds i À) aa (j:=i+1) aa;rw[ER]at this;simp at this
   |succ fuel=>
    refine⟨λdO=>?_,λk hk=>?_⟩
    .have:=si _ cm dO (i+1) aa;rw[ER]at this;simp at this
    .obtain⟨N9,ok,mV,_⟩:=MK hk;have xh:=Eg N9;have hks:=(jh.1 mV).1
     have zR:k=i+1:=by
      rcases qa k (i+1) with fv|mu
      .rw[mJ k fv]at xh;simp at xh
      .omega
     subst zR;refine wpOpIn_mono (λa3 w3 h3=>?_) h2
     have ES:∀j,j<i+2->((l.setIfInBounds i À).setIfInBounds (i+1) À).getD j Y=true:=λj hj=>(mw aa).2 (by
      by_cases oP:j=i+1
      .exact .inl oP
      .exact .inr (mJ j aa))
     have dO:=EP ((l.setIfInBounds i À).setIfInBounds (i+1) À) az ES;cases fuel with
     |zero=>exact⟨dO,h3⟩
     |succ fuel=>exact⟨λ_=>h3,λk hk=>by rw[dO]at hk;simp at hk⟩
  ·-- the last one waits for the one before it
   exfalso;have Oa:i=n0+1:=aa;subst Oa;rw[iO]at ho;simp only[j5]at ho;subst ho;have:=cW n0 zO;rw[gv]at this;simp at this
end
section
variable{S0:aY}{w0:Â}{refs:Refs}
def chE(T:U->O TyI):Env:={ bwE T with N:=⟨30,λi=>i==0||(i==1||i==10)⟩ }
def g7(σ:St):O (É×Ã):=match σ.sl 7,σ.sl 3 with
 |.one (.one (.d .bool b)),.one (.one (.d (.int .i64) v))=>I (b,v)
 |_,_=>X
def g29(σ:St):O (É×Ã):=match σ.sl 29,σ.sl 3 with
 |.one (.one (.d .bool b)),.one (.one (.d (.int .i64) v))=>I (b,v)
 |_,_=>X
def g27(σ:St):O (segT.den×Ã):=match σ.sl 27,σ.sl 3 with
 |.one c,.one (.one (.d (.int .i64) v))=>match oE (λ_=> .gone) segT c with
  |some (x,[])=>I (x,v)
  |_=>X
 |_,_=>X
theorem jGC{σ:St}{b:É}{v:Ã}(h:g7 σ=I (b,v)):σ.sl 7 = .one (.one (.d .bool b))/\σ.sl 3 = .one (.one (.d (.int .i64) v)):=by
 unfold g7 at h;split at h
 .rename_i hb hu;simp only[j5,j9]at h;obtain⟨rfl,rfl⟩:=h;exact⟨hb,hu⟩
 .simp at h
theorem jFl{σ:St}{b:É}{v:Ã}(h:g29 σ=I (b,v)):σ.sl 29 = .one (.one (.d .bool b))/\σ.sl 3 = .one (.one (.d (.int .i64) v)):=by
 unfold g29 at h;split at h
 .rename_i hb hu;simp only[j5,j9]at h;obtain⟨rfl,rfl⟩:=h;exact⟨hb,hu⟩
 .simp at h
theorem jFm{σ:St}{x:segT.den}{v:Ã}(h:g27 σ=I (x,v)):σ.sl 3 = .one (.one (.d (.int .i64) v))/\∃c,σ.sl 27 = .one c/\oE (λ_=> .gone) segT c=I (x,[]):=by
 unfold g27 at h;split at h
 .rename_i c v' Ob h3;split at h
  .rename_i x' hx;simp only[j5,j9]at h;obtain⟨rfl,rfl⟩:=h;exact⟨h3,c,Ob,hx⟩
  .simp at h
 .simp at h
theorem Oc{P:Ç}{T:U->O TyI}(hT:cJ P T){Ev n:U}{A:Ð Í}{σ:St}{a:Ä}{w:Â}{S:aY}{γ:U->Å}{R:Type}{k:St->O R}{r:R}
  (hR:Rel (chE T).N (chE T).np S0 w0 refs σ a w S γ)(hc:dq σ)(h:lJ (chE T) A σ k=I r) :
  (Z Ev A Y).wpIn (FR X) n P (λe a' w'=>e = .normal/\∃σ' S' γ',Rel (chE T).N (chE T).np S0 w0 refs σ' a' w' S' γ'/\k σ'=I r) a w:=
 wpIn_region (yQ (.inl rfl) (by rintro⟨a,w,h,_⟩;cases h) _ _ _ (Mu hT (λf=>EJ) hR hc (λσ' a' w' S' γ' cT _ hk=>⟨rfl,σ',S',γ',cT,hk⟩) h))
theorem Grew.trans{w w' xN:Â}(h:Grew w w')(h':Grew w' xN):Grew w xN:=
 ⟨λg hg=>(h'.old g (qd hg h.size)).trans (h.old g hg),ko h.size h'.size,h'.os.trans h.os,h'.tape.trans h.tape,h'.output.trans h.output⟩
theorem jGD{P:Ç}{T:U->O TyI}(hT:cJ P T)(gh:P.follows .mixedOrders=À){f:U}{fn:à}(hf:P.funcs[f]? = I fn){r0 b0 r1 b1 r3 r2:U}{A0 A1 A2 ops pre:Ð Í}{o0 oc on p0:Í}{cl:Call}
  (hb:fn.body=I ((Z r0 A0 Y).seq (Ò b0 ((((Z r1 A1 Y).seq (Î (.tmp 7) .skip (.exit b0))).seq ((Ò b1 ((Z r3 ops À).seq (Î (.tmp 29) .ret .skip))).seq (Z r2 A2 Y))).loop))))
  (zC : fn.ntmps = 30) (jU : fn.results = #[]) (ca : (fn.name == "runtime.NumGoroutine") = Y) (iE : pre.size = 18) (nd : ops.size = 20) (h1 : ∀ i : U, 0 < i → i < 18 → ops[i]? = pre[i]?)
  (jF:ops[0]? = I o0)(kN:pre[0]? = I p0)(zM:p0.dst=X)(zN:gR p0=[])(EO:gR o0=[])(Ca:ops[18]? = I oc)(iO:ops[19]? = I on)(zO:18∈gR on)
  (cu:∀(i:U)(o:Í),ops[i]? = I o->o.guard=X)(aq:∀(i:U)(o:Í),ops[i]? = I o->∀d∈gR o,d<i)(zP:∀j,j<18->((tV ops.toList []).getD 18 0).testBit j=À)
  (mf:o0.op = .move (.tmp 0))(uW:o0.dst=I 10)(N8:∀(j:U)(o:Í),pre[j]? = I o->o.dst≠I 10)(sk:oc.op = .call cl)(zS:cl.callee = .value (.tmp 10))(zT:cl.args = #[.tmp 27])(zU:oc.dst=I 28)
  (e0:lJ (chE T) A0 (slF []) g3=I 1)
  (e1:∀(xs:D segT.den)(i:Ã),lJ (chE T) A1 (slF [(1,lstP segT xs),(3,intP i)]) g7=I (Ï (i<Ù (Á xs)),i))
  (e2:∀i:Ã,lJ (chE T) A2 (slF [(3,intP i)]) g3=I (w64 (i+1)))
  (e3:∀(xs:D segT.den)(i:Ã),vU (chE T) pre [] (slF [(1,lstP segT xs),(3,intP i)]) g27=cond (inR i (Á xs)) (cond (inR (w64 (i-1)) (Á xs)) (cond (inR i (Á xs)) (I
   (((Ì xs (Ë i) ((0:Ã),((0:Ã),(0:Ã)))).1,((Ì xs (Ë (w64 (i-1))) ((0:Ã),((0:Ã),(0:Ã)))).2.2,(Ì xs (Ë i) ((0:Ã),((0:Ã),(0:Ã)))).2.2)),i)) X) X) X)
  (e7:∀(b:É)(i:Ã),nM (chE T) [on] (slF [(28,.one (.d .bool b)),(3,intP i)]) g29=I (!b,i)):ItOK P f À segT:=by
 refine⟨⟨fn,hf,by rw[hb];rfl,ca⟩,?_⟩;intro cv l J Je Jx W S kQ aV V9 rK dA hY gG w6;have hC:kD P (chE T).C:=λf=>EJ;obtain⟨S0,NQ,lx⟩:=gG
 obtain⟨z0,oK⟩:∃z0,cv = #[z0]:=by
  have:=lx.length;obtain⟨cl⟩:=cv;match cl,this with
  |[z],_=>exact⟨z,rfl⟩
 subst oK;refine callsIn_of_wp hf hb trivial ?_;rw[zC];obtain⟨yv,zF⟩:∃yv,yv=õ (.yield l) #[] #[]:=⟨_,rfl⟩;obtain⟨R,hR⟩:∃R:Ending->Â->Prop,R=λe W'=>(∃v,e = .returned v)/\(Je W'\/Jx W'):=⟨_,rfl⟩;rw[<-zF,<-hR];let fx:U->O Value:=λi=>if i=0 then I yv else if i=1 then I z0 else X
 let rf:Refs:={ blks:=[],val:=λ_=>X,fix:=fx }
 let ET:É->Refs:=λb=>{ blks:=[],val:=λ_=>X,fix:=λi=>if i=10 then (if b then I yv else X) else fx i }
 let Fr:Ä->Prop:=λa=>a.tmps.size=30/\a.defers=[]/\tm a 0=yv/\tm a 1=z0
 let ê:Ä->Â->Prop:=λa W=>Fr a/\∃c S,1<=c/\c<=9223372036854775807/\J c S W/\tm a 3 = .int .i64 c
 let μ:Ä->Â->Nat:=λa W=>match tm a 3 with
  |.int _ v=>(9223372036854775807-v).toNat
  |_=>0
 have dP:∀{a:Ä}{W':Â},a.defers=[]->(Je W'\/Jx W')->a.defers=[]/\∃v,(results fn a.tmps).run P W' = .ok v W'/\R (.returned v) W':=by intro a W' hd h;exact⟨hd,_,results_none jU _ _ _,by rw[hR];exact⟨⟨_,rfl⟩,h⟩⟩
 have fT:∀{σ:St}{a:Ä}{w w0:Â}{S S0:aY}{γ:U->Å},Rel (chE T).N (chE T).np S0 w0 rf σ a w S γ->Fr a:=λhR=>
  ⟨hR.size,hR.defers,(hR.fix 0 yv rfl).2,(hR.fix 1 z0 rfl).2⟩
 have EU:∀{b:É}{σ:St}{a:Ä}{w w0:Â}{S S0:aY}{γ:U->Å},Rel (chE T).N (chE T).np S0 w0 (ET b) σ a w S γ->Fr a:=λhR=>
  ⟨hR.size,hR.defers,(hR.fix 0 yv rfl).2,(hR.fix 1 z0 rfl).2⟩
 have fI:∀{a:Ä},Fr a->∀i v,fx i=I v->(chE T).N.pin i=À/\tm a i=v:=by
  intro a ha i v hv;simp only[fx]at hv;split at hv
  .rename_i e;subst e;simp only[j5]at hv;subst hv;exact⟨rfl,ha.2.2.1⟩
  .split at hv
   .rename_i _ e;subst e;simp only[j5]at hv;subst hv;exact⟨rfl,ha.2.2.2⟩
   .simp at hv
 have same:∀{c:Ã}{S:aY}{W W':Â},J c S W->Grew W W'->wV S W S W':=λhJ hg=>⟨λ_ _ h=>h,λ_ _ h=> .inl h,λg o h=>qd (dA _ _ _ hJ g o h) hg.size⟩;obtain⟨a0,uT⟩:∃a0:Ä,a0={ tmps:=#[yv] ++ #[z0]++Ô (30-(#[yv] ++ #[z0]).size) undef,defers:=[] }:=⟨_,rfl⟩;rw[<-uT]
 have na:Fr a0:=by
  subst uT;refine⟨?_,rfl,?_,?_⟩
  .simp
  .simp[tm]
  .simp[tm]
 have gG:Rel (chE T).N (chE T).np S0 W rf (slF []) a0 W S0 (λ_=>undef):=
  tC na.1 na.2.1 (λ_=>rfl) NQ (tE (λx hx=>by simp at hx)) (fI na)
 refine wpIn_seq (wpIn_mono (Oc hT gG (tD _) e0) ?_)
 rintro e a W1 ⟨rfl,σ1,S1,γ1,bu,dj⟩
 show (Ò b0 _).wpIn _ _ _ _ _ _;have h3:=sf bu (Ia dj);have Od:=aV _ _ _ _ _ (oW bu) (same w6 (oW bu)) w6;refine wpIn_block (wpIn_loop ê μ ⟨fT bu,1,S,k8 _,aa,Od,h3⟩ ?_)
 .rintro a W ⟨xe,c,S,eU,fC,hJ,h3⟩
  have hint:∀{a:Ä}{W:Â}{S:aY}{v:Ã},tm a 3 = .int .i64 v->bQ S W (λ_=>undef) (λ_=> .free) (intP v) (tm a 3):=λh=>by rw[h];exact⟨rfl,λ_=>rfl⟩
  obtain⟨xs,cK,fk,yx⟩:=hY c S W hJ
  have hlen:xs.length<=9223372036854775807:=by
   obtain⟨g,o,cs,_,ay,_⟩:=cK.1;match cs,ay with
   |[z],ay=>obtain⟨ad,cap,_,h1,h2,_⟩:=ay.1;simp only[maxLen]at h2;have h1:Á xs<=cap:=h1;omega
  have sq:∀{a:Ä}{W':Â}{S':aY},Fr a->tm a 3 = .int .i64 c->All2 (iX S' W') [.p [⟨.list segT,xs⟩]] (#[z0]:Ð Å).toList->∀x∈[(1,lstP segT xs),(3,intP c)],bQ S' W' (λ_=>undef) (λ_=> .free) x.2 (tm a x.1):=by
   intro a W' S' ha h3 cK x hx;simp only[je,zh,or_false]at hx;rcases hx with rfl|rfl
   .rw[ha.2.2.2];exact⟨cK.1,λ_=>by obtain⟨g,o,cs,hu,_⟩:=cK.1;rw[hu];rfl⟩
   .exact hint h3
  have NR:Rel (chE T).N (chE T).np S W rf (slF [(1,lstP segT xs),(3,intP c)]) a W S (λ_=>undef):=
   tC xe.1 xe.2.1 (λ_=>rfl) (dA _ _ _ hJ) (tE (sq xe h3 cK)) (fI xe)
  refine wpIn_seq (wpIn_seq (wpIn_mono (Oc hT NR (tD _) (e1 xs c)) ?_))
  rintro e a1 W1 ⟨rfl,σ1,S1,γ1,bu,dj⟩
  obtain⟨h7,zG⟩:=jGC dj;have zG:=sf bu zG;have h7:a1.eval (.tmp 7) = .bool (Ï (c<Ù xs.length)):=Ic bu h7;have iM:=oW bu;have EL:=aV _ _ _ _ _ iM (same hJ iM) hJ;have iu:=fT bu;show (Î _ _ _).wpIn _ _ _ _ _ _;by_cases bK:c<Ù xs.length
  case neg=>rw[decide_eq_false bK]at h7;refine wpIn_cond_false h7 (wpIn_exit ?_);show Æ b0 (bodyPost P fn R) (.exit b0) a1 W1;simp only[Æ,if_true];exact dP iu.2.1 (.inl (V9 _ _ iM (fk (by show decide _=À;exact qn aa))))
  case pos=>
  rw[qn bK]at h7;refine wpIn_cond_true h7 (wpIn_skip ?_);show (û _ _).wpIn _ _ _ _ _ _;have EV:c<(xs.length:Ã):=bK;obtain⟨_,nX⟩:=yx (by show decide _=Y;exact decide_eq_false aa);have EW:All2 (iX S W1) [.p [⟨.list segT,xs⟩]] (#[z0]:Ð Å).toList:=cK.mono λx z hx=>iX.keep (λg o h=>⟨h,World.cell?_of_block (iM.old g (dA _ _ _ hJ g o h))⟩) hx;obtain⟨Q1,Ig⟩:∃Q1:Exit->Ä->Â->Prop,Q1=λe a5 W5=>e = .normal/\Fr a5/\tm a5 3 = .int .i64 c/\((tm a5 29 = .bool Y/\∃S5,J (c+1) S5 W5)\/(tm a5 29 = .bool À/\Jx W5)):=⟨_,rfl⟩
  have Oe:(Z r3 ops À).wpIn (FR X) 0 P Q1 a1 W1:=by
   refine wpIn_region_any gh ?_
   have Of:Rel (chE T).N (chE T).np S W1 (ET Y) (slF [(1,lstP segT xs),(3,intP c)]) a1 W1 S (λ_=>undef):=
    tC iu.1 iu.2.1 (λ_=>rfl) (dA _ _ _ EL) (tE (sq iu zG EW)) (λi v hv=>by
     have hv:(if i=10 then (if Y=À then I yv else X) else fx i)=I v:=hv;split at hv
     .simp at hv
     .exact fI iu i v hv)
   have tF:=e3 xs c
   rw[gX (x:=c-1) aa aa,show inR c (Á xs)=À by
    unfold inR;rw[qn (show (0:Ã)<=c by omega),qn EV];rfl,show inR (c-1) (Á xs)=À by
    unfold inR;rw[qn (show (0:Ã)<=c-1 by omega),qn (show c-1<(xs.length:Ã) by omega)];rfl]at tF
   simp only[j6]at tF;obtain⟨vx,Bu⟩:∃vx:segT.den,vx=((Ì xs (Ë c) ((0:Ã),((0:Ã),(0:Ã)))).1,((Ì xs (Ë (c-1)) ((0:Ã),((0:Ã),(0:Ã)))).2.2,(Ì xs (Ë c) ((0:Ã),((0:Ã),(0:Ã)))).2.2)):=⟨_,rfl⟩;rw[<-Bu]at tF;unfold vU at tF;split at tF
   case isFalse=>simp at tF
   rename_i td;obtain⟨τ,q1,q2,q3⟩:=MJ (P:=P) (E:=chE T) (ops:=pre) hC (λf args=>⟨X,λR k=>rfl⟩) pre.size 0 _ (kb _) (by simpa using tF);have EX:ClOk pre (tV pre.toList []):=HB pre.toList [] (λi j h=>by simp at h) (λk o hk=>by simpa using hk);have sj:ClOk ops (tV ops.toList []):=HB ops.toList [] (λi j h=>by simp at h) (λk o hk=>by simpa using hk)
   have ew:∀j,(Ô ops.size Y).getD j Y=false:=by
    intro j;rcases qa j ops.size with hj|hj
    .simp[hj]
    .simp[hj]
   have aZ:=Of.drawn (W1.drawn+1);have h0f:(Ô ops.size Y).getD 0 Y=false:=ew 0
   refine jBC (P:=P) (E:=chE T) (pre:=pre) (refs:=ET) (S0:=S) (w0:=W1) (γ:=λ_=>undef) (S:=S) hT EX (VJ EX td) (λj o ho=>q3 j o (k7 _) ho) iE nd h1 jF kN zM zN EO Ca iO zO cu aq sj zP (by rw[Ig];rintro⟨a,w,h,_⟩;cases h) (yv:=yv) (t0:=0) mf uW (by show 10<30;omega) ?_ ?_ N8 ?_
    ops.size (Ô ops.size Y) (by simp[nd]) ae (ew _) (ew _) (λj o _ hj=>by rw[ew]at hj;simp at hj) (by rw[h0f];exact aZ) (tD _) ?_
   ·-- what is yz on
    intro σ a w S γ hR hc oX eL;have tp:σ.sl 10 = .one (.one .dead):=by rw[eL,q1];rfl
    refine hR.swap rfl rfl (by rw[D1];exact hR.size) (by rw[D2];exact hR.defers) (λi=>?_) (λg o hg=>by simp[ET]at hg) (λi v hv=>?_)
    .by_cases hi:i=10
     .subst hi;rw[tp];exact⟨trivial,λh=>absurd rfl h⟩
     .rw[uJ (by rw[hR.size];show 10<30;omega),if_neg hi];exact jBB (hc i) (hR.slot i)
    .simp only[ET,if_true]at hv;have e:(a.put (I 10) yv).tmps.getD i undef=tm (a.put (I 10) yv) i:=rfl;rw[e,uJ (by rw[hR.size];show 10<30;omega)];split at hv
     .rename_i hi;subst hi;simp only[j5]at hv;subst hv;exact⟨rfl,by rw[if_pos rfl]⟩
     .rename_i hi;rw[if_neg hi];exact fI (EU hR) i v hv
   .exactλb σ a w S γ hR=>(hR.fix 0 yv rfl).2
   ·-- the yield
    intro a3 W3 S3 γ3 dU tw;rw[iE]at q2;obtain⟨zH,cc,Ob,Og⟩:=jFm q2;have zH:=sf dU zH;have Oh:VRep S3 W3 ⟨segT,vx⟩ (tm a3 27):=by have:=dU.slot 27;rw[Ob]at this;exact(Bn (np:=(chE T).np) W7 dU.box Og this).2.1 S3 W3 (.refl _ _) (λy hy=>by simp at hy)
    have DK:Grew W1 W3:=⟨λg hg=>dU.below g hg (λh=>by have h:g∈([]:D U):=h;simp at h),dU.grow,dU.os,dU.tape,dU.output⟩;have tp:tm a3 10=yv:=(dU.fix 10 yv rfl).2;have jV:Fr a3:=EU dU;have pH:wV S W S3 W3:=⟨dU.ext,λg o h=>(dU.new g o h).imp id λh=>ko iM.size (h.nil rfl),dU.here⟩;obtain⟨NX,sg,NY,NZ,N0,jW⟩:=nX S3 W3 [tm a3 27] (iM.trans DK) pH (by subst Bu;exact⟨Oh,trivial⟩);have hw:∀(o:Í)(a:Ä),o.guard=X->Ê o (yielded ops a.tmps)=true:=λo a hg=>by simp[Ê,hg]
    obtain⟨K,hK⟩:∃K,K=wpOpIn (FR X) 0 P ops Q1 (18+1) (Q1 .normal):=⟨_,rfl⟩;rw[<-hK];unfold wpOpIn;simp only[Ca,hw oc _ (cu _ _ Ca),if_true];refine⟨λ_ _=>trivial,?_⟩;have aR:(execOp a3.eval oc).run P W3 = .ok (.round l NX sg NY NZ) W3:=by refine W0 sk zS (l:=l) (by rw[<-zF];exact tp) ?_;rw[zT];have e27:a3.eval (.tmp 27)=tm a3 27:=rfl;simp only[å,kj,î,e27];exact N0
    rw[show oc.semAt (FR X).round a3.eval=execOp a3.eval oc from rfl,aR,Oper.uponIn_round];refine⟨λhd=>by simp[FR,Fence.wide]at hd,?_⟩;refine RoundIn.mono ⟨jW.1,λc cs _=>jW.2 c cs (MQ _ _)⟩ ?_;have EY:28<a3.tmps.size:=by rw[jV.1];omega
    have rest:∀(bb:É)(W4:Â)(S4:aY),(∀g o,S4 g o->g<W4.heap.size)->
      (∀a5 W5,Fr a5->Grew W4 W5->tm a5 29 = .bool (!bb)->tm a5 3 = .int .i64 c->Q1 .normal a5 W5)->K (a3.put oc.dst (.bool bb)) W4:=by
     intro bb W4 S4 N3 eA;rw[zU,hK];obtain⟨a4,u4⟩:∃a4,a4=a3.put (I 28) (.bool bb):=⟨_,rfl⟩;rw[<-u4];have mh:∀i,tm a4 i=if i=28 then .bool bb else tm a3 i:=λi=>by rw[u4];exact uJ EY _ i
     have ot:Fr a4:=⟨by rw[u4,D1];exact jV.1,by rw[u4,D2];exact jV.2.1,by rw[mh];exact jV.2.2.1,by rw[mh];exact jV.2.2.2⟩
     have oQ:Rel (chE T).N (chE T).np S4 W4 rf (slF [(28,.one (.d .bool bb)),(3,intP c)]) a4 W4 S4 (λ_=>undef):=
      tC ot.1 ot.2.1 (λ_=>rfl) N3 (tE (λx hx=>by
       simp only[je,zh,or_false]at hx;rcases hx with rfl|rfl
       .rw[mh,if_pos rfl];exact⟨rfl,λ_=>rfl⟩
       .exact hint (by rw[mh];exact zH))) (fI ot)
     have:=H9 (P:=P) (ops:=ops) (n:=0) (Q:=Q1) (rest:=[]) hT hC (λσ5 a5 W5 S5 γ5 ma _ pI=>?_) [on] 19 (λk o hk=>?_) oQ (tD _) (e7 bb _)
     .exact this
     .obtain⟨q1,q2⟩:=jFl pI;exact eA a5 W5 (fT ma) (oW ma) (Ic ma q1) (sf ma q2)
     .cases k with
      |zero=>simp at hk;subst hk;exact⟨iO,cu _ _ iO⟩
      |succ k=>simp at hk
    rintro e W4 (⟨rfl,S4,zI⟩|⟨rfl,N4⟩)
    .refine rest À W4 S4 (dA _ _ _ zI) (λa5 W5 gY u5 zV xf=>by rw[Ig];exact⟨rfl,gY,xf,.inl ⟨zV,S4,aV _ _ _ _ _ u5 (same zI u5) zI⟩⟩)
    .refine rest Y W4 (λ_ _=>False) (λ_ _ h=>h.elim) (λa5 W5 gY u5 zV xf=>by rw[Ig];exact⟨rfl,gY,xf,.inr ⟨zV,rK _ _ u5 N4⟩⟩)
   .exact⟨λj o _ hj=>by rw[ew]at hj;simp at hj,λj o t _ _ hj=>by rw[ew]at hj;simp at hj,λt _=>by rw[q1],λj k _ _ hj=>by rw[ew]at hj;simp at hj,λk _=>by rw[q1]⟩
  refine wpIn_seq (wpIn_block (wpIn_seq (wpIn_mono Oe ?_)));intro e a5 W5 Xb;rw[Ig]at Xb;obtain⟨rfl,gY,xf,⟨zV,S5,zJ⟩|⟨zV,hx5⟩⟩:=Xb
  .refine wpIn_cond_false (c:= .tmp 29) zV (wpIn_skip ?_);show (Z r2 A2 Y).wpIn _ _ _ _ _ _
   have ma:Rel (chE T).N (chE T).np S5 W5 rf (slF [(3,intP c)]) a5 W5 S5 (λ_=>undef):=
    tC gY.1 gY.2.1 (λ_=>rfl) (dA _ _ _ zJ) (tE (λx hx=>by
     simp only[ki]at hx;subst hx;exact hint xf)) (fI gY)
   refine wpIn_mono (Oc hT ma (tD _) (e2 _)) ?_
   rintro e a6 W6 ⟨rfl,σ6,S6,γ6,pJ,N6⟩
   have zK:=sf pJ (Ia N6);rw[gX aa aa]at zK;refine⟨⟨fT pJ,c+1,S5,aa,aa,aV _ _ _ _ _ (oW pJ) (same zJ (oW pJ)) zJ,zK⟩,?_⟩;simp only[μ,zK,h3];omega
  .refine wpIn_cond_true (c:= .tmp 29) zV (wpIn_ret ?_);exact dP gY.2.1 (.inr hx5)
end
def Xc(fn:à):Oper:={ opAt (bwA fn 0) 0 with dst:=X,after:=#[] }
def Cb(fn:à):Ð Oper:=(Xc fn::((bwA fn 3).toList.drop 1).take 17).toArray
def Xd(fn:à):Bool:=
 Ï ((bwA fn 3).size=20)&&((bwA fn 3).toList.all (λo=>o.guard.isNone)&&((bwA fn 3).toList.zipIdx.all (λx=>(gR x.1).all λd=>Ï (d<x.2)) &&
  ((Ú 18).all (λj=>((tV (bwA fn 3).toList []).getD 18 0).testBit j)&&((Cb fn).toList.all (λo=>o.dst != I 10)&&((gR (opAt (bwA fn 3) 0)).isEmpty&&(gR (opAt (bwA fn 3) 19)).contains 18)))))
theorem jDX{P:Ç}{T:U->O TyI}(hT:cJ P T)(gh:P.follows .mixedOrders=À){f:U}{fn:à}(hf:P.funcs[f]? = I fn)
  (hb:fn.body=I ((Z 0 (bwA fn 0) Y).seq (Ò 0 ((((Z 1 (bwA fn 1) Y).seq (Î (.tmp 7) .skip (.exit 0))).seq ((Ò 1 ((Z 3 (bwA fn 3) À).seq (Î (.tmp 29) .ret .skip))).seq (Z 2 (bwA fn 2) Y))).loop))))
  (zC : fn.ntmps = 30) (jU : fn.results = #[]) (ca : (fn.name == "runtime.NumGoroutine") = Y) (rN : Xd fn = À) (mf : (opAt (bwA fn 3) 0).op = .move (.tmp 0)) (uW : (opAt (bwA fn 3) 0).dst = I 10)
  (sk:(opAt (bwA fn 3) 18).op = .call (B9 (opAt (bwA fn 3) 18)))(zS:(B9 (opAt (bwA fn 3) 18)).callee = .value (.tmp 10))(zT:(B9 (opAt (bwA fn 3) 18)).args = #[.tmp 27])(zU:(opAt (bwA fn 3) 18).dst=I 28)
  (e0:lJ (chE T) (bwA fn 0) (slF []) g3=I 1)
  (e1:∀(xs:D segT.den)(i:Ã),lJ (chE T) (bwA fn 1) (slF [(1,lstP segT xs),(3,intP i)]) g7=I (Ï (i<Ù (Á xs)),i))
  (e2:∀i:Ã,lJ (chE T) (bwA fn 2) (slF [(3,intP i)]) g3=I (w64 (i+1)))
  (e3:∀(xs:D segT.den)(i:Ã),vU (chE T) (Cb fn) [] (slF [(1,lstP segT xs),(3,intP i)]) g27=cond (inR i (Á xs)) (cond (inR (w64 (i-1)) (Á xs)) (cond (inR i (Á xs)) (I
   (((Ì xs (Ë i) ((0:Ã),((0:Ã),(0:Ã)))).1,((Ì xs (Ë (w64 (i-1))) ((0:Ã),((0:Ã),(0:Ã)))).2.2,(Ì xs (Ë i) ((0:Ã),((0:Ã),(0:Ã)))).2.2)),i)) X) X) X)
  (e7:∀(b:É)(i:Ã),nM (chE T) [opAt (bwA fn 3) 19] (slF [(28,.one (.d .bool b)),(3,intP i)]) g29=I (!b,i)):ItOK P f À segT:=by
 simp only[Xd,jd,jj]at rN;obtain⟨hs,k1,k2,k3,k4,k5,k6⟩:=rN
 have at_:∀k,k<20->(bwA fn 3)[k]? = I (opAt (bwA fn 3) k):=λk hk=>by
  simp only[opAt];rw[jt aa];rfl
 have fH:(Cb fn).size=18:=by simp[Cb,hs]
 refine jGD hT gh hf hb zC jU ca fH hs (λi i0 i1=>?_) (at_ 0 aa) (p0:=Xc fn) (by simp[Cb]) rfl rfl (by simpa using k5) (at_ 18 aa) (at_ 19 aa) (by simpa using k6) (λi o ho=>?_) (λi o ho d hd=>?_) (λj hj=>?_)
  mf uW (λj o ho=>?_) sk zS zT zU e0 e1 e2 e3 e7
 .obtain⟨i,rfl⟩:∃j,i=j+1:=⟨i-1,aa⟩;simp only[Cb,Þ,vb];rw[qp,if_pos aa,List.getElem?_drop,kv,Nat.add_comm]
 .have:=jv.1 k1 o (Array.mem_toList_iff.2 (ß ho));simpa using this
 .have hm:(o,i)∈(bwA fn 3).toList.zipIdx:=by rw[List.mem_zipIdx_iff_getElem?,kv];exact ho
  have:=jv.1 (jv.1 k2 _ hm) d hd;simpa using this
 .have:=jv.1 k3 j (List.mem_range.2 hj);exact this
 .have:=jv.1 k4 o (Array.mem_toList_iff.2 (ß ho));simpa using this
open Go.RowKit Go.WideShapes Go.ChangeShapes
theorem jzp{P:Ç}{f:U}{ps:D APat}{ts:D Ty}{F:HL ts->O É}(bT:Con.OK P ⟨f,ps,ts,⟨[.v .bool],[]⟩,[.bool],F⟩)(h:HL ts)(hF:F h=I À)
  (w:Â)(S:aY)(vals:D Å)(ha:All2 (oa S w) (sa ps ts h) vals)(hr:eF (sa ps ts h) vals=[])(hS:∀g o,S g o->g<w.heap.size)(hu:H2 ps ts (sa ps ts h)=I h) :
  Calls P f vals.toArray w λe w'=>e = .returned (.bool À)/\Below w.heap.size w w':=by
 have:=(bT (sa ps ts h) Ret I (oq ⟨[.v .bool],[]⟩ [.bool] À) (by
  unfold Con.C;rw[hu];show (F h).bind _=_;rw[hF];rfl)).2
 refine(this w S vals ha (by rw[hr];exact y8) hS).mono ?_
 rintro e w' ⟨ret,db,v,S',vs,rfl,bT⟩
 simp only[j5]at db;subst db;have bO:All2 (qG S' w') [.v ⟨.bool,À⟩] vs:=bT.rep;refine⟨?_,bT.os,bT.tape,bT.output,bT.grow,λk hk=>bT.below k hk (by rw[hr];simp)⟩;rw[bT.val];match vs,bO with
 |[u],bO=>have h1:=bO.1;have h2:u.cells.toList=[.bool À]/\(kI Ty.bool=À->∃cs,u=Value.agg cs)/\(kI Ty.bool=Y->One u):=h1;have h3:=Bm (h2.2.2 rfl);rw[h2.1]at h3;simp only[yh,and_true]at h3;rw[<-h3];rfl
 |[],bO=>exact absurd bO (by simp[All2])
 |_::_::_,bO=>exact absurd bO (by simp[All2])
theorem jqH{H:Type}{enc:Ø×Å->H}{P:Ç}{f:à}{s:ChangeSpec}{apart fresh handsOn again:É}{W W':Â}{args:Ð Å}{v:Å}{ds gs:D (ë H)}{before pa pv:D Ü}
  (hW:DataW.Whole enc P f.params.toList s.vars apart W args.toList ds gs before)
  (jU:∀(b:U)(sp:U->É)(hd:É),ì enc P W' b sp hd f.resultTypes.toList (v.resultList f.resultTypes.size) (s.fn H (ds++gs)).results [])
  (cV:∀sp:U->É,(∀p∈before,sp p.block=À)->ì enc P W' 0 sp À f.params.toList args.toList (s.fn H (ds++gs)).args pa)
  (xi:∀sp:U->É,(∀p∈before,sp p.block=À)->DataW.TrodVars enc P W' sp s.vars (s.fn H (ds++gs)).vars pv)
  (ib:before=pa++pv)(hb:Below W.heap.size W W')
  (bT:∀(j:U)(t:Ø)(r:Å),f.resultTypes[j]? = I t->(v.resultList f.resultTypes.size)[j]? = I r->Û P W' .any 0 t r) :
  s.post enc P f apart fresh handsOn again W args v W':=by
 have aq:∀p∈before,p.block<W.heap.size:=λp hp=>hW.lt p hp;have hold:∀p∈before,(λb=>Ï (b<W.heap.size)) p.block=true:=λp hp=>by simpa using aq p hp
 refine⟨ds,gs,before,[],pa,pv,hW,jU _ _ _,cV _ hold,xi _ hold,World.keptBut_mono (λp hp=>⟨hp,?_⟩) (hb.frame (· ∈ before)),λ_=>?_⟩
 .rw[ib,jm]at hp;exact Or.inr hp
 .obtain⟨_,_,_,_,_,hz,hn⟩:=hW;refine⟨bT,_,_,([]++pa)++pv,⟨[]++pa,pv,trodAll_append (cV _ (λ_ _=>rfl)) (jU _ _ _),xi _ (λ_ _=>rfl),rfl,?_,?_⟩,?_⟩
  .intro b off hp;have fY:MemPlace.cell b off∈before:=by rw[ib];simpa using hp
   rw[hb.frozen (aq _ fY)];exact hz b off fY
  .intro ha;have:=hn ha;rw[ib]at this;simpa using this
  .intro p hp _;rw[ib];simpa using hp
open Go.RowKit Go.WideShapes Go.ChangeShapes
def u6(P:Ç):U->Ø->Ty->É
 |0,_,_=>Y
 |n+1,t,ty=>match P.underlying t with
  |some (.int k)=>Ï (ty = .int k)
  |some .bool=>Ï (ty = .bool)
  |some .string=>Ï (ty = .str)
  |some (.slice e)=>match ty with
   |.list a=>u6 P n e a&&Ï (P.cellsOf e=a.size)&&Ï (0<a.size)
   |_=>Y
  |_=>Y
def Wf:(t:Ty)->t.den->Prop
 |.int k,n=>(Lit.int k n).wf=À
 |.bool,_=>ñ
 |.str,s=>s.size<=maxLen
 |.unit,_=>ñ
 |.wrap a,v=>Wf a v
 |.pair a b,v=>Wf a v.1/\Wf b v.2
 |.list a,xs=>Á xs<=maxLen/\∀x∈(show D a.den from xs),Wf a x
 |.arr _ _,_=>ñ
theorem Ih{α β:Type}{f:α->O β}:∀{l:D α}{ys:D β},l.mapM f=I ys->ys.length=l.length/\∀(i:U)(x:α),l[i]? = I x->∃y,ys[i]? = I y/\f x=I y
 |[],ys,h=>by
  simp at h;subst h;exact⟨rfl,λi x hx=>by simp at hx⟩
 |a::l,ys,h=>by
  rw[è]at h;cases ha:f a with
  |none=>simp[ha]at h
  |some y=>
   cases hl:l.mapM f with
   |none=>simp[ha,hl]at h
   |some zs=>
    simp[ha,hl]at h;subst h;obtain⟨h1,h2⟩:=Ih hl;refine⟨by simp[h1],λi x hx=>?_⟩;cases i with
    |zero=>simp at hx;subst hx;exact⟨y,rfl,ha⟩
    |succ i=>simp at hx;obtain⟨z,hz,hf⟩:=h2 i x hx;exact⟨z,by simpa using hz,hf⟩
theorem Ii{α β:Type}{f g:α->O β}:∀{l:D α}{ys:D β},l.mapM f=I ys->(∀x∈l,∀y,y∈ys->f x=I y->g x=I y)->l.mapM g=I ys
 |[],ys,h,_=>by simpa using h
 |a::l,ys,h,hk=>by
  rw[è]at h ⊢;cases ha:f a with
  |none=>simp[ha]at h
  |some y=>
   cases hl:l.mapM f with
   |none=>simp[ha,hl]at h
   |some zs=>simp[ha,hl]at h;subst h;rw[hk a ae y ae ha,Ii hl (λx hx z hz hf=>hk x (by simp[hx]) z (by simp[hz]) hf)];rfl
theorem Xe{α:Type}{Q:U->α->Prop}:∀n,(∀i,i<n->∃x,Q i x)->∃xs:D α,xs.length=n/\∀i x,xs[i]? = I x->Q i x
 |0,_=>⟨[],rfl,λi x h=>by simp at h⟩
 |n+1,h=>by
  obtain⟨xs,hl,hx⟩:=Xe n (λi hi=>h i aa);obtain⟨x,hq⟩:=h n aa;refine⟨xs++[x],by simp[hl],λi y hy=>?_⟩;rcases qa i n with hi|hi
  .rw[Ó aa]at hy;exact hx i y hy
  .have:i=n:=by have:=(List.getElem?_eq_some_iff.1 hy).1;simp[hl]at this;omega
   subst this;rw[ke aa,hl,Nat.sub_self]at hy;simp at hy;subst hy;exact hq
theorem Xf{α β:Type}{R:α->β->Prop}:∀{as:D α}{bs:D β},as.length=bs.length->(∀(i:U)(a:α)(b:β),as[i]? = I a->bs[i]? = I b->R a b)->All2 R as bs
 |[],[],_,_=>trivial
 |a::as,b::bs,hl,h=>⟨h 0 a b rfl rfl,Xf (by simpa using hl) λi x y hx hy=>h (i+1) x y (by simpa using hx) (by simpa using hy)⟩
 |[],_::_,hl,_=>by simp at hl
 |_::_,[],hl,_=>by simp at hl
theorem Xg{m:U}:∀{css:D (D Å)},(∀c∈css,c.length=m)->∀{j:U}{v:Å},css.flatten[j]? = I v->∃i r c,j=i*m+r/\r<m/\css[i]? = I c/\c[r]? = I v
 |[],_,j,v,h=>by simp at h
 |c::css,hl,j,v,h=>by
  simp only[kq]at h;have hc:=hl c ae;rcases qa j c.length with hj|hj
  .rw[Ó hj]at h;exact⟨0,j,c,aa,aa,rfl,h⟩
  .rw[ke hj]at h;obtain⟨i,r,c',e,hr,hi,hv⟩:=Xg (λx hx=>hl x (by simp[hx])) h;exact⟨i+1,r,c',by rw[Nat.add_mul];omega,hr,by simpa using hi,hv⟩
def Ext(W W':Â):Prop:=∀(k:U) x,W.heap[k]? = I x->W'.heap[k]? = I x
theorem Ext.cell{W W':Â}(h:Ext W W'){a:ú}{v:Å}(hc:W.cell? a=I v):W'.cell? a=I v:=by
 unfold World.cell? at hc ⊢;split at hc
 .rename_i c _ _ hb;rw[h _ _ hb];exact hc
 .simp at hc
theorem Ext.cells{W W':Â}(h:Ext W W'){a:ú}{n:U}{cs:D Å}(hc:W.cells? 0 a n=I cs):W'.cells? 0 a n=I cs:=by
 unfold World.cells? at hc ⊢;simp only[k7,if_true]at hc ⊢;exact Ii hc λi _ y _ hf=>h.cell hf
theorem Oi{W:Â}{a:ú}{n:U}{cs:D Å}(hc:W.cells? 0 a n=I cs):cs.length=n/\∀i v,cs[i]? = I v->W.cell? (a.add i)=I v:=by
 unfold World.cells? at hc;simp only[k7,if_true]at hc;obtain⟨h1,h2⟩:=Ih hc;simp only[ä]at h1;refine⟨h1,λi v hv=>?_⟩;have hi:i<n:=by rw[<-h1];exact(List.getElem?_eq_some_iff.1 hv).1
 obtain⟨y,hy,hf⟩:=h2 i i (by simp[hi]);rw[hv]at hy;simp at hy;subst hy;exact hf
theorem Xh{W:Â}{a:ú}{v:Å}(h:W.cell? a=I v):a.block<W.heap.size/\a.spot=none:=by
 unfold World.cell? at h;split at h
 .rename_i c _ _ hb;refine⟨(jh.1 hb).1,?_⟩;split at h
  .simp at h
  .rename_i hs;simpa using hs
 .simp at h
def oldS(W:Â):aY:=λg _=>g<W.heap.size
def Ij{H:Type}(enc:Ø×Å->H)(P:Ç)(W:Â)(held:É)(fuel:U)(t:Ø)(ty:Ty)(cs:D Å)(d:ë H)(ps:D Ü):Prop:=
 cs.length=ty.size/\(∃v:ty.den,Rep (oldS W) W ty v cs/\Wf ty v)/\
  ∀W' sp,Ext W W'->(∀q∈ps,sp q.block=À)->È enc P W' 0 sp held fuel t cs=I (d,ps)
section
variable{H:Type}{enc:Ø×Å->H}{P:Ç}{W:Â}{held:É}
theorem jzr{a:ú}{n:U}(hn:0<n):∃q∈MemPlace.row a n,q.block=a.block:=
 ⟨.cell a.block (a.off+0),jx.2 ⟨0,by simp[hn],rfl⟩,rfl⟩
theorem jun{n:U}{t e:Ø}{el:Ty}(hu:P.underlying t=I (.slice e))(cm:P.cellsOf e=el.size)(bK:0<el.size){fuel:U}{cs:D Å}{d:ë H}{ps:D Ü}
  (ih:∀(m:U)(cs:D Å)(d:ë H)(ps:D Ü),È enc P W 0 (λ_=>À) held m e cs=I (d,ps)->Ij enc P W held m e el cs d ps)
  (h:È enc P W 0 (λ_=>À) held fuel t cs=I (d,ps)):Ij enc P W held fuel t (.list el) cs d ps:=by
 cases fuel with
 |zero=>simp[È]at h
 |succ m=>
  have h':=h;unfold È at h;rw[hu]at h;split at h;all_goals (try (rename_i heq _;simp at heq;done))
  all_goals (try (rename_i heq;simp at heq;done))
  .rename_i heq;refine⟨rfl,⟨[],⟨X,0,rfl,jq _,k7 _,λ_=>rfl,λb hb=>by simp at hb⟩,⟨k7 _,ae⟩⟩,λW' sp _ _=>?_⟩;unfold È;rw[hu];exact h
  .rename_i e' a len cap heq;simp only[j5,TypeDesc.slice.injEq]at heq;subst heq;simp only[k7,q7,if_true]at h;split at h
   .rename_i hc;cases gp:(Ú len).mapM (λi=>(W.cells? 0 (a.add (i*P.cellsOf e)) (P.cellsOf e)).bind (È enc P W 0 (λ_=>À) held m e)) with
    |none=>rw[gp]at h;simp at h
    |some elems=>
     rw[gp]at h;simp only[j4]at h;cases Ik:(Ú (cap-len)).mapM (λj=>(W.cells? 0 (a.add ((len+j)*P.cellsOf e)) (P.cellsOf e)).bind (È enc P W 0 (λ_=>À) held m e)) with
     |none=>rw[Ik]at h;simp at h
     |some rest=>
      rw[Ik]at h;simp only[kn,j5,j9]at h;obtain⟨rfl,rfl⟩:=h;obtain⟨l1,g1⟩:=Ih gp;obtain⟨l2,g2⟩:=Ih Ik;simp only[ä]at l1 l2
      have one:∀i y,(W.cells? 0 (a.add (i*P.cellsOf e)) (P.cellsOf e)).bind (È enc P W 0 (λ_=>À) held m e)=I y->∃c,W.cells? 0 (a.add (i*P.cellsOf e)) (P.cellsOf e)=I c/\Ij enc P W held m e el c y.1 y.2:=by
       intro i y hy;cases hc:W.cells? 0 (a.add (i*P.cellsOf e)) (P.cellsOf e) with
       |none=>rw[hc]at hy;simp at hy
       |some c=>rw[hc]at hy;exact⟨c,rfl,ih m c y.1 y.2 hy⟩
      refine⟨rfl,?_,?_⟩
      .have each:∀i,i<len->∃x:el.den×D Å,W.cells? 0 (a.add (i*P.cellsOf e)) (P.cellsOf e)=I x.2/\Rep (oldS W) W el x.1 x.2/\Wf el x.1:=by intro i hi;obtain⟨y,hy,hf⟩:=g1 i i (by simp[hi]);obtain⟨c,eU,_,⟨v,hv,hw⟩,_⟩:=one i y hf;exact⟨(v,c),eU,hv,hw⟩
       obtain⟨xs,oJ,il⟩:=Xe len each;have EZ:∀c∈xs.map (·.2),c.length=P.cellsOf e:=by intro c hc;obtain⟨x,hx,rfl⟩:=jx.1 hc;obtain⟨i,hi⟩:=zj.1 hx;exact(Oi (il i x hi).1).1
       refine⟨xs.map (·.1),?_,?_⟩
       .refine⟨I a,cap,by simp[oJ],by simp[oJ,hc.1],hc.2,ae,λb hb=>?_⟩;simp only[j5]at hb;subst hb;have xj:len≠0->a.spot=none:=by intro hl;obtain⟨x,hx⟩:∃x,xs[0]? = I x:=⟨xs[0],jo aa⟩;obtain⟨k1,k2⟩:=Oi (il 0 x hx).1;obtain⟨v,hv⟩:∃v,x.2[0]? = I v:=⟨x.2[0],jo aa⟩;have:=(Xh (k2 0 v hv)).2;simpa[Addr.add]using this
        refine⟨λbr=>xj (λh0=>br (by rw[List.map_eq_nil_iff];exact jy aa)),xs.map (·.2),Xf ae (λi x c hx hc=>?_),λj v hv=>?_⟩
        .simp only[qg,Ý]at hx hc;obtain⟨y,hy,rfl⟩:=hx;obtain⟨z,hz,rfl⟩:=hc;rw[hy]at hz;simp at hz;subst hz;exact(il i y hy).2.1
        .obtain⟨i,r,c,hj,hr,nT,rF⟩:=Xg EZ hv;simp only[qg,Ý]at nT;obtain⟨x,hx,rfl⟩:=nT;have ee:=(Oi (il i x hx).1).2 r v rF;have gS:i<len:=by rw[<-oJ];exact(List.getElem?_eq_some_iff.1 hx).1
         have hs:=xj aa;have yo:(a.add (i*P.cellsOf e)).add r=⟨a.block,a.off+j,X⟩:=by obtain⟨g,o,s⟩:=a;simp only at hs;subst hs;simp only[Addr.add];split<;>split<;>simp<;>omega
         rw[yo]at ee;exact⟨(Xh ee).1,ee⟩
       .refine⟨by simp only[kc,oJ];omega,λx hx=>?_⟩;obtain⟨y,hy,rfl⟩:=jx.1 hx;obtain⟨i,hi⟩:=zj.1 hy;exact(il i y hi).2.2
      .intro W' sp hE dE
       have keep:∀i y,y∈elems++rest->(W.cells? 0 (a.add (i*P.cellsOf e)) (P.cellsOf e)).bind (È enc P W 0 (λ_=>À) held m e)=I y->
         (W'.cells? 0 (a.add (i*P.cellsOf e)) (P.cellsOf e)).bind (È enc P W' 0 sp held m e)=I y:=by
        intro i y hy hf;obtain⟨c,eU,_,_,hk⟩:=one i y hf;rw[hE.cells eU];exact hk W' sp hE (λq hq=>dE q (jn _ (q8.2 ⟨y,hy,hq⟩)))
       unfold È;rw[hu];simp only[k7,q7];rw[if_pos hc,Ii gp (λi _ y hy hf=>keep i y (jr _ hy) hf)];simp only[j4]
       have fh:(if sp a.block=À then (Ú (cap-len)).mapM (λj=>(W'.cells? 0 (a.add ((len+j)*P.cellsOf e)) (P.cellsOf e)).bind (È enc P W' 0 sp held m e)) else I [])=I rest:=by
        split
        .exact Ii Ik (λj _ y hy hf=>keep (len+j) y (jn _ hy) hf)
        .rename_i hsf;rcases yi ((elems.length+rest.length)*P.cellsOf e) with h0|h0
         .have:rest=[]:=by
           rcases Nat.mul_eq_zero.1 h0 with h|h
           .exact jy aa
           .omega
          rw[this]
         .obtain⟨q,hq,hb⟩:=jzr (a:=a) h0;have:=dE q (jr _ hq);rw[hb]at this;exact absurd this hsf
       rw[fh];rfl
   .simp at h
  .simp at h
theorem Xi:∀(n:U)(t:Ø)(ty:Ty),u6 P n t ty=À->∀(fuel:U)(cs:D Å)(d:ë H)(ps:D Ü),È enc P W 0 (λ_=>À) held fuel t cs=I (d,ps)->
  Ij enc P W held fuel t ty cs d ps
 |0,_,_,hc,_,_,_,_,_=>by simp[u6]at hc
 |n+1,t,ty,hc,fuel,cs,d,ps,h=>by
  have ih:=Xi n;cases fuel with
  |zero=>simp[È]at h
  |succ m=>
  have gT:=hc;unfold u6 at hc;split at hc
  .rename_i k hu;have:=kr hc;subst this;obtain⟨z,rfl,hx,hw⟩:=DataW.trod_int hu h;refine⟨rfl,⟨z,rfl,hw⟩,λW' sp _ _=>?_⟩;simp only[j9]at hx;rw[hx.1,hx.2];exact trod_int_mk m hu hw
  .rename_i hu;have:=kr hc;subst this;obtain⟨z,rfl,hx⟩:=DataW.trod_bool hu h;refine⟨rfl,⟨z,rfl,trivial⟩,λW' sp _ _=>?_⟩;unfold È at h ⊢;rw[hu]at h ⊢;exact h
  .rename_i hu;have:=kr hc;subst this;obtain⟨z,rfl,hx,hw⟩:=DataW.trod_string hu h;refine⟨rfl,⟨z,rfl,hw⟩,λW' sp _ _=>?_⟩;unfold È at h ⊢;rw[hu]at h ⊢;exact h
  .rename_i e hu;split at hc
   .rename_i a;simp only[jd,jj]at hc;exact jun (n:=n) hu hc.1.2 hc.2 (λm cs d ps h=>ih e a hc.1.1 m cs d ps h) h
   .simp at hc
  .simp at hc
end
theorem Il{P:Ç}{W:Â}{r:Reach}{base:U}{t:Ø}{v:Å}{d:TypeDesc}(hu:P.underlying t=I d)(hd:(∃k,d = .int k)\/d = .bool\/d = .string\/∃e,d = .slice e)(h:Û P W r base t v):One v:=by
 have hc:Cell.ok P W r base t v:=by unfold Û at h;rw[hu]at h;rcases hd with⟨k,rfl⟩|rfl|rfl|⟨e,rfl⟩<;>(dsimp only at h;unfold Cell.okWide at h;rw[hu]at h;exact h)
 unfold Cell.ok at hc;rw[hu]at hc;rcases hd with⟨k,rfl⟩|rfl|rfl|⟨e,rfl⟩<;>cases v<;>first|rfl|(exact absurd hc ae)
theorem Cc{H:Type}{enc:Ø×Å->H}{P:Ç}{W:Â}{n:U}{t:Ø}{ty:Ty}(gZ:u6 P n t ty=À){r:Reach}{base:U}{v:Å}(bT:Û P W r base t v){d:ë H}{p:D Ü}
  (h:ø enc P W 0 (λ_=>À) À t v d p) :
  ∃x:ty.den,oa (oldS W) W (.v ⟨ty,x⟩) v/\Wf ty x/\∀W' sp,Below W.heap.size W W'->(∀q∈p,sp q.block=À)->ø enc P W' 0 sp À t v d p:=by
 obtain⟨fuel,h⟩:=h;obtain⟨_,⟨x,hx,hw⟩,hk⟩:=Xi n t ty gZ fuel _ d p h;refine⟨x,⟨hx,λhm=>?_,λhm=>?_⟩,hw,λW' sp hb dE=>⟨fuel,hk W' sp (λk y hy=>by rw[hb.block k (jh.1 hy).1];exact hy) dE⟩⟩
 .cases n with
  |zero=>simp[u6]at gZ
  |succ n=>
   unfold u6 at gZ;split at gZ
   .have:=kr gZ;subst this;simp[kI,Ty.agg]at hm
   .have:=kr gZ;subst this;simp[kI,Ty.agg]at hm
   .have:=kr gZ;subst this;simp[kI,Ty.agg]at hm
   .split at gZ
    .simp[kI,Ty.agg]at hm
    .simp at gZ
   .simp at gZ
 .cases n with
  |zero=>simp[u6]at gZ
  |succ n=>
   unfold u6 at gZ;split at gZ
   .rename_i k hu;exact Il hu (.inl ⟨k,rfl⟩) bT
   .rename_i hu;exact Il hu (.inr (.inl rfl)) bT
   .rename_i hu;exact Il hu (.inr (.inr (.inl rfl))) bT
   .rename_i e hu;exact Il hu (.inr (.inr (.inr ⟨e,rfl⟩))) bT
   .simp at gZ
def OLe{α:Type}(a b:O α):Prop:=∀r,a=I r->b=I r
theorem OLe.refl{α:Type}(a:O α):OLe a a:=λ_ h=>h
theorem OLe.none{α:Type}(a:O α):OLe X a:=λ_ h=>by simp at h
theorem OLe.bind{α β:Type}{a b:O α}{f g:α->O β}(h:OLe a b)(h':∀x,OLe (f x) (g x)):OLe (a.bind f) (b.bind g):=by
 intro r hr;cases a with
 |none=>simp at hr
 |some x=>rw[h x rfl];exact h' x r hr
theorem OLe.cond{α:Type}{c:É}{a b a' b':O α}(h:OLe a a')(h':OLe b b'):OLe (cond c a b) (cond c a' b'):=by
 cases c with
 |true=>exact h
 |false=>exact h'
theorem OLe.sumC{α β γ:Type}{x:α ⊕ β}{f f':α->O γ}{g g':β->O γ}(h:∀x,OLe (f x) (f' x))(h':∀x,OLe (g x) (g' x)):OLe (sumC x f g) (Lft.sumC x f' g'):=by
 cases x with
 |inl a=>exact h a
 |inr b=>exact h' b
theorem OLe.loopN{α β:Type}{f g:α->O (α ⊕ β)}(h:∀s,OLe (f s) (g s)):∀(n:U)(s:α),OLe (Lft.loopN f n s) (Lft.loopN g n s)
 |0,_=> .none _
 |n+1,s=>by
  intro r hr;simp only[Lft.loopN]at hr ⊢;cases hf:f s with
  |none=>simp[hf]at hr
  |some x=>
   rw[h s x hf];cases x with
   |inl a=>simp only[hf]at hr;exact OLe.loopN h n a r hr
   |inr b=>simpa[hf]using hr
theorem OLe.loop{α β:Type}{f g:α->O (α ⊕ β)}(n:U)(s:α)(h:∀s,OLe (f s) (g s)):OLe (Lft.loopN f n s) (loopOpt g s):=
 λr hr=>EF (OLe.loopN h n s r hr)
theorem OLe.loopOpt{α β:Type}{f g:α->O (α ⊕ β)}(s:α)(h:∀s,OLe (f s) (g s)):OLe (Lft.loopOpt f s) (Lft.loopOpt g s):=by
 intro r hr;obtain⟨n,hn⟩:=EG hr;exact EF (OLe.loopN h n s r hn)
theorem Xj{α β:Type}{B B':(α->O β)->α->O β}(h:∀g g',(∀a,OLe (g a) (g' a))->∀a,OLe (B g a) (B' g' a)):∀n a,OLe (mc B n a) (mc B' n a)
 |0,_=> .none _
 |n+1,a=>h _ _ (Xj h n) a
theorem Oj{α β:Type}{B:(α->O β)->α->O β}(h:∀g g',(∀a,OLe (g a) (g' a))->∀a,OLe (B g a) (B g' a)):∀(k n:U)(a:α),OLe (mc B n a) (mc B (n+k) a)
 |k,0,a=> .none _
 |k,n+1,a=>by
  rw[show n+1+k=(n+k)+1 by omega];exact h _ _ (Oj h k n) a
theorem OLe.rec{α β:Type}{B B':(α->O β)->α->O β}(n:U)(a:α)(h:∀g g',(∀a,OLe (g a) (g' a))->∀a,OLe (B g a) (B' g' a))(h':∀g g',(∀a,OLe (g a) (g' a))->∀a,OLe (B' g a) (B' g' a)) :
  OLe (mc B n a) (xd B' a):=by
 intro r hr;have h1:=Xj h n a r hr;refine WY ⟨n,h1⟩ λm y hy=>?_;have e1:=Oj h' m n a r h1;have e2:=Oj h' n m a y hy;rw[Nat.add_comm m n]at e2;rw[e1]at e2;simpa using e2.symm
end Go.Lft
