/- Shapes of arguments and snapshots: what is known of them but the data. Loops. -/
import Derived.Test.YtgepoeafaklbjaaGreatPFLC
import Derived.KernelRfl
import Derived.IntWalk
import Derived.Below
import Derived.ChangeSame
open _root_ renaming List->D,Option->I,Nat->U,Bool->Ç,DecidableEq->È,Int->É,Array->Ü,True->ù,Inv->ü
open Option renaming some->O,none->X,map_eq_some_iff->ß,map_some->ë
open Bool renaming false->Y,true->Ã,and_eq_true->è
open Go renaming Program->Z,World->Ä,Value->Å,Act->Ê,Code->Ñ,TypeId->Õ,MemPlace->Þ,Oper->á,Func->ï,DataW->ò
open Go.Exit renaming inBlock->À
open Go.DataW renaming trod->Á,TrodAll->ó,Trod->ÿ
open Go.Code renaming region->Â,cond->Ó,block->Û
open List renaming drop_left->Æ,append_assoc->Ë,length->Ì,getElem?_append_left->Í,length_append->Ð,mem_append_left->Ò,eq_nil_of_length_eq_zero->Ô,getElem?_append_right->Ö,getElem?_map->Ø,getElem?_eq_getElem->Ú,mem_append_right->à,mem_of_getElem?->â,range->ã,mem_singleton->å,length_range->ç,not_mem_nil->é,find?_cons->ê,replicate->ì,mapM_cons->í,getD->ð,mem_cons->ñ,isEmpty->ô,range'->ú
open Decidable renaming decide->Î
open Nat renaming zero_le->Ï,lt_of_lt_of_le->ä,add_comm->õ,lt_or_ge->ö,le_refl->û
open Go.Region renaming wanted->Ù
open Go.Value renaming okWide->Ý
noncomputable section
set_option linter.unusedVariables false
namespace Go.Lft
inductive CPat where
 |v (t:Ty)
 |p (ts:D Ty)
 deriving È
inductive LPat where
 |dead|nil
 |d (t:Ty)
 |ol (k:U)
 |bp (k c:U)
 |ep (k i c:U)
 |tl (k:U)
 |hd (k:U)
 |ip (ts:D Ty)
 |clo (f:U) (caps:D CPat)
 deriving È
inductive KPat where
 |one (l:LPat)
 |st (ls:D LPat)
 |av (n:U) (a:Ty)
 deriving È
inductive BPat where
 |free|gone
 |cell (ls:D LPat) (frz:Ç)
 |lst (e:U) (a:Ty) (frz:Ç)
 |arr (n:U) (a:Ty)
 |row (e:U) (a:Ty) (n:U) (ls:D LPat)
 deriving È
inductive IPat where
 |s (c:KPat)
 |b (x:BPat)
 deriving È
abbrev iT:Ty:= .int .i64
abbrev sI:IPat:= .s (.one (.d iT))
abbrev sD(t:Ty):IPat:= .s (.one (.d t))
abbrev sO(k:U):IPat:= .s (.one (.ol k))
abbrev sB(k c:U):IPat:= .s (.one (.bp k c))
abbrev sC(f:U)(l:D CPat):IPat:= .s (.one (.clo f l))
inductive APat where
 |v (t:Ty)
 |ref (ts:D Ty)
 |rl (e:U) (t:Ty)
 |ip (ts:D Ty)
 |clo (f:U) (caps:D CPat)
 |mv (e:U) (t:Ty)
 deriving È
@[reducible] def HL:List Ty->Type
 |[]=>Unit
 |[t]=>t.den
 |t::t'::ts=>t.den×HL (t'::ts)
def ofHL:(ts:D Ty)->HL ts->D TV
 |[],_=>[]
 |[t],h=>[⟨t,h⟩]
 |t::t'::ts,h=>⟨t,h.1⟩::ofHL (t'::ts) h.2
def toHL:(ts:D Ty)->D TV->I (HL ts)
 |[],[]=>O ()
 |[t],[x]=>x.to t
 |t::t'::ts,x::xs=>match x.to t with
  |some v=>match toHL (t'::ts) xs with
   |some r=>O (v,r)
   |none=>X
  |none=>X
 |_,_=>X
theorem jnr:∀{ts:D Ty}{xs:D TV}{h:HL ts},toHL ts xs=O h->xs=ofHL ts h
 |[],[],_,_=>rfl
 |[],_::_,_,h=>by simp[toHL]at h
 |[_],[],_,h=>by simp[toHL]at h
 |[t],[x],hl,h=>by
  simp only[toHL]at h;rw[jgi h];rfl
 |[t],x::y::xs,hl,h=>by simp[toHL]at h
 |_::_::_,[],_,h=>by simp[toHL]at h
 |t::t'::ts,x::xs,hl,h=>by
  simp only[toHL]at h;split at h
  .rename_i v hv;split at h
   .rename_i r hr;simp only[j5]at h;subst h;rw[jgi hv,jnr hr];rfl
   .simp at h
  .simp at h
def capP:Cap->CPat×D TV
 |.v x=>(.v x.t,[x])
 |.p ls=>(.p (ls.map (·.t)),ls)
def jhx:D Cap->D CPat×D TV
 |[]=>([],[])
 |c::cs=>((capP c).1::(jhx cs).1,(capP c).2++(jhx cs).2)
def tv0:TV:=⟨.unit,()⟩
def capF:CPat->D TV->Cap
 |.v _,xs=> .v (xs.headD tv0)
 |.p ts,xs=> .p (xs.take ts.length)
def CPat.n:CPat->U
 |.v _=>1
 |.p ts=>ts.length
def jtg:D CPat->D TV->D Cap
 |[],_=>[]
 |c::cs,xs=>capF c xs::jtg cs (xs.drop c.n)
def jth:D CPat->U
 |[]=>0
 |c::cs=>c.n+jth cs
theorem jBV(c:Cap)(r:D TV):capF (capP c).1 ((capP c).2++r)=c/\(capP c).1.n=(capP c).2.length:=by
 cases c<;>grind[capP,capF,CPat.n]
theorem jns:∀(cs:D Cap)(r:D TV),jtg (jhx cs).1 ((jhx cs).2++r)=cs/\jth (jhx cs).1=(jhx cs).2.length
 |[],r=>⟨rfl,rfl⟩
 |c::cs,r=>by
  simp only[jhx,jtg,jth,Ë,Ð];have h1:=jBV c ((jhx cs).2++r);have h2:=jns cs r;rw[h1.1,h1.2,Æ,h2.1,h2.2];exact⟨rfl,rfl⟩
def jlP:Leaf->LPat×D TV
 |.dead=>(.dead,[])
 |.nil=>(.nil,[])
 |.d t v=>(.d t,[⟨t,v⟩])
 |.ol k=>(.ol k,[])
 |.bp k c=>(.bp k c,[])
 |.ep k i c=>(.ep k i c,[])
 |.tl k i=>(.tl k,[⟨.int .i64,(i:É)⟩])
 |.hd k i=>(.hd k,[⟨.int .i64,(i:É)⟩])
 |.ip ls=>(.ip (ls.map (·.t)),ls)
 |.clo f caps=>(.clo f (jhx caps).1,(jhx caps).2)
def jAG:TV->U
 |⟨.int _,v⟩=>Int.toNat v
 |_=>0
def LPat.n:LPat->U
 |.d _=>1
 |.tl _=>1
 |.hd _=>1
 |.ip ts=>ts.length
 |.clo _ cs=>jth cs
 |_=>0
def jvc:LPat->D TV->Leaf
 |.dead,_=> .dead
 |.nil,_=> .nil
 |.d _,xs=> .d (xs.headD tv0).t (xs.headD tv0).v
 |.ol k,_=> .ol k
 |.bp k c,_=> .bp k c
 |.ep k i c,_=> .ep k i c
 |.tl k,xs=> .tl k (jAG (xs.headD tv0))
 |.hd k,xs=> .hd k (jAG (xs.headD tv0))
 |.ip ts,xs=> .ip (xs.take ts.length)
 |.clo f cs,xs=> .clo f (jtg cs xs)
theorem jvd(l:Leaf)(r:D TV):jvc (jlP l).1 ((jlP l).2++r)=l/\(jlP l).1.n=(jlP l).2.length:=by
 cases l with
 |ip ls=>simp[jlP,jvc,LPat.n]
 |clo f cs=>grind[jns,jlP,jvc,LPat.n]
 |_=>exact⟨rfl,rfl⟩
def j94:D Leaf->D LPat×D TV
 |[]=>([],[])
 |c::cs=>((jlP c).1::(j94 cs).1,(jlP c).2++(j94 cs).2)
def jiH:D LPat->D TV->D Leaf
 |[],_=>[]
 |c::cs,xs=>jvc c xs::jiH cs (xs.drop c.n)
def jiI:D LPat->U
 |[]=>0
 |c::cs=>c.n+jiI cs
theorem jhy:∀(cs:D Leaf)(r:D TV),jiH (j94 cs).1 ((j94 cs).2++r)=cs/\jiI (j94 cs).1=(j94 cs).2.length
 |[],r=>⟨rfl,rfl⟩
 |c::cs,r=>by
  simp only[j94,jiH,jiI,Ë,Ð];have h1:=jvd c ((j94 cs).2++r);have h2:=jhy cs r;rw[h1.1,h1.2,Æ,h2.1,h2.2];exact⟨rfl,rfl⟩
def celP:Cel->KPat×D TV
 |.one l=>(.one (jlP l).1,(jlP l).2)
 |.st ls=>(.st (j94 ls).1,(j94 ls).2)
 |.av n a xs=>(.av n a,[⟨.list a,xs⟩])
def joY(a:Ty)(xs:D TV):D a.den:=((xs.headD tv0).to (.list a)).getD []
theorem jgO(a:Ty)(xs:D a.den)(r:D TV):joY a (⟨.list a,xs⟩::r)=xs:=by
 simp[joY,TV.to]
def KPat.n:KPat->U
 |.one l=>l.n
 |.st ls=>jiI ls
 |.av _ _=>1
def celF:KPat->D TV->Cel
 |.one l,xs=> .one (jvc l xs)
 |.st ls,xs=> .st (jiH ls xs)
 |.av n a,xs=> .av n a (joY a xs)
theorem jBW(c:Cel)(r:D TV):celF (celP c).1 ((celP c).2++r)=c/\(celP c).1.n=(celP c).2.length:=by
 cases c with
 |one l=>have:=jvd l r;exact⟨by grind[celP,celF],this.2⟩
 |st ls=>have:=jhy ls r;exact⟨by grind[celP,celF],this.2⟩
 |av n a xs=>exact⟨by grind[celP,celF,jgO],rfl⟩
def bsP:BS->BPat×D TV
 |.free=>(.free,[])
 |.gone=>(.gone,[])
 |.live (.cell ls f)=>(.cell (j94 ls).1 f,(j94 ls).2)
 |.live (.lst e a xs f)=>(.lst e a f,[⟨.list a,xs⟩])
 |.live (.arr n a xs)=>(.arr n a,[⟨.list a,xs⟩])
 |.live (.row e a n ls)=>(.row e a n (j94 ls).1,(j94 ls).2)
def BPat.n:BPat->U
 |.free|.gone=>0
 |.cell ls _=>jiI ls
 |.lst _ _ _=>1
 |.arr _ _=>1
 |.row _ _ _ ls=>jiI ls
def bsF:BPat->D TV->BS
 |.free,_=> .free
 |.gone,_=> .gone
 |.cell ls f,xs=> .live (.cell (jiH ls xs) f)
 |.lst e a f,xs=> .live (.lst e a (joY a xs) f)
 |.arr n a,xs=> .live (.arr n a (joY a xs))
 |.row e a n ls,xs=> .live (.row e a n (jiH ls xs))
theorem jDA(c:BS)(r:D TV):bsF (bsP c).1 ((bsP c).2++r)=c/\(bsP c).1.n=(bsP c).2.length:=by
 cases c with
 |free=>exact⟨rfl,rfl⟩
 |gone=>exact⟨rfl,rfl⟩
 |live b=>
  cases b with
  |cell ls f=>have:=jhy ls r;exact⟨by grind[bsP,bsF],this.2⟩
  |lst e a xs f=>exact⟨by grind[bsP,bsF,jgO],rfl⟩
  |arr n a xs=>exact⟨by grind[bsP,bsF,jgO],rfl⟩
  |row e a n ls=>have:=jhy ls r;exact⟨by grind[bsP,bsF],this.2⟩
def itP:Item->IPat×D TV
 |.s c=>(.s (celP c).1,(celP c).2)
 |.b x=>(.b (bsP x).1,(bsP x).2)
def IPat.n:IPat->U
 |.s c=>c.n
 |.b x=>x.n
def itF:IPat->D TV->Item
 |.s c,xs=> .s (celF c xs)
 |.b x,xs=> .b (bsF x xs)
theorem jBX(c:Item)(r:D TV):itF (itP c).1 ((itP c).2++r)=c/\(itP c).1.n=(itP c).2.length:=by
 cases c with
 |s c=>have:=jBW c r;exact⟨by grind[itP,itF],this.2⟩
 |b x=>have:=jDA x r;exact⟨by grind[itP,itF],this.2⟩
def jf8:Snap->D IPat×D TV
 |[]=>([],[])
 |c::cs=>((itP c).1::(jf8 cs).1,(itP c).2++(jf8 cs).2)
def jql:D IPat->D TV->Snap
 |[],_=>[]
 |c::cs,xs=>itF c xs::jql cs (xs.drop c.n)
theorem jve:∀(cs:Snap),jql (jf8 cs).1 (jf8 cs).2=cs
 |[]=>rfl
 |c::cs=>by
  simp only[jf8,jql];have h1:=jBX c (jf8 cs).2;rw[h1.1,h1.2,Æ,jve cs]
def pack(ps:D IPat)(ts:D Ty)(h:HL ts):Snap:=jql ps (ofHL ts h)
def jf9(ps:D IPat)(ts:D Ty)(s:Snap):I (HL ts):=
 if (jf8 s).1=ps then toHL ts (jf8 s).2 else X
theorem jdA{ps:D IPat}{ts:D Ty}{s:Snap}{h:HL ts}(hs:jf9 ps ts s=O h):s=pack ps ts h:=by
 grind[jf9,jnr,pack,jve]
def argP:Arg->APat×D TV
 |.v x=>(.v x.t,[x])
 |.ref ls=>(.ref (ls.map (·.t)),ls)
 |.rl e x=>(.rl e x.t,[x])
 |.ip ls=>(.ip (ls.map (·.t)),ls)
 |.clo f cs=>(.clo f (jhx cs).1,(jhx cs).2)
 |.mv e x=>(.mv e x.t,[x])
def APat.n:APat->U
 |.v _=>1
 |.ref ts=>ts.length
 |.rl _ _=>1
 |.ip ts=>ts.length
 |.clo _ cs=>jth cs
 |.mv _ _=>1
def argF:APat->D TV->Arg
 |.v _,xs=> .v (xs.headD tv0)
 |.ref ts,xs=> .ref (xs.take ts.length)
 |.rl e _,xs=> .rl e (xs.headD tv0)
 |.ip ts,xs=> .ip (xs.take ts.length)
 |.clo f cs,xs=> .clo f (jtg cs xs)
 |.mv e _,xs=> .mv e (xs.headD tv0)
theorem jBY(c:Arg)(r:D TV):argF (argP c).1 ((argP c).2++r)=c/\(argP c).1.n=(argP c).2.length:=by
 cases c<;>grind[argP,argF,APat.n,jns]
def jnt:D Arg->D APat×D TV
 |[]=>([],[])
 |c::cs=>((argP c).1::(jnt cs).1,(argP c).2++(jnt cs).2)
def jti:D APat->D TV->D Arg
 |[],_=>[]
 |c::cs,xs=>argF c xs::jti cs (xs.drop c.n)
theorem jvf:∀(cs:D Arg),jti (jnt cs).1 (jnt cs).2=cs
 |[]=>rfl
 |c::cs=>by
  simp only[jnt,jti];have h1:=jBY c (jnt cs).2;rw[h1.1,h1.2,Æ,jvf cs]
def jjA(ps:D APat)(ts:D Ty)(h:HL ts):D Arg:=jti ps (ofHL ts h)
def jkH(ps:D APat)(ts:D Ty)(s:D Arg):I (HL ts):=
 if (jnt s).1=ps then toHL ts (jnt s).2 else X
theorem jg0{ps:D APat}{ts:D Ty}{s:D Arg}{h:HL ts}(hs:jkH ps ts s=O h):s=jjA ps ts h:=by
 grind[jkH,jnr,jjA,jvf]
theorem jkI{α β:Type}{f:α->I (α ⊕ β)}:∀{n m:U}{s:α}{x y:β},loopN f n s=O x->loopN f m s=O y->x=y
 |0,_,_,_,_,h,_=>by simp[loopN]at h
 |_+1,0,_,_,_,_,h=>by simp[loopN]at h
 |n+1,m+1,s,x,y,h,h'=>by
  simp only[loopN]at h h';cases hf:f s with
  |none=>simp[hf]at h
  |some r=>
   cases r with
   |inl s'=>simp only[hf]at h h';exact jkI h h'
   |inr z=>simp only[hf,j5]at h h';rw[<-h,<-h']
open Classical in
def loopOpt{α β:Type}(f:α->I (α ⊕ β))(s:α):I β:=
 match loopN f 100000 s with
 |some x=>O x
 |none=>if h:∃x n,loopN f n s=O x then O h.choose else X
theorem jdB{α β:Type}{f:α->I (α ⊕ β)}{s:α}{n:U}{x:β}(h:loopN f n s=O x):loopOpt f s=O x:=by
 unfold loopOpt;split
 .grind[jkI]
 have hx:∃x n,loopN f n s=O x:=⟨x,n,h⟩;grind[jkI]
theorem jdC{α β:Type}{f:α->I (α ⊕ β)}{s:α}{x:β}(h:loopOpt f s=O x):∃n,loopN f n s=O x:=by
 unfold loopOpt at h;split at h
 .grind
 split at h;all_goals grind
theorem joZ{α β:Type}{f:α->I (α ⊕ β)}{s s':α}(h:f s=O (.inl s')):loopOpt f s=loopOpt f s':=by
 cases hq:loopOpt f s' with
 |some x=>obtain⟨n,hn⟩:=jdC hq;exact jdB (n:=n+1) (by grind[loopN])
 |none=>
  cases hp:loopOpt f s with
  |none=>rfl
  |some x=>obtain⟨n,hn⟩:=jdC hp;cases n<;>grind[loopN,jdB]
theorem jqm{α β:Type}{f:α->I (α ⊕ β)}{s:α}{x:β}(h:f s=O (.inr x)):loopOpt f s=O x:=
 jdB (n:=1) (by simp only[loopN,h])
theorem jp0{α β A B:Type}{f:α->I (α ⊕ β)}{g:A->I (A ⊕ B)}{p:A->α}{q:B->β}
  (h:∀a r,g a=O r->f (p a)=O (match r with|.inl a'=> .inl (p a')|.inr b=> .inr (q b))):∀{n:U}{a:A}{x:B},loopN g n a=O x->loopN f n (p a)=O (q x)
 |0,_,_,hn=>by simp[loopN]at hn
 |n+1,a,x,hn=>by
  simp only[loopN]at hn;cases hg:g a with
  |none=>simp[hg]at hn
  |some r=>
   have:=h a r hg;cases r with
   |inl a'=>simp only[hg]at hn;simp only[loopN,this];exact jp0 h hn
   |inr b=>grind[loopN]
def sumC{α β γ:Type}(x:α ⊕ β)(f:α->γ)(g:β->γ):γ:=match x with
 |.inl a=>f a
 |.inr b=>g b
structure XD where
 ex:Ex
 ps:D IPat
 ts:D Ty
@[reducible] def XT:List XD->Type
 |[]=>Empty
 |[x]=>HL x.ts
 |x::y::r=>HL x.ts ⊕ XT (y::r)
def jkJ:(l:D XD)->XT l->Ex×Snap
 |[],h=>nomatch h
 |[x],h=>(x.ex,pack x.ps x.ts h)
 |x::y::r,h=>match h with
  |.inl a=>(x.ex,pack x.ps x.ts a)
  |.inr b=>jkJ (y::r) b
def jvg{R:Type}:(l:D XD)->XT l->(Ex->Snap->I R)->I R
 |[],_,_=>X
 |[x],h,k=>k x.ex (pack x.ps x.ts h)
 |x::y::r,h,k=>sumC h (λa=>k x.ex (pack x.ps x.ts a)) (λb=>jvg (y::r) b k)
theorem jnu{R:Type}:∀(l:D XD)(h:XT l)(k:Ex->Snap->I R),jvg l h k=k (jkJ l h).1 (jkJ l h).2
 |[],h,_=>nomatch h
 |[x],h,k=>rfl
 |x::y::r,h,k=>by
  cases h with
  |inl a=>rfl
  |inr b=>exact jnu (y::r) b k
def unX:(l:D XD)->Ex->Snap->I (XT l)
 |[],_,_=>X
 |[x],e,s=>if e=x.ex then jf9 x.ps x.ts s else X
 |x::y::r,e,s=>if e=x.ex/\(jf8 s).1=x.ps then match jf9 x.ps x.ts s with
   |some a=>O (.inl a)
   |none=>X
  else match unX (y::r) e s with
   |some b=>O (.inr b)
   |none=>X
theorem jvh:∀(l:D XD)(e:Ex)(s:Snap)(x:XT l),unX l e s=O x->jkJ l x=(e,s)
 |[],_,_,_,h=>by simp[unX]at h
 |[x],e,s,h,he=>by
  simp only[unX]at he;split at he
  .rename_i h1;rw[jkJ,<-jdA he,h1]
  .simp at he
 |x::y::r,e,s,h,he=>by
  simp only[unX]at he;split at he
  .rename_i h1;split at he
   .rename_i a ha;simp only[j5]at he;subst he;show (x.ex,pack x.ps x.ts a)=(e,s);rw[<-jdA ha,h1.1]
   .simp at he
  .split at he
   .rename_i b hb;simp only[j5]at he;subst he;exact jvh (y::r) e s b hb
   .simp at he
structure jeQ where
 b:U
 ps:D IPat
 ts:D Ty
 exits:D XD
 step:HL ts->I (HL ts ⊕ XT exits)
def jnv:D jeQ->U->Snap->(R:Type)->(Ex->Snap->I R)->I R
 |[],_,_,_,_=>X
 |d::ds,b,s,R,k=>if d.b=b then match jf9 d.ps d.ts s with
   |some h=>(loopOpt d.step h).bind λx=>jvg d.exits x k
   |none=>X
  else jnv ds b s R k
theorem jkK:∀ds:D jeQ,LFun (jnv ds)
 |[]=>λ_ _=>⟨X,λ_ _=>rfl⟩
 |d::ds=>λb s=>by
  simp only[jnv];split
  .split
   .rename_i h _;cases hq:loopOpt d.step h with
    |none=>exact⟨X,λ_ _=>rfl⟩
    |some x=>exact⟨O (jkJ d.exits x),λR k=>jnu d.exits x k⟩
   .exact⟨X,λ_ _=>rfl⟩
  .exact jkK ds b s
structure MrD where
 b:U
 m:U
 nm:U
 ps:D IPat
 ts:D Ty
 em:U
 v:Ty
 G:HL ts->É->v.den->(R:Type)->(v.den->I R)->I R
def mrL:D MrD->U->Snap->(R:Type)->(Snap->I R)->I R
 |[],_,_,_,_=>X
 |d::ds,b,s,R,k=>if d.b=b then match jf9 d.ps d.ts s,jjk d.em d.v s with
   |some h,O xs=>(jdc (λq z=>d.G h q z d.v.den O) xs).bind λys=>k (j5m s d.em d.v ys)
   |_,_=>X
  else mrL ds b s R k
def mrF:D MrD->U->I (U×U)
 |[],_=>X
 |d::ds,b=>if d.b=b then O (d.m,d.nm) else mrF ds b
theorem jqn:∀ds:D MrD,MFun (mrL ds)
 |[]=>λ_ _=>⟨X,λ_ _=>rfl⟩
 |d::ds=>λb s=>by
  simp only[mrL];split
  .split
   .rename_i h xs _ _;cases jdc (λq z=>d.G h q z d.v.den O) xs with
    |none=>exact⟨X,λ_ _=>rfl⟩
    |some ys=>exact⟨O (j5m s d.em d.v ys),λ_ _=>rfl⟩
   .exact⟨X,λ_ _=>rfl⟩
  .exact jqn ds b s
theorem jze{b m nm:U}:∀{ds:D MrD},mrF ds b=O (m,nm)->∃d∈ds,d.b=b/\d.m=m/\d.nm=nm/\∀s R k,mrL ds b s R k=match jf9 d.ps d.ts s,jjk d.em d.v s with
   |some h,O xs=>(jdc (λq z=>d.G h q z d.v.den O) xs).bind λys=>k (j5m s d.em d.v ys)
   |_,_=>X
 |[],h=>by simp[mrF]at h
 |d::ds,h=>by
  simp only[mrF]at h;split at h
  .rename_i hb;simp only[j5,j9]at h;refine⟨d,smp_,hb,h.1,h.2,λs R k=>?_⟩;simp only[mrL,hb,if_true]
  .rename_i hb;obtain⟨d',hm,h1,h2,h3,h4⟩:=jze h;refine⟨d',by simp[hm],h1,h2,h3,λs R k=>?_⟩;rw[<-h4];simp only[mrL,hb,if_false]
def mrPd(b:U)(c:Ñ):MrP:=(mrP b c).getD ⟨0,0,0,0,0, #[],.skip⟩
structure jAH(E:Env)(c:Ñ)(d:MrD):Prop where
 em:isM d.em=Ã
 bx:∀h zs,(j0Q E.np (E.keep d.b) (j5m (pack d.ps d.ts h) d.em d.v zs)).bx d.nm = .live (.lst d.em (.pair (.int .i64) d.v) zs Y)
 sl:∀h zs,(j0Q E.np (E.keep d.b) (j5m (pack d.ps d.ts h) d.em d.v zs)).sl d.m = .one (.one (.ol d.nm))
 step:∀h zs q z (R:Type) (k:Snap->I R),jon E d.b (mrPd d.b c) d.m (j5m (pack d.ps d.ts h) d.em d.v zs) d.v q z k=
  d.G h q z R (λy=>k (j5m (pack d.ps d.ts h) d.em d.v (@j2Y _ _ (Ty.int .i64).keq zs q y)))
theorem jAI(t:Ty)(v:t.den):(TV.mk t v).to t=O v:=by simp[TV.to]
theorem jtj(s:Snap)(em:U)(v:Ty)(zs:D (É×v.den)):jjk em v (j5m s em v zs)=O zs:=by
 grind[jjk,j5m,jAI]
theorem jvi{em:U}{v:Ty}{s:Snap}{xs:D (É×v.den)}(h:jjk em v s=O xs):s=j5m s em v xs:=by
 unfold jjk at h;split at h
 .rename_i e a zs hl;split at h
  .rename_i he;subst he;have:=jgi h;grind[List.getLast?_eq_some_iff,j5m]
  .simp at h
 .simp at h
theorem jkL{α β:Type}{G:α->β->I β}:∀{xs ys:D (α×β)},jdc G xs=O ys->All2 (λx y=>y.1=x.1/\G x.1 x.2=O y.2) xs ys
 |[],ys,h=>by
  simp only[jdc,j5]at h;subst h;trivial
 |x::r,ys,h=>by
  simp only[jdc]at h;cases hg:G x.1 x.2 with
  |none=>rw[hg]at h;simp at h
  |some z=>
   rw[hg,j4]at h;cases hr:jdc G r with
   |none=>rw[hr]at h;simp at h
   |some r'=>rw[hr,j4,j5]at h;subst h;exact⟨⟨rfl,hg⟩,jkL hr⟩
theorem jAJ{E:Env}(h0:E.off0=E)(hF:CFun E.C)(hz:E.nz=Y)(hL:LFun E.L/\MFun E.M){c:Ñ}{ds:D MrD}{b:U}(hm:E.mr=mrF ds)(hM:E.M=mrL ds)(hs:∀d∈ds,d.b=b->jAH E c d):MrOK E b c:=by
 intro m nm p hb hp s R k r h;rw[h0];rw[hm]at hb;obtain⟨d,hd,rfl,rfl,rfl,he⟩:=jze hb;have hok:=hs d hd rfl;rw[hM,he]at h;split at h
 case h_2=>simp at h
 rename_i hh xs hu hg;cases hq:jdc (λq z=>d.G hh q z d.v.den O) xs with
 |none=>simp_all
 |some ys=>
 rw[hq,j4]at h;obtain rfl:=jdA hu;have hpd:mrPd d.b c=p:=by grind[mrPd]
 refine⟨d.em,d.v,xs,ys,hok.em,jvi hg,λzs=>⟨hok.bx hh zs,hok.sl hh zs⟩,(jkL hq).mono λx y hxy=>⟨hxy.1,λzs=>?_⟩,h⟩;obtain⟨o,ho⟩:=jte hF hz hL d.b p d.m (j5m (pack d.ps d.ts hh) d.em d.v []) d.v x.1 x.2;have hst:=λzs R k=>hok.step hh zs x.1 x.2 R k;rw[hpd]at hst
 let inv:Snap->d.v.den:=λs=>match jjk d.em d.v s with
  |some ((_,y)::_)=>y
  |_=>d.v.dflt
 have hinv:∀y,inv (j5m (pack d.ps d.ts hh) d.em d.v (@j2Y _ _ (Ty.int .i64).keq [] x.1 y))=y:=λy=>by
  show (match jjk d.em d.v _ with
   |some ((_,y)::_)=>y
   |_=>d.v.dflt)=y
  rw[jtj];rfl
 have hG:∀(R:Type)(κ:d.v.den->I R),d.G hh x.1 x.2 R κ=o.bind λs=>κ (inv s):=λR κ=>by
  rw[<-ho]
  simp_all
 rw[hst,hG];have h2:=hxy.2;rw[hG]at h2;cases o with
 |none=>simp at h2
 |some s0=>
  simp_all
def mrAt(c:Ñ)(b:U):Code:=(((j1E 0 c).find? λx=>Nat.beq x.1 b).getD (0,.skip)).2
def jp1(E:Env)(c:Ñ):D MrD->Prop
 |[]=>ù
 |d::ds=>jAH E (mrAt c d.b) d/\jp1 E c ds
theorem jp1.get{E:Env}{c:Ñ}:∀{ds:D MrD},jp1 E c ds->∀d∈ds,jAH E (mrAt c d.b) d
 |[],_,d,h=>by simp at h
 |x::r,hs,d,h=>by
  rcases List.mem_cons.1 h with rfl|h
  .exact hs.1
  .exact jp1.get hs.2 d h
theorem jvj:∀{l:D (U×Ñ)}{x:U×Ñ},(l.map (·.1)).Nodup->x∈l->l.find? (λy=>Nat.beq y.1 x.1)=O x
 |[],x,_,h=>by simp at h
 |y::r,x,hn,h=>by
  have hc:=List.nodup_cons.1 (show (y.1::r.map (·.1)).Nodup from hn);rcases List.mem_cons.1 h with rfl|h
  .rw[ê,Nat.beq_refl]
  .have hne:y.1≠x.1:=λe=>hc.1 (e▸List.mem_map.2 ⟨x,h,rfl⟩);rw[ê,beqF hne];exact jvj hc.2 h
def uk(E:Env)(d:jeQ)(e:Ex)(σ:St):I (HL d.ts ⊕ XT d.exits):=
 match e with
 |.normal=>match j7e E.np (E.keep d.b) σ with
  |some s=>match jf9 d.ps d.ts s with
   |some h=>O (.inl h)
   |none=>X
  |none=>X
 |e=>match j7e E.np (E.keepX d.b e) σ with
  |some s=>match unX d.exits e s with
   |some x=>O (.inr x)
   |none=>X
  |none=>X
def ukR(E:Env)(d:jeQ)(ps:Ü U)(x y:Ñ)(p:I (D Item))(e:Ex)(σ:St):I (HL d.ts ⊕ XT d.exits):=
 match p,e with
 |some q,.normal=>match j7e E.np (E.keep d.b) σ with
  |some s=>match jf9 d.ps d.ts (q++s) with
   |some h=>O (.inl h)
   |none=>X
  |none=>X
 |_,e=>cond (pinK ps x y (E.keepX d.b e)) (match j7e E.np (E.keepX d.b e) σ with
  |some s=>match unX d.exits e s with
   |some x=>O (.inr x)
   |none=>X
  |none=>X) X
def jy0(E:Env)(d:jeQ)(h:HL d.ts):Ñ->I (HL d.ts ⊕ XT d.exits)
 |.rangeFunc g ps x y=>jkc E d.b g ps x y (pack d.ps d.ts h) (ukR E d ps x y)
 |c=>j0V E d.b c (j0Q E.np (E.keep d.b) (pack d.ps d.ts h)) (uk E d)
def jrV(E:Env)(c:Ñ)(d:jeQ):Prop:=∀h,jy0 E d h c=d.step h
def outS(d:jeQ)(r:HL d.ts ⊕ XT d.exits):Snap ⊕ Ex×Snap:=match r with
 |.inl a=> .inl (pack d.ps d.ts a)
 |.inr x=> .inr (jkJ d.exits x)
theorem jBZ{E:Env}(hF:CFun E.C)(hz:E.nz=Y)(hL:LFun E.L/\MFun E.M){g:Operand}{ps:Ü U}{x y:Ñ}{d:jeQ}(hs:jrV E (.rangeFunc g ps x y) d)(h:HL d.ts)(r:HL d.ts ⊕ XT d.exits):d.step h=O r->
  jjl E d.b g ps x y (pack d.ps d.ts h)=O (outS d r):=by
 intro hr;obtain⟨o,ho⟩:=jqk hF hz hL d.b g ps x y (pack d.ps d.ts h);rw[<-hs h]at hr;have h1:O r=_:=hr.symm.trans (ho _ (λz=>ukR E d ps x y z.1 z.2.1 z.2.2));cases o with
 |none=>simp at h1
 |some z=>
  obtain⟨p,e,σ⟩:=z;simp only[j4]at h1
  have h2:=ho _ (λz:I (D Item)×Ex×St=>match z.1,z.2.1 with
   |some q,.normal=>match j7e E.np (E.keep d.b) z.2.2 with
    |some s'=>O (Sum.inl (q++s'))
    |none=>X
   |_,e=>cond (pinK ps x y (E.keepX d.b e)) (match j7e E.np (E.keepX d.b e) z.2.2 with
    |some s'=>O (Sum.inr (e,s'))
    |none=>X) X)
  have h3:jjl E d.b g ps x y (pack d.ps d.ts h)=_:=h2;rw[h3,j4];clear h3 h2 hr ho;dsimp only;have h1:=h1.symm;unfold ukR at h1
  have hx:∀e,(cond (pinK ps x y (E.keepX d.b e)) (match j7e E.np (E.keepX d.b e) σ with
    |some s=>match unX d.exits e s with
     |some x=>O (Sum.inr x)
     |none=>X
    |none=>X) X:I (HL d.ts ⊕ XT d.exits))=O r->(cond (pinK ps x y (E.keepX d.b e)) (match j7e E.np (E.keepX d.b e) σ with
    |some s'=>O (Sum.inr (e,s'))
    |none=>X) X:I (Snap ⊕ Ex×Snap))=O (outS d r):=by
   grind[outS,jvh]
  cases p<;>grind[outS,jdA]
theorem jy1{E:Env}(hF:CFun E.C)(hz:E.nz=Y)(hL:LFun E.L/\MFun E.M){c:Ñ}{d:jeQ}(hs:∀h,j0V E d.b c (j0Q E.np (E.keep d.b) (pack d.ps d.ts h)) (uk E d)=d.step h)(h:HL d.ts)(r:HL d.ts ⊕ XT d.exits):d.step h=O r->
  jdX E d.b c (pack d.ps d.ts h)=O (match r with|.inl a=> .inl (pack d.ps d.ts a)|.inr x=> .inr (jkJ d.exits x)):=by
 intro hr;obtain⟨o,ho⟩:=jaw hF hz hL c d.b (j0Q E.np (E.keep d.b) (pack d.ps d.ts h));rw[<-hs h]at hr;have h1:O r=_:=hr.symm.trans (ho _ (λz=>uk E d z.1 z.2));cases o with
 |none=>simp at h1
 |some z=>
  obtain⟨e,σ⟩:=z;simp only[j4]at h1
  have h2:=ho _ (λz:Ex×St=>match z.1 with
   |.normal=>match j7e E.np (E.keep d.b) z.2 with
    |some s'=>O (Sum.inl s')
    |none=>X
   |e=>match j7e E.np (E.keepX d.b e) z.2 with
    |some s'=>O (Sum.inr (e,s'))
    |none=>X)
  have h3:jdX E d.b c (pack d.ps d.ts h)=_:=h2;grind[uk,jdA,jvh]
theorem jvk{E:Env}(h0:E.off0=E)(hF:CFun E.C)(hz:E.nz=Y)(hL:LFun E.L/\MFun E.M){c:Ñ}{d:jeQ}(hs:jrV E c d)
  (he:∀s R k,E.L d.b s R k=match jf9 d.ps d.ts s with|some h=>(loopOpt d.step h).bind λx=>jvg d.exits x k|none=>X):jmx E d.b c:=by
 intro s R k r h;rw[he]at h;split at h
 .rename_i hl hu;cases hq:loopOpt d.step hl with
  |none=>simp[hq]at h
  |some x=>
   rw[hq,j4,jnu]at h;obtain⟨n,hn⟩:=jdC hq;refine⟨n,(jkJ d.exits x).1,(jkJ d.exits x).2,?_,h⟩;rw[jdA hu]
   exact jp0 (f:=joo E d.b c) (p:=pack d.ps d.ts) (q:=jkJ d.exits) (λa r hr=>by
    have hq:=h0;unfold joo;rw[hq];cases c with
    |rangeFunc g ps x y=>have:=jBZ hF hz hL hs a r hr;cases r<;>exact this
    |_=>have:=jy1 hF hz hL hs a r hr;cases r<;>exact this) hn
 .simp at h
def lpAt(c:Ñ)(j:U):Code:=((j1E 0 c).getD j (0,.skip)).2
def jea(E:Env)(c:Ñ):U->D jeQ->Prop
 |_,[]=>ù
 |j,d::ds=>jrV E (lpAt c j) d/\jea E c (j+1) ds
theorem jea.get{E:Env}{c:Ñ}:∀{ds:D jeQ}{i j:U}{d:jeQ},jea E c i ds->ds[j]? = O d->jrV E (lpAt c (i+j)) d
 |[],_,_,_,_,h=>by simp at h
 |x::xs,i,0,d,hs,h=>by simp at h;subst h;exact hs.1
 |x::xs,i,j+1,d,hs,h=>by
  have:=jea.get (i:=i+1) (j:=j) hs.2 (by simpa using h);grind
theorem jrW:∀{ds:D jeQ}{j:U}{d:jeQ},jbG (ds.map (·.b))=Ã->ds[j]? = O d->∀s R k,jnv ds d.b s R k=match jf9 d.ps d.ts s with|some h=>(loopOpt d.step h).bind λx=>jvg d.exits x k|none=>X
 |[],_,_,_,h=>by simp at h
 |x::xs,0,d,_,h=>by simp at h;subst h;intro s R k;simp only[jnv,if_true]
 |x::xs,j+1,d,hn,h=>by
  simp only[List.map_cons,jbG,è,Bool.not_eq_true',List.contains_eq_mem,decide_eq_false_iff_not]at hn;have hm:d∈xs:=â (by simpa using h);have hne:x.b≠d.b:=λe=>hn.1 (e▸List.mem_map.2 ⟨d,hm,rfl⟩);intro s R k;simp only[jnv,hne,if_false];exact jrW (j:=j) hn.2 (by simpa using h) s R k
theorem jy2{E:Env}(h0:E.off0=E)(hF:CFun E.C)(hz:E.nz=Y){c:Ñ}{ds:D jeQ}(hE:E.L=jnv ds)(hm:(j1E 0 c).map (·.1)=ds.map (·.b))(hn:jbG (ds.map (·.b))=Ã)(hs:jea E c 0 ds){ms:D MrD}(hmr:E.mr=mrF ms)(hM:E.M=mrL ms)(hms:jp1 E c ms) :
  ∀x∈j1E 0 c,jmx E x.1 x.2/\MrOK E x.1 x.2:=by
 intro x hx;have hLM:LFun E.L/\MFun E.M:=⟨hE▸jkK ds,hM▸jqn ms⟩;have hnd:((j1E 0 c).map (·.1)).Nodup:=hm▸ja7 hn;refine⟨?_,jAJ h0 hF hz hLM hmr hM λd hd hb=>?_⟩
 rotate_left
 .have:=hms.get d hd
  simp_all[mrAt,jvj]
 obtain⟨j,hj⟩:=List.mem_iff_getElem?.1 hx;have hjm:(ds.map (·.b))[j]? = O x.1:=by grind
 rw[Ø]at hjm;cases hd:ds[j]? with
 |none=>simp[hd]at hjm
 |some d=>
  simp only[hd,ë,j5]at hjm;have h1:=jea.get hs hd;rw[Nat.zero_add]at h1;have h2:lpAt c j=x.2:=by grind[lpAt]
  rw[h2]at h1;have:=jvk (E:=E) h0 hF hz hLM h1 (λs R k=>by rw[hE];grind[jrW]);rwa[hjm]at this
inductive VPat where
 |v (t:Ty)
 |own (e:U) (t:Ty)
 |box (ts:D Ty)
 |hd
 |vn (t:Ty) (ns:D U)
 |clo (f:U) (caps:D CPat)
 |so (ls:D (I U×Ty))
 |raw (ns:D U) (ps:D IPat)
 deriving È
inductive OPat where
 |ref (ts:D Ty)
 |rl (t:Ty)
 deriving È
def rlP:RL->(I U×Ty)×TV
 |.d x=>((X,x.t),x)
 |.own e x=>((O e,x.t),x)
def rlsF:D (I U×Ty)->D TV->D RL
 |[],_=>[]
 |(X,_)::ps,xs=> .d (xs.headD tv0)::rlsF ps xs.tail
 |(O e,_)::ps,xs=> .own e (xs.headD tv0)::rlsF ps xs.tail
theorem jvl:∀(ls:D RL)(r:D TV),rlsF (ls.map λl=>(rlP l).1) ((ls.map λl=>(rlP l).2)++r)=ls
 |[],r=>rfl
 |.d x::ls,r=>by
  have:=jvl ls r;show RL.d _::rlsF _ (_++r)=_;rw[this];rfl
 |.own e x::ls,r=>by
  have:=jvl ls r;show RL.own e _::rlsF _ (_++r)=_;rw[this];rfl
def jy3:D IPat->U
 |[]=>0
 |c::cs=>c.n+jy3 cs
theorem jqo:∀(cs:Snap)(r:D TV),jql (jf8 cs).1 ((jf8 cs).2++r)=cs/\jy3 (jf8 cs).1=(jf8 cs).2.length
 |[],r=>⟨rfl,rfl⟩
 |c::cs,r=>by
  simp only[jf8,jql,jy3,Ë,Ð];have h1:=jBX c ((jf8 cs).2++r);have h2:=jqo cs r;rw[h1.1,h1.2,Æ,h2.1,h2.2];exact⟨rfl,rfl⟩
def rvP:RV->VPat×D TV
 |.v x=>(.v x.t,[x])
 |.own e x=>(.own e x.t,[x])
 |.box ls=>(.box (ls.map (·.t)),ls)
 |.hd n=>(.hd,[⟨.int .i64,(n:É)⟩])
 |.vn x ns=>(.vn x.t ns,[x])
 |.clo f caps=>(.clo f (jhx caps).1,(jhx caps).2)
 |.so ls=>(.so (ls.map λl=>(rlP l).1),ls.map λl=>(rlP l).2)
 |.raw ns s=>(.raw ns (jf8 s).1,(jf8 s).2)
def VPat.n:VPat->U
 |.v _=>1
 |.own _ _=>1
 |.box ts=>ts.length
 |.hd=>1
 |.vn _ _=>1
 |.clo _ cs=>jth cs
 |.so ls=>ls.length
 |.raw _ ps=>jy3 ps
def rvF:VPat->D TV->RV
 |.v _,xs=> .v (xs.headD tv0)
 |.own e _,xs=> .own e (xs.headD tv0)
 |.box ts,xs=> .box (xs.take ts.length)
 |.hd,xs=> .hd (jAG (xs.headD tv0))
 |.vn _ ns,xs=> .vn (xs.headD tv0) ns
 |.clo f cs,xs=> .clo f (jtg cs xs)
 |.so ls,xs=> .so (rlsF ls xs)
 |.raw ns ps,xs=> .raw ns (jql ps xs)
theorem jDB(c:RV)(r:D TV):rvF (rvP c).1 ((rvP c).2++r)=c/\(rvP c).1.n=(rvP c).2.length:=by
 cases c with
 |v x=>exact⟨rfl,rfl⟩
 |own e x=>exact⟨rfl,rfl⟩
 |hd n=>exact⟨rfl,rfl⟩
 |vn x ns=>exact⟨rfl,rfl⟩
 |box ls=>simp[rvP,rvF,VPat.n]
 |clo f cs=>grind[jns,rvP,rvF,VPat.n]
 |so ls=>grind[rvP,rvF,jvl,VPat.n]
 |raw ns s=>exact⟨by grind[rvP,rvF,jqo],(jqo s r).2⟩
def outP:Out->OPat×D TV
 |.ref ls=>(.ref (ls.map (·.t)),ls)
 |.rl x=>(.rl x.t,[x])
def OPat.n:OPat->U
 |.ref ts=>ts.length
 |.rl _=>1
def outF:OPat->D TV->Out
 |.ref ts,xs=> .ref (xs.take ts.length)
 |.rl _,xs=> .rl (xs.headD tv0)
theorem jC0(c:Out)(r:D TV):outF (outP c).1 ((outP c).2++r)=c/\(outP c).1.n=(outP c).2.length:=by
 cases c<;>grind[outP,outF,OPat.n]
def rvsP:D RV->D VPat×D TV
 |[]=>([],[])
 |c::cs=>((rvP c).1::(rvsP cs).1,(rvP c).2++(rvsP cs).2)
def rvsF:D VPat->D TV->D RV
 |[],_=>[]
 |c::cs,xs=>rvF c xs::rvsF cs (xs.drop c.n)
def rvsN:D VPat->U
 |[]=>0
 |c::cs=>c.n+rvsN cs
theorem jvm:∀(cs:D RV)(r:D TV),rvsF (rvsP cs).1 ((rvsP cs).2++r)=cs/\rvsN (rvsP cs).1=(rvsP cs).2.length
 |[],r=>⟨rfl,rfl⟩
 |c::cs,r=>by
  simp only[rvsP,rvsF,rvsN,Ë,Ð];have h1:=jDB c ((rvsP cs).2++r);have h2:=jvm cs r;rw[h1.1,h1.2,Æ,h2.1,h2.2];exact⟨rfl,rfl⟩
def jp2:D Out->D OPat×D TV
 |[]=>([],[])
 |c::cs=>((outP c).1::(jp2 cs).1,(outP c).2++(jp2 cs).2)
def jy4:D OPat->D TV->D Out
 |[],_=>[]
 |c::cs,xs=>outF c xs::jy4 cs (xs.drop c.n)
theorem jvn:∀(cs:D Out)(r:D TV),jy4 (jp2 cs).1 ((jp2 cs).2++r)=cs
 |[],r=>rfl
 |c::cs,r=>by
  simp only[jp2,jy4,Ë];have h1:=jC0 c ((jp2 cs).2++r);rw[h1.1,h1.2,Æ,jvn cs r]
structure RPat where
 vs:D VPat
 os:D OPat
 deriving È
def jfa(rp:RPat)(ts:D Ty)(h:HL ts):Ret:=⟨rvsF rp.vs (ofHL ts h),jy4 rp.os ((ofHL ts h).drop (rvsN rp.vs))⟩
def jkM(rp:RPat)(ts:D Ty)(r:Ret):I (HL ts):=
 if (rvsP r.vals).1=rp.vs/\(jp2 r.outs).1=rp.os then toHL ts ((rvsP r.vals).2++(jp2 r.outs).2) else X
theorem jtk{rp:RPat}{ts:D Ty}{r:Ret}{h:HL ts}(hs:jkM rp ts r=O h):r=jfa rp ts h:=by
 unfold jkM at hs;split at hs
 .rename_i hp;have:=jnr hs;unfold jfa;rw[<-this,<-hp.1,<-hp.2,(jvm r.vals _).1,(jvm r.vals []).2,Æ];have h2:=jvn r.outs []
  simp_all
 .simp at hs
structure Con where
 f:U
 ps:D APat
 ts:D Ty
 rp:RPat
 rs:D Ty
 F:HL ts->I (HL rs)
def Con.C(c:Con)(args:D Arg)(R:Type)(k:Ret->I R):I R:=
 match jkH c.ps c.ts args with
 |some h=>(c.F h).bind λx=>k (jfa c.rp c.rs x)
 |none=>X
def Con.OK(P:Z)(c:Con):Prop:=FnOK P c.f c.C
def orB{α R:Type}(a:I α)(f:α->I R)(b:I R):I R:=match a with
 |some x=>f x
 |none=>b
def altC:D Con->U->D APat->Ç
 |[],_,_=>Y
 |c::cs,f,ps=>if c.f=f/\c.ps=ps then Ã else altC cs f ps
def conC:D Con->U->D Arg->(R:Type)->(Ret->I R)->I R
 |[],_,_,_,_=>X
 |c::cs,f,args,R,k=>if c.f=f then (if (jnt args).1=c.ps then (if altC cs f c.ps then (match jkH c.ps c.ts args with
  |some h=>orB (c.F h) (λx=>k (jfa c.rp c.rs x)) (conC cs f args R k)
  |none=>X) else c.C args R k) else conC cs f args R k) else conC cs f args R k
theorem jkN{P:Z}{f:U}:FnOK P f (λ_ _ _=>X):=by
 intro args R k r h;simp at h
def jtl(P:Z):D Con->Prop
 |[]=>ù
 |c::cs=>c.OK P/\jtl P cs
theorem jkO{P:Z}:∀cs:D Con,jtl P cs->j7R P (conC cs)
 |[],_,_=>jkN
 |c::cs,h,f=>by
  have ih:=jkO cs h.2 f;intro args R k r hk;simp only[conC]at hk;split at hk
  .rename_i hf;subst hf;split at hk
   .split at hk
    .split at hk
     .rename_i x hu;have h1:=h.1 args R k r;simp only[Con.C,hu]at h1;cases hq:c.F x with
      |some y=>rw[hq]at hk h1;exact h1 hk
      |none=>rw[hq]at hk;exact ih args R k r hk
     .simp at hk
    .exact h.1 args R k r hk
   .exact ih args R k r hk
  .exact ih args R k r hk
theorem jnw:∀cs:D Con,CFun (conC cs)
 |[]=>λ_ _=>⟨X,λ_ _=>rfl⟩
 |c::cs=>λf args=>by
  have ih:=jnw cs f args;simp only[conC];split
  .split
   .split
    .split
     .rename_i h _;cases hq:c.F h with
      |none=>exact ih
      |some x=>exact⟨O (jfa c.rp c.rs x),λ_ _=>rfl⟩
     .exact⟨X,λ_ _=>rfl⟩
    .unfold Con.C;split
     .rename_i h _;cases hq:c.F h with
      |none=>exact⟨X,λ_ _=>rfl⟩
      |some x=>exact⟨O (jfa c.rp c.rs x),λ_ _=>rfl⟩
     .exact⟨X,λ_ _=>rfl⟩
   .exact ih
  .exact ih
def jAK:D (U×Keep)->U->Keep
 |[],_=>⟨[],[],[]⟩
 |x::r,b=>if x.1=b then x.2 else jAK r b
def jvo:D (U×Ex×Keep)->U->Ex->Keep
 |[],_,_=>⟨[],[],[]⟩
 |x::r,b,e=>if x.1=b/\x.2.1=e then x.2.2 else jvo r b e
def jvp:D (U×D Ç)->U->D Ç
 |[],_=>[]
 |x::r,b=>if x.1=b then x.2 else jvp r b
def dwL:D (U×D (D U))->U->D (D U)
 |[],_=>[]
 |x::r,b=>if x.1=b then x.2 else dwL r b
def bwL:D (U×Ç×Ty)->U->I (Ç×Ty)
 |[],_=>X
 |x::r,f=>if x.1=f then O x.2 else bwL r f
def jvq(P:Z):D (U×Ç×Ty)->Prop
 |[]=>ù
 |x::r=>BwK P x.1 x.2/\jvq P r
theorem jzf{P:Z}:∀{l:D (U×Ç×Ty)},jvq P l->∀f t,bwL l f=O t->BwK P f t
 |[],_,f,t,h=>by simp[bwL]at h
 |x::r,hl,f,t,h=>by
  simp only[bwL]at h;split at h
  .rename_i e;simp only[j5]at h;rw[<-e,<-h];exact hl.1
  .exact jzf hl.2 f t h
structure FnD where
 N:Nat:=0
 np:Nat:=0
 cs:D Con:=[]
 ds:D jeQ:=[]
 modes:D (U×D Ç):=[]
 keep:D (U×Keep):=[]
 keepX:D (U×Ex×Keep):=[]
 ro:D Bool:=[]
 dw:D (U×D (D U)):=[]
 hd:Bool:=Y
 ns:D Nat:=[]
 bw:D (U×Ç×Ty):=[]
 so:D SoK:=[]
 un:D Nat:=[]
 unr:Nat:=2
 pre:D (U×D Gh):=[]
 rw:Bool:=Y
 rn:D Nat:=[]
 b1:D Nat:=[]
 ks:D Nat:=[]
 ms:D MrD:=[]
 mvf:D Nat:=[]
 pa:D (U×U×Ty):=[]
 sc:Bool:=Y
def paL:D (U×U×Ty)->U->I (U×Ty)
 |[],_=>X
 |x::r,i=>if x.1=i then O x.2 else paL r i
def preL:D (U×D Gh)->U->D Gh
 |[],_=>[]
 |x::r,i=>if x.1=i then x.2 else preL r i
def FnD.env(d:FnD)(T:D (I TyI)):Env:=⟨⟨d.N,λ_=>Y⟩,d.np,tab T,conC d.cs,jvp d.modes,jnv d.ds,jAK d.keep,jvo d.keepX,d.ro,dwL d.dw,Y,d.hd,d.ns,bwL d.bw,d.so,λb=>cond (d.un.contains b) d.unr 0,preL d.pre,d.rw,d.rn,d.b1,λi=>d.ks.contains i,λf=>d.mvf.contains f,mrF d.ms,mrL d.ms,paL d.pa,d.sc,0⟩
theorem jC1{P:Z}{T:D (I TyI)}(hT:j1K P (tab T))(hmix:P.follows .mixedOrders=Ã)(d:FnD)(con:Con)(fn:ï)(c:Ñ)(hf:P.funcs[con.f]? = O fn)(hb:fn.body=O c)
  (hN : fn.ntmps = d.N) (hnp : d.np ≤ d.N) (hnm : (fn.name == "runtime.NumGoroutine") = Y) (hcs : jtl P d.cs) (hm : (j1E 0 c).map (·.1) = d.ds.map (·.b)) (hn : jbG (d.ds.map (·.b)) = Ã)
  (hs:jea (d.env T) c 0 d.ds)(hF:∀h,jhn (d.env T) fn (jjA con.ps con.ts h) (jkM con.rp con.rs)=con.F h)(hbw:jvq P d.bw:=by trivial)(hms:jp1 (d.env T) c d.ms:=by trivial):con.OK P:=by
 have hC:j7R P (d.env T).C:=jkO d.cs hcs;have hfun:CFun (d.env T).C:=jnw d.cs;have hL:LFun (d.env T).L/\MFun (d.env T).M:=⟨jkK d.ds,jqn d.ms⟩;have hfn:=jrT (E:=d.env T) hT hC hfun hmix hf hb hN rfl (jzf hbw) hnp hnm (jy2 rfl hfun rfl rfl hm hn hs rfl rfl hms);intro args R k r hk;unfold Con.C at hk;split at hk
 .rename_i h hu;rw[jg0 hu];cases hq:con.F h with
  |none=>simp[hq]at hk
  |some x=>rw[hq,j4]at hk;refine hfn _ R k r ?_;obtain⟨o,ho⟩:=jtf hfun rfl hL fn (jjA con.ps con.ts h);have h1:O x=_:=((hF h).trans hq).symm.trans (ho _ _);cases o<;>grind[jtk]
 .simp at hk
theorem cOf{P:Z}{T:D (I TyI)}(hT:j1K P (tab T))(hmix:P.follows .mixedOrders=Ã)(d:FnD)(con:Con){fn:ï}(hf:P.funcs[con.f]? = O fn)(hcs:jtl P d.cs)
  (hs:jea (d.env T) (fn.body.getD .skip) 0 d.ds)(hbw:jvq P d.bw:=by trivial)(hb:fn.body=O (fn.body.getD .skip):=by kernel_rfl)(hN:fn.ntmps=d.N:=by kernel_rfl)
  (hnp : Nat.ble d.np d.N = true := by kernel_rfl) (hnm : (fn.name == "runtime.NumGoroutine") = false := by kernel_rfl) (hm : (j1E 0 (fn.body.getD .skip)).map (·.1) = d.ds.map (·.b) := by kernel_rfl)
  (hn:jbG (d.ds.map (·.b))=true:=by kernel_rfl)(hF:∀h,jhn (d.env T) fn (jjA con.ps con.ts h) (jkM con.rp con.rs)=con.F h:=by intro h;kernel_rfl)(hms:jp1 (d.env T) (fn.body.getD .skip) d.ms:=by trivial):con.OK P:=
 jC1 hT hmix d con fn _ hf hb hN (Nat.le_of_ble_eq_true hnp) hnm hcs hm hn hs hF hbw hms
def jeb{α β:Type}(B:(α->I β)->α->I β):U->α->I β
 |0,_=>X
 |n+1,a=>B (jeb B n) a
open Classical in
def jjq{α β:Type}(B:(α->I β)->α->I β)(a:α):I β:=
 if h:∃x n,jeb B n a=O x then O h.choose else X
theorem jvr{α β:Type}{B:(α->I β)->α->I β}{a:α}{x:β}(h:jjq B a=O x):∃n,jeb B n a=O x:=by
 unfold jjq at h;split at h;all_goals grind
theorem jp3{α β:Type}{B:(α->I β)->α->I β}{a:α}{x:β}(h1:∃n,jeb B n a=O x)(h2:∀n y,jeb B n a=O y->y=x):jjq B a=O x:=by
 obtain⟨n,hn⟩:=h1;have hx:∃x n,jeb B n a=O x:=⟨x,n,hn⟩;grind[jjq]
theorem jC2{P:Z}{f:U}{ps:D APat}{ts:D Ty}{rp:RPat}{rs:D Ty}{B:(HL ts->I (HL rs))->HL ts->I (HL rs)}
  (hstep:∀g,Con.OK P ⟨f,ps,ts,rp,rs,g⟩->Con.OK P ⟨f,ps,ts,rp,rs,B g⟩):Con.OK P ⟨f,ps,ts,rp,rs,jjq B⟩:=by
 have all:∀n,Con.OK P ⟨f,ps,ts,rp,rs,jeb B n⟩:=by
  intro n;induction n with
  |zero=>intro args R k r hk;grind[Con.C,jeb]
  |succ n ih=>exact hstep _ ih
 intro args R k r hk;unfold Con.C at hk;split at hk
 .rename_i h hu;cases hq:jjq B h with
  |none=>simp[hq]at hk
  |some x=>obtain⟨n,hn⟩:=jvr hq;refine all n args R k r ?_;grind[Con.C]
 .simp at hk
def CPat.ty:CPat->D Ty
 |.v t=>[t]
 |.p ts=>ts
def LPat.ty:LPat->D Ty
 |.d t=>[t]
 |.tl _=>[iT]
 |.hd _=>[iT]
 |.ip ts=>ts
 |.clo _ cs=>cs.flatMap CPat.ty
 |_=>[]
def IPat.ty:IPat->D Ty
 |.s (.one l)=>l.ty
 |.s (.st ls)=>ls.flatMap LPat.ty
 |.s (.av _ a)=>[.list a]
 |.b (.cell ls _)=>ls.flatMap LPat.ty
 |.b (.lst _ a _)=>[.list a]
 |.b (.arr _ a)=>[.list a]
 |.b (.row _ _ _ ls)=>ls.flatMap LPat.ty
 |.b _=>[]
def tsI(ps:D IPat):D Ty:=ps.flatMap IPat.ty
def APat.ty:APat->D Ty
 |.v t=>[t]
 |.ref ts=>ts
 |.rl _ t=>[t]
 |.ip ts=>ts
 |.clo _ cs=>cs.flatMap CPat.ty
 |.mv _ t=>[t]
def APat.isR:APat->Ç
 |.rl _ _=>Ã
 |.mv _ _=>Ã
 |_=>Y
def VPat.ty:VPat->D Ty
 |.v t=>[t]
 |.own _ t=>[t]
 |.box ts=>ts
 |.hd=>[iT]
 |.vn t _=>[t]
 |.clo _ cs=>cs.flatMap CPat.ty
 |.so ls=>ls.map (·.2)
 |.raw _ ps=>tsI ps
def VPat.isO:VPat->Ç
 |.own _ _=>Ã
 |.so _=>Ã
 |_=>Y
def OPat.ty:OPat->D Ty
 |.ref ts=>ts
 |.rl t=>[t]
def tsA(ps:D APat):D Ty:=ps.flatMap APat.ty
def tsR(vs:D VPat)(os:D OPat):D Ty:=vs.flatMap VPat.ty++os.flatMap OPat.ty
structure LK where
 d:jeQ
 k:Keep
 x:D (Ex×Keep)
def xD(e:Ex)(ps:D IPat)(k:Keep):XD×Keep:=(⟨e,ps,tsI ps⟩,k)
def lD(b:U)(ps:D IPat)(k:Keep)(xs:D (XD×Keep))(f:HL (tsI ps)->I (HL (tsI ps) ⊕ XT (xs.map (·.1)))):LK:=⟨⟨b,ps,tsI ps,xs.map (·.1),f⟩,k,xs.map λx=>(x.1.ex,x.2)⟩
def dz:D (U×D U)->D (D U)
 |[]=>[]
 |x::r=>ì x.1 []++x.2::dz r
def tz:D (U×TyI)->D (I TyI)
 |[]=>[]
 |x::r=>ì x.1 X++O x.2::tz r
def tR(t:Ty)(e:U):TyI:=⟨1,Y,O t,[],e,[],X⟩
def CK(P:Z):Type:={c:Con // c.OK P}
structure TB(P:Z) where
 T:D (I TyI)
 ok:j1K P (tab T)
 mix:P.follows .mixedOrders=Ã
theorem jC3{P:Z}:∀cs:D (CK P),jtl P (cs.map (·.1))
 |[]=>trivial
 |c::r=>⟨c.2,jC3 r⟩
def FnD.q{P:Z}(d:FnD)(ls:D LK)(cs:D (CK P))(ps:D APat)(vs:D VPat)(n:U):FnD:=
 { d with N:=n,np:=ps.length,cs:=cs.map (·.1),modes:=cs.map λc=>(c.1.f,c.1.ps.map APat.isR),ro:=vs.map VPat.isO,ds:=ls.map (·.d),keep:=ls.map λl=>(l.d.b,l.k),keepX:=ls.flatMap λl=>l.x.map λe=>(l.d.b,e.1,e.2) }
def cQ{P:Z}(B:TB P)(d:FnD)(ls:D LK)(f:U)(ps:D APat)(vs:D VPat)(os:D OPat)(F:HL (tsA ps)->I (HL (tsR vs os))){fn:ï}(hf:P.funcs[f]? = O fn)(cs:D (CK P):=[])
  (hs:jea ((d.q ls cs ps vs fn.ntmps).env B.T) (fn.body.getD .skip) 0 (ls.map (·.d)):=by repeat (first|refine And.intro (λh=>by kernel_rfl) ?_|exact trivial))
  (hbw:jvq P d.bw:=by trivial)(hq:d.ms=[]:=by rfl)(hb:fn.body=O (fn.body.getD .skip):=by kernel_rfl)
  (hnp : Nat.ble ps.length fn.ntmps = true := by kernel_rfl) (hnm : (fn.name == "runtime.NumGoroutine") = false := by kernel_rfl) (hm : (j1E 0 (fn.body.getD .skip)).map (·.1) = ls.map (·.d.b) := by kernel_rfl)
  (hn:jbG (ls.map (·.d.b))=true:=by kernel_rfl)(hF:∀h,jhn ((d.q ls cs ps vs fn.ntmps).env B.T) fn (jjA ps (tsA ps) h) (jkM ⟨vs,os⟩ (tsR vs os))=F h:=by intro h;kernel_rfl):CK P:=
 have e:(ls.map (·.d)).map (·.b)=ls.map (·.d.b):=by rw[List.map_map];rfl
 ⟨⟨f,ps,tsA ps,⟨vs,os⟩,tsR vs os,F⟩,cOf B.ok B.mix (d.q ls cs ps vs fn.ntmps) _ hf (jC3 cs) hs hbw hb rfl hnp hnm (hm.trans e.symm) (e▸hn) hF (hms:=by show jp1 _ _ d.ms;rw[hq];trivial)⟩
def FnD.envN(d:FnD)(T:D (I TyI)):Env:=⟨⟨d.N,λ_=>Y⟩,d.np,tab T,conC d.cs,jvp d.modes,jnv d.ds,jAK d.keep,jvo d.keepX,d.ro,dwL d.dw,Ã,d.hd,d.ns,λ_=>X,d.so,λ_=>0,λ_=>[],Y,[],[],λ_=>Y,λ_=>Y,λ_=>X,λ_ _ _ _=>X,λ_=>X,Y,0⟩
theorem jvs{α R:Type}(xs:D α)(K:D α->I R){r:R}(h:(cond (Î (([]:D α).length+xs.length<=j02)) (O (([]:D α)++xs)) X).bind K=O r) :
  jk7 (ô xs) (K []) (cond (Î (([]:D α).length+xs.length<=j02)) (K (([]:D α)++xs)) X)=O r:=by
 cases hd:Î (([]:D α).length+xs.length<=j02) with
 |false=>rw[hd]at h;simp at h
 |true=>
  rw[hd]at h;simp only[j6,j4]at h ⊢;cases xs with
  |nil=>simp only[List.append_nil]at h ⊢;rw[jpQ];exact h
  |cons x r=>exact h
theorem j83{P:Z}{T:D (I TyI)}(hT:j1K P (tab T))(hmix:P.follows .mixedOrders=Ã)(d:FnD)(f:U)(a:Ty)(e:U)(fn:ï)(c:Ñ)(hf:P.funcs[f]? = O fn)(hb:fn.body=O c)
  (hN : fn.ntmps = d.N) (hnp : d.np ≤ d.N) (hnm : (fn.name == "runtime.NumGoroutine") = Y) (hcs : jtl P d.cs) (hl : j1E 0 c = [])
  (hF:∀(h:D a.den)(R:Type)(k:Ret->I R),jhn (d.envN T) fn [.v ⟨.list a,h⟩] k=jk7 (ô h) (k ⟨[.own e ⟨.list a,([]:D a.den)⟩],[]⟩)
   (cond (Î (([]:D a.den).length+Ì h<=j02)) (k ⟨[.own e ⟨.list a,([]:D a.den)++h⟩],[]⟩) X)) :
  Con.OK P ⟨f,[.v (.list a)],[.list a],⟨[.own e (.list a)],[]⟩,[.list a],λh=>cond (Î (([]:D a.den).length+Ì h<=j02)) (O (([]:D a.den)++h)) X⟩:=by
 have hC:j7R P (d.envN T).C:=jkO d.cs hcs;have hfun:CFun (d.envN T).C:=jnw d.cs;have hfn:=jrT (E:=d.envN T) hT hC hfun hmix hf hb hN rfl (λf t h=>by simp[FnD.envN]at h) hnp hnm (by rw[hl];simp);intro args R k r hk;unfold Con.C at hk;split at hk
 .rename_i h hu;rw[jg0 hu];refine hfn _ R k r ?_;refine(hF h R k).trans ?_;exact jvs (α:=a.den) h (λx=>k ⟨[.own e ⟨.list a,x⟩],[]⟩) hk
 .simp at hk
def w64(x:É):Int:=IntKind.wrap .i64 x
class LP where
 lp:{α β:Type}->(α->I (α ⊕ β))->α->I β
 rp:{α β:Type}->((α->I β)->α->I β)->α->I β
noncomputable instance realLP:LP:=⟨loopOpt,jjq⟩
abbrev jDX(N:U):LP:=⟨λf a=>loopN f N a,λB a=>jeb B N a⟩
theorem j4N{x:É}(h1 : -9223372036854775808<=x)(h2:x<=9223372036854775807):w64 x=x:=IntWalk.i64_in x ⟨h1,h2⟩
def lpK{α β:Type}(r:I (α ⊕ β))(f:α->I β):I β:=match r with
 |none=>X
 |some (.inl s)=>f s
 |some (.inr x)=>O x
theorem j03{α β:Type}(s:α)(f:α->I β):lpK (O (.inl s)) f=f s:=rfl
theorem j06{α β:Type}(x:β)(f:α->I β):lpK (O (.inr x)) f=O x:=rfl
theorem jjS{α β γ:Type}(x:α)(f:α->γ)(g:β->γ):sumC (.inl x) f g=f x:=rfl
theorem j4j{α β γ:Type}(x:β)(f:α->γ)(g:β->γ):sumC (.inr x) f g=g x:=rfl
theorem j0d{α β:Type}(f:α->I (α ⊕ β))(s:α):loopOpt f s=lpK (f s) (loopOpt f):=by
 cases h:f s with
 |none=>
  cases hq:loopOpt f s with
  |none=>rfl
  |some x=>obtain⟨n,hn⟩:=jdC hq;cases n<;>simp[loopN,h]at hn
 |some r=>
  cases r with
  |inl s'=>exact joZ h
  |inr x=>exact jqm h
section
variable{S0:j09}{w0:Ä}{refs:Refs}
theorem jqp{P:Z}{E:Env}(hT:j1K P E.T)(hC:j7R P E.C){ops:Ü á}{R:Type}{k:St->I R}{r:R}{Q:Exit->Ê->Ä->Prop}{n:U}{rest:D U}
  (hn:∀σ' a' w' S' γ',Rel E.N E.np S0 w0 refs σ' a' w' S' γ'->j2z σ'->k σ'=O r->wpOpsIn (FR X) n P ops Q rest a' w') :
  ∀(l:D á)(i:U){σ:St}{a:Ê}{w:Ä}{S:j09}{γ:U->Å},(∀j o,l[j]? = O o->ops[i+j]? = O o/\o.guard=X)->Rel E.N E.np S0 w0 refs σ a w S γ->j2z σ->j7T E l σ k=O r->
   wpOpsIn (FR X) n P ops Q (ú i l.length++rest) a w
 |[],i,σ,a,w,S,γ,hl,hR,hc,h=>hn _ _ _ _ _ hR hc h
 |o::l,i,σ,a,w,S,γ,hl,hR,hc,h=>by
  simp only[j7T]at h;split at h
  .rename_i hd;obtain⟨ho,hg⟩:=hl 0 o rfl;have hw:Ù o (yielded ops a.tmps)=true:=by simp[Ù,hg]
   simp only[List.length_cons,List.range'_succ,List.cons_append,wpOpsIn,show ops[i]? = O o from ho,hw,if_true];refine jni (.inl rfl) (λ_ _ h=>h) (jby hT hC hR (act:=[]) (λg hg=>by simp at hg) (p:=Y) (λ_=>hc) hd h (λσ' a' w' S' γ' hR' hc' hk=>?_));exact jqp hT hC hn l (i+1) (λj o' hj=>by rw[show i+1+j=i+(j+1) by omega];exact hl (j+1) o' (by simpa using hj)) hR' (hc' rfl) hk
  .simp at h
theorem jfb{N:NT}{np:U}{fx:U->I Å}{σ:St}{a:Ê}{W:Ä}{S:j09}(hsz:a.tmps.size=N.n)(hd:a.defers=[])(hfree:∀k,σ.bx k = .free)(hS:∀g o,S g o->g<W.heap.size)
  (hslot:∀i,j4i S W (λ_=>undef) σ.bx (tm a) (σ.sl i) (tm a i))(hfix:∀i v,fx i=O v->N.pin i=Ã/\tm a i=v):Rel N np S W { blks:=[],val:=λ_=>X,fix:=fx } σ a W S (λ_=>undef):=
 ⟨hsz,hd,hslot,λk b h=>by simp_all,λk b g h=>by simp_all,λk k' b b' g _ h=>by simp_all,λ_ _ h=>h,λ_ _ h=> .inl h,hS,λ_ _ _=>rfl,û _,rfl,rfl,rfl,
  λk v h=>by simp at h,λg o h=>by simp at h,hfix⟩
theorem jcz{N:NT}{np:U}{fx:U->I Å}{σ:St}{a:Ê}{w:Ä}{S:j09}{γ:U->Å}(hR:Rel N np S0 w0 { blks:=[],val:=λ_=>X,fix:=fx } σ a w S γ):Grew w0 w:=
 ⟨λg hg=>hR.below g hg (λh=>by have h:g∈([]:D U):=h;simp at h),hR.grow,hR.os,hR.tape,hR.output⟩
theorem jp4{P:Z}{a:Ê}{w:Ä}{o:á}{cl:Call}(ho:o.op = .call cl){x:Operand}(hc:cl.callee = .value x){l:U}(hx:a.eval x = .func (.yield l) #[] #[]){nx:Next}{w':Ä}
  (hy:(Instr.yield l (cl.args.map a.eval)).run P w = .ok nx w'):(execOp a.eval o).run P w = .ok nx w':=by
 simp_all[execOp,resolve,Deferred.ofValue,invoke]
def bwE(T:U->I TyI):Env:=
 { N:=⟨19,λi=>i==0||(i==1||i==11)⟩,np:=0,T:=T,C:=λ_ _ _ _=>X,modes:=λ_=>[],L:=λ_ _ _ _=>X,keep:=λ_=>⟨[],[],[]⟩,keepX:=λ_ _=>⟨[],[],[]⟩,ro:=[] }
def slF(l:D (U×Cel)):St:={ sl:=λj=>match l.find? (λx=>x.1==j) with|some x=> .one x.2|none=> .one (.one .dead),bx:=λ_=> .free }
def g3(σ:St):I Int:=match σ.sl 3 with
 |.one (.one (.d (.int .i64) v))=>O v
 |_=>X
def g1(σ:St):I (Ç×É):=match σ.sl 8,σ.sl 3 with
 |.one (.one (.d .bool b)),.one (.one (.d (.int .i64) v))=>O (b,v)
 |_,_=>X
def g18(σ:St):I (Ç×É):=match σ.sl 18,σ.sl 3 with
 |.one (.one (.d .bool b)),.one (.one (.d (.int .i64) v))=>O (b,v)
 |_,_=>X
def g16(t:Ty)(σ:St):I (É×t.den×É):=match σ.sl 12,σ.sl 16,σ.sl 3 with
 |.one (.one (.d (.int .i64) u)),.one c,.one (.one (.d (.int .i64) v))=>match jeD (λ_=> .gone) t c with
  |some (x,[])=>O (u,x,v)
  |_=>X
 |_,_,_=>X
def lstP(t:Ty)(xs:D t.den):Cel:= .one (.ip [⟨.list t,xs⟩])
def intP(i:É):Cel:= .one (.d (.int .i64) i)
theorem jkP(l:D (U×Cel)):j2z (slF l):=λi=>by
 simp only[slF];split<;>rfl
theorem jy5{np:U}{σ:St}:RdF np σ (λ_=> .gone):=⟨λ_=> .inr rfl,λk e a xs f h=>by simp at h⟩
theorem jhz{S:j09}{W:Ä}{γ:U->Å}{l:D (U×Cel)}{tmf:U->Å}(h:∀x∈l,j0m S W γ (λ_=> .free) x.2 (tmf x.1))(i:U):j4i S W γ (λ_=> .free) tmf ((slF l).sl i) (tmf i):=by
 simp only[slF];split
 .rename_i x hx;have:=h x (List.mem_of_find?_eq_some hx);have e:=List.find?_some hx;simp only[beq_iff_eq]at e;rw[<-e];exact this
 .exact⟨trivial,λh=>absurd rfl h⟩
theorem jvt{P:Z}{T:U->I TyI}(hT:j1K P T){rid n:U}{A:Ü á}{σ:St}{fx:U->I Å}{a:Ê}{w:Ä}{S:j09}{γ:U->Å}{R:Type}{k:St->I R}{r:R}
  (hR:Rel (bwE T).N (bwE T).np S0 w0 { blks:=[],val:=λ_=>X,fix:=fx } σ a w S γ)(hc:j2z σ)(h:jaP (bwE T) A σ k=O r) :
  (Â rid A Y).wpIn (FR X) n P (λe a' w'=>e = .normal/\∃σ' S' γ',Rel (bwE T).N (bwE T).np S0 w0 { blks:=[],val:=λ_=>X,fix:=fx } σ' a' w' S' γ'/\k σ'=O r) a w:=
 wpIn_region (jhu (.inl rfl) (by rintro⟨a,w,h,_⟩;cases h) _ _ _ (joI hT (λf=>jkN) hR hc (λσ' a' w' S' γ' hR' _ hk=>⟨rfl,σ',S',γ',hR',hk⟩) h))
theorem jC4{σ:St}{v:É}(h:g3 σ=O v):σ.sl 3 = .one (.one (.d (.int .i64) v)):=by
 grind[g3]
theorem jDC{σ:St}{b:Ç}{v:É}(h:g1 σ=O (b,v)):σ.sl 8 = .one (.one (.d .bool b))/\σ.sl 3 = .one (.one (.d (.int .i64) v)):=by
 grind[g1]
theorem jC5{σ:St}{b:Ç}{v:É}(h:g18 σ=O (b,v)):σ.sl 18 = .one (.one (.d .bool b))/\σ.sl 3 = .one (.one (.d (.int .i64) v)):=by
 grind[g18]
theorem jC6{t:Ty}{σ:St}{i:É}{x:t.den}{v:É}(h:g16 t σ=O (i,x,v)):σ.sl 12 = .one (.one (.d (.int .i64) i))/\σ.sl 3 = .one (.one (.d (.int .i64) v))/\∃c,σ.sl 16 = .one c/\jeD (λ_=> .gone) t c=O (x,[]):=by
 grind[g16]
theorem jg1{N:NT}{np:U}{σ:St}{a:Ê}{w:Ä}{S:j09}{γ:U->Å}(hR:Rel N np S0 w0 refs σ a w S γ){s:U}{v:É}(h:σ.sl s = .one (.one (.d (.int .i64) v))):tm a s = .int .i64 v:=by
 have:=hR.slot s;rw[h]at this;have h1:[a.tmps.getD s undef]=[Value.int .i64 v]:=this.1;simpa[tm]using h1
theorem jp5{N:NT}{np:U}{σ:St}{a:Ê}{w:Ä}{S:j09}{γ:U->Å}(hR:Rel N np S0 w0 refs σ a w S γ){s:U}{v:Ç}(h:σ.sl s = .one (.one (.d .bool v))):tm a s = .bool v:=by
 have:=hR.slot s;rw[h]at this;have h1:[a.tmps.getD s undef]=[Value.bool v]:=this.1;simpa[tm]using h1
theorem jDD{P:Z}{T:U->I TyI}(hT:j1K P T){f:U}{t:Ty}{fn:ï}(hf:P.funcs[f]? = O fn){r0 b0 r1 b1 r3 r2:U}{A0 A1 A2:Ü á}{o0 o6 o7:á}{l3:D á}{cl:Call}
  (hb:fn.body=O ((Â r0 A0 Y).seq (Û b0 ((((Â r1 A1 Y).seq (Ó (.tmp 8) .skip (.exit b0))).seq ((Û b1 ((Â r3 (o0::(l3++[o6,o7])).toArray Y).seq (Ó (.tmp 18) .ret .skip))).seq (Â r2 A2 Y))).loop))))
  (hnt : fn.ntmps = 19) (hres : fn.results = #[]) (hnm : (fn.name == "runtime.NumGoroutine") = Y) (hl3 : l3.length = 5) (hbare : (o0 :: (l3 ++ [o6, o7])).all (fun o => o.guard.isNone) = Ã)
  (h0op:o0.op = .move (.tmp 0))(h0d:o0.dst=O 11)(h6op:o6.op = .call cl)(h6c:cl.callee = .value (.tmp 11))(h6a:cl.args = #[.tmp 12,.tmp 16])(h6d:o6.dst=O 17)
  (e0:∀xs:D t.den,jaP (bwE T) A0 (slF [(1,lstP t xs)]) g3=O (w64 (Int.ofNat (Ì xs)-1)))
  (e1:∀i:É,jaP (bwE T) A1 (slF [(3,intP i)]) g1=O (Î (i>=0),i))
  (e2:∀i:É,jaP (bwE T) A2 (slF [(3,intP i)]) g3=O (w64 (i-1)))
  (e3:∀(xs:D t.den)(i:É),j7T (bwE T) l3 (slF [(1,lstP t xs),(3,intP i)]) (g16 t)=cond (inR i (Ì xs)) (O (i,ð xs (Int.toNat i) t.dflt,i)) X)
  (e7:∀(b:Ç)(i:É),j7T (bwE T) [o7] (slF [(17,.one (.d .bool b)),(3,intP i)]) g18=O (!b,i)):BwOK P f t:=by
 refine⟨⟨fn,hf,by rw[hb];rfl,hnm⟩,?_⟩;intro cv m l J Jx W S hst hstx hhere hY hstart hJ0;have hC:j7R P (bwE T).C:=λf=>jkN;obtain⟨S0,xs0,hm,hS0,hcap0⟩:=hstart
 obtain⟨z0,hz0⟩:∃z0,cv = #[z0]:=by
  have:=hcap0.length;obtain⟨cl⟩:=cv;match cl,this with
  |[z],_=>exact⟨z,rfl⟩
 subst hz0;refine callsIn_of_wp hf hb trivial ?_;rw[hnt];obtain⟨yv,hyv⟩:∃yv,yv=Value.func (.yield l) #[] #[]:=⟨_,rfl⟩;obtain⟨R,hR⟩:∃R:Ending->Ä->Prop,R=λe W'=>(∃v,e = .returned v)/\((∃S',J m S' W')\/Jx W'):=⟨_,rfl⟩;rw[<-hyv,<-hR];let fx:U->I Value:=λi=>if i=0 then O yv else if i=1 then O z0 else X
 let Fr:Ê->Prop:=λa=>a.tmps.size=19/\a.defers=[]/\tm a 0=yv/\tm a 1=z0
 let ü:Ê->Ä->Prop:=λa W=>Fr a/\∃j S,j<=m/\J j S W/\tm a 3 = .int .i64 ((m:É)-1-j)
 let μ:Ê->Ä->Nat:=λa W=>match tm a 3 with
  |.int _ v=>(v+1).toNat
  |_=>0
 have hfin:∀{a:Ê}{W':Ä},a.defers=[]->((∃S',J m S' W')\/Jx W')->a.defers=[]/\∃v,(results fn a.tmps).run P W' = .ok v W'/\R (.returned v) W':=by intro a W' hd h;exact⟨hd,_,results_none hres _ _ _,by simp_all⟩
 have hfr:∀{σ:St}{a:Ê}{w w0:Ä}{S S0:j09}{γ:U->Å},Rel (bwE T).N (bwE T).np S0 w0 { blks:=[],val:=λ_=>X,fix:=fx } σ a w S γ->Fr a:=λhR=>
  ⟨hR.size,hR.defers,(hR.fix 0 yv rfl).2,(hR.fix 1 z0 rfl).2⟩
 have hfixI:∀{a:Ê},Fr a->∀i v,fx i=O v->(bwE T).N.pin i=Ã/\tm a i=v:=by
  intro a ha i v hv;simp only[fx]at hv;split at hv
  .rename_i e;subst e;simp only[j5]at hv;subst hv;exact⟨rfl,ha.2.2.1⟩
  .split at hv
   .rename_i _ e;subst e;simp only[j5]at hv;subst hv;exact⟨rfl,ha.2.2.2⟩
   .simp at hv
 have same:∀{j:U}{S:j09}{W W':Ä},J j S W->Grew W W'->jt5 S W S W':=λhJ hg=>⟨λ_ _ h=>h,λ_ _ h=> .inl h,λg o h=>ä (hhere _ _ _ hJ g o h) hg.size⟩
 have hmlt:m<=9223372036854775807:=by
  obtain⟨g,o,cs,_,hall,_⟩:=hcap0.1;match cs,hall with
  |[z],hall=>obtain⟨ad,cap,_,h1,h2,_⟩:=hall.1;grind[maxLen]
 obtain⟨a0,ha0⟩:∃a0:Ê,a0={ tmps:=#[yv] ++ #[z0]++Array.replicate (19-(#[yv] ++ #[z0]).size) undef,defers:=[] }:=⟨_,rfl⟩;rw[<-ha0]
 have hFr0:Fr a0:=by
  subst ha0;refine⟨?_,rfl,?_,?_⟩
  .simp
  .simp[tm]
  .simp[tm]
 have hstart:Rel (bwE T).N (bwE T).np S0 W { blks:=[],val:=λ_=>X,fix:=fx } (slF [(1,lstP t xs0)]) a0 W S0 (λ_=>undef):=
  jfb hFr0.1 hFr0.2.1 (λ_=>rfl) hS0 (jhz (λx hx=>by
   simp only[å]at hx;subst hx;rw[hFr0.2.2.2];exact⟨hcap0.1,λ_=>by obtain⟨g,o,cs,hu,_⟩:=hcap0.1;rw[hu];rfl⟩)) (hfixI hFr0)
 refine wpIn_seq (wpIn_mono (jvt hT hstart (jkP _) (e0 xs0)) ?_)
 rintro e a W1 ⟨rfl,σ1,S1,γ1,hR1,hk1⟩
 show (Û b0 _).wpIn _ _ _ _ _ _;have h3:=jg1 hR1 (jC4 hk1);refine wpIn_block (wpIn_loop ü μ ⟨hfr hR1,0,S,Ï _,hst _ _ _ _ _ (jcz hR1) (same hJ0 (jcz hR1)) hJ0,?_⟩ ?_)
 .grind[j4N]
 .rintro a W ⟨hFr,j,S,hjm,hJ,h3⟩
  have hint:∀{a:Ê}{W:Ä}{S:j09}{v:É},tm a 3 = .int .i64 v->j0m S W (λ_=>undef) (λ_=> .free) (intP v) (tm a 3):=λh=>by rw[h];exact⟨rfl,λ_=>rfl⟩
  have hRs:Rel (bwE T).N (bwE T).np S W { blks:=[],val:=λ_=>X,fix:=fx } (slF [(3,intP ((m:É)-1-j))]) a W S (λ_=>undef):=
   jfb hFr.1 hFr.2.1 (λ_=>rfl) (hhere _ _ _ hJ) (jhz (λx hx=>by
    grind)) (hfixI hFr)
  refine wpIn_seq (wpIn_seq (wpIn_mono (jvt hT hRs (jkP _) (e1 _)) ?_))
  rintro e a1 W1 ⟨rfl,σ1,S1,γ1,hR1,hk1⟩
  obtain⟨h8,h31⟩:=jDC hk1;have h31:=jg1 hR1 h31;have h8:a1.eval (.tmp 8) = .bool (Î ((m:É)-1-j>=0)):=jp5 hR1 h8;have hJ1:=hst _ _ _ _ _ (jcz hR1) (same hJ (jcz hR1)) hJ;have hFr1:=hfr hR1;show (Ó _ _ _).wpIn _ _ _ _ _ _;by_cases hpos:(m:É)-1-j>=0
  case neg=>rw[decide_eq_false hpos]at h8;refine wpIn_cond_false h8 (wpIn_exit ?_);show À b0 (bodyPost P fn R) (.exit b0) a1 W1;simp only[À,if_true];have hj:j=m:=omg_;subst hj;exact hfin hFr1.2.1 (.inl ⟨S,hJ1⟩)
  case pos=>
  rw[decide_eq_true hpos]at h8;refine wpIn_cond_true h8 (wpIn_skip ?_);show (Code.seq _ _).wpIn _ _ _ _ _ _;have hjlt:j<m:=omg_;obtain⟨xs,hcap,hlen,hyl⟩:=hY j S W1 hjlt hJ1;refine wpIn_seq (wpIn_block (wpIn_seq (wpIn_region ?_)));obtain⟨ops,hops⟩:∃ops,ops=(o0::(l3++[o6,o7])).toArray:=⟨_,rfl⟩;rw[<-hops];have hat:∀k,ops[k]? = (o0::(l3++[o6,o7]))[k]? := λk=>by rw[hops];exact List.getElem?_toArray
  have hgd:∀o∈o0::(l3++[o6,o7]),o.guard=none:=λo ho=>by have:=List.all_eq_true.1 hbare o ho;simpa using this
  have hsz:ops.size=8:=by rw[hops];simp[hl3]
  have hw:∀(o:á)(a:Ê),o∈o0::(l3++[o6,o7])->Ù o (yielded ops a.tmps)=true:=λo a ho=>by simp[Ù,hgd o ho]
  rw[hsz,show ã 8=0::(ú 1 l3.length++[6,7]) by rw[hl3];rfl];have hop0:ops[0]? = O o0:=by rw[hat];rfl
  simp only[wpOpsIn,hop0,hw o0 _ (List.mem_cons_self ..),if_true];refine jni (.inl rfl) (λ_ _ h=>h) ?_;unfold Oper.wp;rw[show (execOp a1.eval o0).run P W1 = .ok (.value (a1.eval (.tmp 0))) W1 by simp[execOp,h0op,go_sem],Oper.upon_value,h0d];have he0:a1.eval (.tmp 0)=yv:=hFr1.2.2.1;rw[he0];have hlt11:11<a1.tmps.size:=by rw[hFr1.1];omega
  obtain⟨a2,ha2⟩:∃a2,a2=a1.put (O 11) yv:=⟨_,rfl⟩;rw[<-ha2];have htm2:∀i,tm a2 i=if i=11 then yv else tm a1 i:=λi=>by rw[ha2];exact jdx hlt11 yv i
  have hFr2:Fr a2:=⟨by rw[ha2,j8i];exact hFr1.1,by rw[ha2,j8N];exact hFr1.2.1,by rw[htm2];exact hFr1.2.2.1,by rw[htm2];exact hFr1.2.2.2⟩;let fx2:U->I Value:=λi=>if i=11 then O yv else fx i
  have hR2:Rel (bwE T).N (bwE T).np S W1 { blks:=[],val:=λ_=>X,fix:=fx2 } (slF [(1,lstP t xs),(3,intP ((m:É)-1-j))]) a2 W1 S (λ_=>undef):=
   jfb hFr2.1 hFr2.2.1 (λ_=>rfl) (hhere _ _ _ hJ1) (jhz (λx hx=>by
    simp only[ñ,é,or_false]at hx;rcases hx with rfl|rfl
    .rw[hFr2.2.2.2];exact⟨hcap.1,λ_=>by obtain⟨g,o,cs,hu,_⟩:=hcap.1;rw[hu];rfl⟩
    grind)) (λi v hv=>by
     simp only[fx2]at hv;split at hv
     .rename_i e;subst e;simp only[j5]at hv;subst hv;exact⟨rfl,by rw[htm2,if_pos rfl]⟩
     .exact hfixI hFr2 i v hv)
  have hx:∃x,xs[m-1-j]? = O x/\ð xs (Int.toNat ((m:É)-1-j)) t.dflt=x:=by
   simp_all
  obtain⟨x,hx,hxd⟩:=hx;have he3:=e3 xs ((m:É)-1-j)
  rw[hxd,show inR ((m:É)-1-j) (Ì xs)=Ã by
   grind[inR],j6]at he3
  refine jqp hT hC ?_ l3 1 (λk o hk=>⟨?_,?_⟩) hR2 (jkP _) he3
  rotate_left
  .rw[hat,õ,List.getElem?_cons_succ,Í (List.getElem?_eq_some_iff.1 hk).1];exact hk
  .exact hgd o (List.mem_cons_of_mem _ (Ò _ (â hk)))
  intro σ3 a3 W3 S3 γ3 hR3 _ hk3;obtain⟨h12,h33,c,h16,hd16⟩:=jC6 hk3;have h12:=jg1 hR3 h12;have h33:=jg1 hR3 h33;have hv16:VRep S3 W3 ⟨t,x⟩ (tm a3 16):=by have:=hR3.slot 16;rw[h16]at this;exact(jds (np:=(bwE T).np) jy5 hR3.box hd16 this).2.1 S3 W3 (.refl _ _) (λy hy=>by simp at hy)
  have hg3:=jcz hR3;have h11:tm a3 11=yv:=(hR3.fix 11 yv rfl).2;have hFr3:Fr a3:=⟨hR3.size,hR3.defers,(hR3.fix 0 yv rfl).2,(hR3.fix 1 z0 rfl).2⟩;obtain⟨fn6,tmps6,as6,bo6,hy6,hround⟩:=hyl S3 W3 x _ hg3 ⟨hR3.ext,λg o h=>(hR3.new g o h).imp id λh=>h.nil rfl,hR3.here⟩ hx hv16;have hop6:ops[6]? = O o6:=by simp_all
  have hop7:ops[7]? = O o7:=by simp_all
  simp only[wpOpsIn,hop6,hw o6 _ smp_,if_true];refine⟨λ_ _=>trivial,?_⟩
  have hrun:(execOp a3.eval o6).run P W3 = .ok (.round l fn6 tmps6 as6 bo6) W3:=by
   refine jp4 h6op h6c (l:=l) (by rw[<-hyv];exact h11) ?_;rw[h6a];have e12:a3.eval (.tmp 12) = .int .i64 ((m-1-j:U):É):=by rw[show ((m-1-j:U):É)=(m:É)-1-j by omega];exact h12
   have e16:a3.eval (.tmp 16)=tm a3 16:=rfl
   simp_all
  rw[show o6.semAt (FR X).round a3.eval=execOp a3.eval o6 from rfl,hrun,Oper.uponIn_round];refine⟨λhd=>by simp[FR,Fence.wide]at hd,?_⟩;refine RoundIn.mono ⟨hround.1,λc cs _=>hround.2 c cs (jv0 _ _)⟩ ?_;have hlt17:17<a3.tmps.size:=by rw[hFr3.1];omega
  have rest:∀(bb:Ç)(W4:Ä)(S4:j09),(∀g o,S4 g o->g<W4.heap.size)->
    (∀a5 W5,Fr a5->Grew W4 W5->tm a5 18 = .bool (!bb)->tm a5 3 = .int .i64 ((m:É)-1-j)->(Exit.then ((Ó (.tmp 18) .ret .skip).wpIn (FR X) 0 P (À b1 (Exit.then ((Â r2 A2 Y).wpIn (FR X) 0 P (Exit.then (λa' W'=>ü a' W'/\μ a' W'<μ a W) (À b0 (bodyPost P fn R))))
     (Exit.then (λa' W'=>ü a' W'/\μ a' W'<μ a W) (À b0 (bodyPost P fn R)))))) (À b1 (Exit.then ((Â r2 A2 Y).wpIn (FR X) 0 P (Exit.then (λa' W'=>ü a' W'/\μ a' W'<μ a W) (À b0 (bodyPost P fn R))))
     (Exit.then (λa' W'=>ü a' W'/\μ a' W'<μ a W) (À b0 (bodyPost P fn R)))))) .normal a5 W5)->
    wpOpsIn (FR X) 0 P ops (Exit.then ((Ó (.tmp 18) .ret .skip).wpIn (FR X) 0 P (À b1 (Exit.then ((Â r2 A2 Y).wpIn (FR X) 0 P (Exit.then (λa' W'=>ü a' W'/\μ a' W'<μ a W) (À b0 (bodyPost P fn R))))
     (Exit.then (λa' W'=>ü a' W'/\μ a' W'<μ a W) (À b0 (bodyPost P fn R)))))) (À b1 (Exit.then ((Â r2 A2 Y).wpIn (FR X) 0 P (Exit.then (λa' W'=>ü a' W'/\μ a' W'<μ a W) (À b0 (bodyPost P fn R))))
     (Exit.then (λa' W'=>ü a' W'/\μ a' W'<μ a W) (À b0 (bodyPost P fn R)))))) [7] (a3.put o6.dst (.bool bb)) W4:=by
   intro bb W4 S4 hS4 hnext;rw[h6d];obtain⟨a4,ha4⟩:∃a4,a4=a3.put (O 17) (.bool bb):=⟨_,rfl⟩;rw[<-ha4];have htm4:∀i,tm a4 i=if i=17 then .bool bb else tm a3 i:=λi=>by rw[ha4];exact jdx hlt17 _ i
   have hFr4:Fr a4:=⟨by rw[ha4,j8i];exact hFr3.1,by rw[ha4,j8N];exact hFr3.2.1,by rw[htm4];exact hFr3.2.2.1,by rw[htm4];exact hFr3.2.2.2⟩
   have hR4:Rel (bwE T).N (bwE T).np S4 W4 { blks:=[],val:=λ_=>X,fix:=fx } (slF [(17,.one (.d .bool bb)),(3,intP ((m:É)-1-j))]) a4 W4 S4 (λ_=>undef):=
    jfb hFr4.1 hFr4.2.1 (λ_=>rfl) hS4 (jhz (λx hx=>by
     simp only[ñ,é,or_false]at hx;rcases hx with rfl|rfl
     .rw[htm4,if_pos rfl];exact⟨rfl,λ_=>rfl⟩
     .exact hint (by rw[htm4];exact h33))) (hfixI hFr4)
   refine jqp (rest:=[]) hT hC (λσ5 a5 W5 S5 γ5 hR5 _ hk5=>?_) [o7] 7 (λk o hk=>?_) hR4 (jkP _) (e7 bb _)
   .obtain⟨q1,q2⟩:=jC5 hk5;exact hnext a5 W5 (hfr hR5) (jcz hR5) (jp5 hR5 q1) (jg1 hR5 q2)
   .cases k with
    |zero=>simp at hk;subst hk;exact⟨hop7,hgd _ smp_⟩
    |succ k=>simp at hk
  rintro e W4 (⟨rfl,S4,hJ4⟩|⟨rfl,hx4⟩)
  .refine rest Ã W4 S4 (hhere _ _ _ hJ4) (λa5 W5 hFr5 hg5 h18 h35=>?_);refine wpIn_cond_false (c:= .tmp 18) h18 (wpIn_skip ?_);show (Â r2 A2 Y).wpIn _ _ _ _ _ _;have hJ5:=hst _ _ _ _ _ hg5 (same hJ4 hg5) hJ4
   have hR5:Rel (bwE T).N (bwE T).np S4 W5 { blks:=[],val:=λ_=>X,fix:=fx } (slF [(3,intP ((m:É)-1-j))]) a5 W5 S4 (λ_=>undef):=
    jfb hFr5.1 hFr5.2.1 (λ_=>rfl) (hhere _ _ _ hJ5) (jhz (λx hx=>by
     simp only[å]at hx;subst hx;exact hint h35)) (hfixI hFr5)
   refine wpIn_mono (jvt hT hR5 (jkP _) (e2 _)) ?_
   rintro e a6 W6 ⟨rfl,σ6,S6,γ6,hR6,hk6⟩
   have h36:=jg1 hR6 (jC4 hk6);rw[j4N omg_ omg_]at h36;refine⟨⟨hfr hR6,j+1,S4,omg_,hst _ _ _ _ _ (jcz hR6) (same hJ5 (jcz hR6)) hJ5,?_⟩,?_⟩
   .rw[h36];congr 1;push_cast;omega
   .simp only[μ,h36,h3];omega
  .refine rest Y W4 (λ_ _=>False) (λ_ _ h=>h.elim) (λa5 W5 hFr5 hg5 h18 h35=>?_);refine wpIn_cond_true (c:= .tmp 18) h18 (wpIn_ret ?_);exact hfin hFr5.2.1 (.inr (hstx _ _ hg5 hx4))
def jbK:Ñ->D (U×Ü á)
 |.seq x y=>jbK x++jbK y
 |.cond _ x y=>jbK x++jbK y
 |.block _ c=>jbK c
 |.loop c=>jbK c
 |.region id ops _=>[(id,ops)]
 |_=>[]
def bwA(fn:ï)(i:U):Ü Oper:=(((jbK (fn.body.getD .skip)).find? λx=>x.1==i).getD (0, #[])).2
def opAt(A:Ü á)(i:U):Oper:=(A[i]?).getD default
def jvu(o:á):Call:=match o.op with
 |.call c=>c
 |_=>default
theorem jC7{P:Z}{T:U->I TyI}(hT:j1K P T){f:U}{t:Ty}{fn:ï}(hf:P.funcs[f]? = O fn){A0 A1 A2 A3:Ü á}
  (hb:fn.body=O ((Â 0 A0 Y).seq (Û 0 ((((Â 1 A1 Y).seq (Ó (.tmp 8) .skip (.exit 0))).seq ((Û 1 ((Â 3 A3 Y).seq (Ó (.tmp 18) .ret .skip))).seq (Â 2 A2 Y))).loop))))
  (hA:A3=(opAt A3 0::((A3.toList.drop 1).take 5++[opAt A3 6,opAt A3 7])).toArray)
  (hnt : fn.ntmps = 19) (hres : fn.results = #[]) (hnm : (fn.name == "runtime.NumGoroutine") = Y) (hl3 : ((A3.toList.drop 1).take 5).length = 5) (hbare : (opAt A3 0 :: ((A3.toList.drop 1).take 5 ++ [opAt A3 6, opAt A3 7])).all (fun o => o.guard.isNone) = Ã)
  (h0op:(opAt A3 0).op = .move (.tmp 0))(h0d:(opAt A3 0).dst=O 11)(h6op:(opAt A3 6).op = .call (jvu (opAt A3 6)))(h6c:(jvu (opAt A3 6)).callee = .value (.tmp 11))(h6a:(jvu (opAt A3 6)).args = #[.tmp 12,.tmp 16]/\(opAt A3 6).dst=O 17)
  (e0:∀xs:D t.den,jaP (bwE T) A0 (slF [(1,lstP t xs)]) g3=O (w64 (Int.ofNat (Ì xs)-1)))
  (e1:∀i:É,jaP (bwE T) A1 (slF [(3,intP i)]) g1=O (Î (i>=0),i))
  (e2:∀i:É,jaP (bwE T) A2 (slF [(3,intP i)]) g3=O (w64 (i-1)))
  (e3:∀(xs:D t.den)(i:É),j7T (bwE T) ((A3.toList.drop 1).take 5) (slF [(1,lstP t xs),(3,intP i)]) (g16 t)=cond (inR i (Ì xs)) (O (i,ð xs (Int.toNat i) t.dflt,i)) X)
  (e7:∀(b:Ç)(i:É),j7T (bwE T) [opAt A3 7] (slF [(17,.one (.d .bool b)),(3,intP i)]) g18=O (!b,i)):BwOK P f t:=by
 grind[jDD]
section
variable{P:Z}{E:Env}{ops pre:Ü á}{cl:D U}{τ:U->St}{S0:j09}{w0:Ä}{refs:Ç->Refs}
end
def g7(σ:St):I (Ç×É):=match σ.sl 7,σ.sl 3 with
 |.one (.one (.d .bool b)),.one (.one (.d (.int .i64) v))=>O (b,v)
 |_,_=>X
theorem Grew.trans{w w' w'':Ä}(h:Grew w w')(h':Grew w' w''):Grew w w'':=
 ⟨λg hg=>(h'.old g (ä hg h.size)).trans (h.old g hg),Nat.le_trans h.size h'.size,h'.os.trans h.os,h'.tape.trans h.tape,h'.output.trans h.output⟩
open Go.RowKit Go.WideShapes Go.ChangeShapes
theorem jvv{P:Z}{f:U}{ps:D APat}{ts:D Ty}{F:HL ts->I Ç}(hok:Con.OK P ⟨f,ps,ts,⟨[.v .bool],[]⟩,[.bool],F⟩)(h:HL ts)(hF:F h=O Ã)
  (w:Ä)(S:j09)(vals:D Å)(ha:All2 (jbJ S w) (jjA ps ts h) vals)(hr:j1O (jjA ps ts h) vals=[])(hS:∀g o,S g o->g<w.heap.size)(hu:jkH ps ts (jjA ps ts h)=O h) :
  Calls P f vals.toArray w λe w'=>e = .returned (.bool Ã)/\Below w.heap.size w w':=by
 have:=(hok (jjA ps ts h) Ret O (jfa ⟨[.v .bool],[]⟩ [.bool] Ã) (by
  unfold Con.C;rw[hu];show (F h).bind _=_;rw[hF];rfl)).2
 refine(this w S vals ha (by rw[hr];exact List.nodup_nil) hS).mono ?_
 rintro e w' ⟨ret,hret,v,S',vs,rfl,hok⟩
 simp only[j5]at hret;subst hret;have hrep:All2 (jjz S' w') [.v ⟨.bool,Ã⟩] vs:=hok.rep;refine⟨?_,hok.os,hok.tape,hok.output,hok.grow,λk hk=>hok.below k hk (by rw[hr];simp)⟩;rw[hok.val];match vs,hrep with
 |[u],hrep=>have h1:=hrep.1;have h2:u.cells.toList=[.bool Ã]/\(jdn Ty.bool=Ã->∃cs,u=Value.agg cs)/\(jdn Ty.bool=Y->One u):=h1;have h3:=jdr (h2.2.2 rfl);rw[h2.1]at h3;simp only[List.cons.injEq,and_true]at h3;rw[<-h3];rfl
 |[],hrep=>exact absurd hrep (by simp[All2])
 |_::_::_,hrep=>exact absurd hrep (by simp[All2])
theorem jnx{H:Type}{enc:Õ×Å->H}{P:Z}{f:ï}{s:ChangeSpec}{apart fresh handsOn again:Ç}{W W':Ä}{args:Ü Å}{v:Å}{ds gs:D (ò H)}{before pa pv:D Þ}
  (hW:DataW.Whole enc P f.params.toList s.vars apart W args.toList ds gs before)
  (hres:∀(b:U)(sp:U->Ç)(hd:Ç),ó enc P W' b sp hd f.resultTypes.toList (v.resultList f.resultTypes.size) (s.fn H (ds++gs)).results [])
  (hargs:∀sp:U->Ç,(∀p∈before,sp p.block=Ã)->ó enc P W' 0 sp Ã f.params.toList args.toList (s.fn H (ds++gs)).args pa)
  (hvars:∀sp:U->Ç,(∀p∈before,sp p.block=Ã)->DataW.TrodVars enc P W' sp s.vars (s.fn H (ds++gs)).vars pv)
  (hps:before=pa++pv)(hb:Below W.heap.size W W')
  (hok:∀(j:U)(t:Õ)(r:Å),f.resultTypes[j]? = O t->(v.resultList f.resultTypes.size)[j]? = O r->Ý P W' .any 0 t r) :
  s.post enc P f apart fresh handsOn again W args v W':=by
 have hlt:∀p∈before,p.block<W.heap.size:=λp hp=>hW.lt p hp;have hold:∀p∈before,(λb=>Î (b<W.heap.size)) p.block=true:=λp hp=>by simpa using hlt p hp
 refine⟨ds,gs,before,[],pa,pv,hW,hres _ _ _,hargs _ hold,hvars _ hold,World.keptBut_mono (λp hp=>⟨hp,?_⟩) (hb.frame (· ∈ before)),λ_=>?_⟩
 .rw[hps,List.mem_append]at hp;exact Or.inr hp
 .obtain⟨_,_,_,_,_,hz,hn⟩:=hW;refine⟨hok,_,_,([]++pa)++pv,⟨[]++pa,pv,trodAll_append (hargs _ (λ_ _=>rfl)) (hres _ _ _),hvars _ (λ_ _=>rfl),rfl,?_,?_⟩,?_⟩
  .intro b off hp;have hin:MemPlace.cell b off∈before:=by rw[hps];simpa using hp
   rw[hb.frozen (hlt _ hin)];exact hz b off hin
  .intro ha;have:=hn ha;rw[hps]at this;simpa using this
  .intro p hp _;rw[hps];simpa using hp
open Go.RowKit Go.WideShapes Go.ChangeShapes
def jny(P:Z):U->Õ->Ty->Ç
 |0,_,_=>Y
 |n+1,t,ty=>match P.underlying t with
  |some (.int k)=>Î (ty = .int k)
  |some .bool=>Î (ty = .bool)
  |some .string=>Î (ty = .str)
  |some (.slice e)=>match ty with
   |.list a=>jny P n e a&&Î (P.cellsOf e=a.size)&&Î (0<a.size)
   |_=>Y
  |_=>Y
def Wf:(t:Ty)->t.den->Prop
 |.int k,n=>(Lit.int k n).wf=Ã
 |.bool,_=>ù
 |.str,s=>s.size<=maxLen
 |.unit,_=>ù
 |.wrap a,v=>Wf a v
 |.pair a b,v=>Wf a v.1/\Wf b v.2
 |.list a,xs=>Ì xs<=maxLen/\∀x∈(show D a.den from xs),Wf a x
 |.arr _ _,_=>ù
theorem jjT{α β:Type}{f:α->I β}:∀{l:D α}{ys:D β},l.mapM f=O ys->ys.length=l.length/\∀(i:U)(x:α),l[i]? = O x->∃y,ys[i]? = O y/\f x=O y
 |[],ys,h=>by
  simp at h;subst h;exact⟨rfl,λi x hx=>by simp at hx⟩
 |a::l,ys,h=>by
  rw[í]at h;cases ha:f a with
  |none=>simp[ha]at h
  |some y=>
   cases hl:l.mapM f with
   |none=>simp[ha,hl]at h
   |some zs=>
    simp[ha,hl]at h;subst h;obtain⟨h1,h2⟩:=jjT hl;refine⟨by simp[h1],λi x hx=>?_⟩;cases i with
    |zero=>simp at hx;subst hx;exact⟨y,rfl,ha⟩
    |succ i=>simp at hx;obtain⟨z,hz,hf⟩:=h2 i x hx;exact⟨z,by simpa using hz,hf⟩
theorem jhA{α β:Type}{f g:α->I β}:∀{l:D α}{ys:D β},l.mapM f=O ys->(∀x∈l,∀y,y∈ys->f x=O y->g x=O y)->l.mapM g=O ys
 |[],ys,h,_=>by simpa using h
 |a::l,ys,h,hk=>by
  rw[í]at h ⊢;cases ha:f a with
  |none=>simp[ha]at h
  |some y=>
   cases hl:l.mapM f with
   |none=>simp[ha,hl]at h
   |some zs=>simp[ha,hl]at h;subst h;rw[hk a smp_ y smp_ ha,jhA hl (λx hx z hz hf=>hk x (by simp[hx]) z (by simp[hz]) hf)];rfl
theorem jkQ{α:Type}{Q:U->α->Prop}:∀n,(∀i,i<n->∃x,Q i x)->∃xs:D α,xs.length=n/\∀i x,xs[i]? = O x->Q i x
 |0,_=>⟨[],rfl,λi x h=>by simp at h⟩
 |n+1,h=>by
  obtain⟨xs,hl,hx⟩:=jkQ n (λi hi=>h i omg_);obtain⟨x,hq⟩:=h n omg_;refine⟨xs++[x],by simp[hl],λi y hy=>?_⟩;rcases ö i n with hi|hi
  .rw[Í omg_]at hy;exact hx i y hy
  .have:i=n:=by have:=(List.getElem?_eq_some_iff.1 hy).1;simp[hl]at this;omega
   subst this;rw[Ö omg_,hl,Nat.sub_self]at hy;simp at hy;subst hy;exact hq
theorem jvw{α β:Type}{R:α->β->Prop}:∀{as:D α}{bs:D β},as.length=bs.length->(∀(i:U)(a:α)(b:β),as[i]? = O a->bs[i]? = O b->R a b)->All2 R as bs
 |[],[],_,_=>trivial
 |a::as,b::bs,hl,h=>⟨h 0 a b rfl rfl,jvw (by simpa using hl) λi x y hx hy=>h (i+1) x y (by simpa using hx) (by simpa using hy)⟩
 |[],_::_,hl,_=>by simp at hl
 |_::_,[],hl,_=>by simp at hl
theorem jmD{m:U}:∀{css:D (D Å)},(∀c∈css,c.length=m)->∀{j:U}{v:Å},css.flatten[j]? = O v->∃i r c,j=i*m+r/\r<m/\css[i]? = O c/\c[r]? = O v
 |[],_,j,v,h=>by simp at h
 |c::css,hl,j,v,h=>by
  simp only[List.flatten_cons]at h;have hc:=hl c smp_;rcases ö j c.length with hj|hj
  .rw[Í hj]at h;exact⟨0,j,c,omg_,omg_,rfl,h⟩
  .rw[Ö hj]at h;obtain⟨i,r,c',e,hr,hi,hv⟩:=jmD (λx hx=>hl x (by simp[hx])) h;exact⟨i+1,r,c',by rw[Nat.add_mul];omega,hr,by simpa using hi,hv⟩
def Ext(W W':Ä):Prop:=∀(k:U) x,W.heap[k]? = O x->W'.heap[k]? = O x
theorem Ext.cell{W W':Ä}(h:Ext W W'){a:Addr}{v:Å}(hc:W.cell? a=O v):W'.cell? a=O v:=by
 unfold World.cell? at hc ⊢;split at hc
 .rename_i c _ _ hb;rw[h _ _ hb];exact hc
 .simp at hc
theorem Ext.cells{W W':Ä}(h:Ext W W'){a:Addr}{n:U}{cs:D Å}(hc:W.cells? 0 a n=O cs):W'.cells? 0 a n=O cs:=by
 unfold World.cells? at hc ⊢;simp only[Ï,if_true]at hc ⊢;exact jhA hc λi _ y _ hf=>h.cell hf
theorem jkR{W:Ä}{a:Addr}{n:U}{cs:D Å}(hc:W.cells? 0 a n=O cs):cs.length=n/\∀i v,cs[i]? = O v->W.cell? (a.add i)=O v:=by
 unfold World.cells? at hc;simp only[Ï,if_true]at hc;obtain⟨h1,h2⟩:=jjT hc;simp only[ç]at h1;refine⟨h1,λi v hv=>?_⟩;have hi:i<n:=by rw[<-h1];exact(List.getElem?_eq_some_iff.1 hv).1
 obtain⟨y,hy,hf⟩:=h2 i i (by simp[hi]);rw[hv]at hy;simp at hy;subst hy;exact hf
theorem jmE{W:Ä}{a:Addr}{v:Å}(h:W.cell? a=O v):a.block<W.heap.size/\a.spot=none:=by
 unfold World.cell? at h;split at h
 .rename_i c _ _ hb;refine⟨(Array.getElem?_eq_some_iff.1 hb).1,?_⟩;split at h
  .simp at h
  .rename_i hs;simpa using hs
 .simp at h
def oldS(W:Ä):j09:=λg _=>g<W.heap.size
def jy6{H:Type}(enc:Õ×Å->H)(P:Z)(W:Ä)(held:Ç)(fuel:U)(t:Õ)(ty:Ty)(cs:D Å)(d:ò H)(ps:D Þ):Prop:=
 cs.length=ty.size/\(∃v:ty.den,Rep (oldS W) W ty v cs/\Wf ty v)/\
  ∀W' sp,Ext W W'->(∀q∈ps,sp q.block=Ã)->Á enc P W' 0 sp held fuel t cs=O (d,ps)
section
variable{H:Type}{enc:Õ×Å->H}{P:Z}{W:Ä}{held:Ç}
theorem jvx{a:Addr}{n:U}(hn:0<n):∃q∈MemPlace.row a n,q.block=a.block:=
 ⟨.cell a.block (a.off+0),List.mem_map.2 ⟨0,by simp[hn],rfl⟩,rfl⟩
theorem jqq{n:U}{t e:Õ}{el:Ty}(hu:P.underlying t=O (.slice e))(hsz:P.cellsOf e=el.size)(hpos:0<el.size){fuel:U}{cs:D Å}{d:ò H}{ps:D Þ}
  (ih:∀(m:U)(cs:D Å)(d:ò H)(ps:D Þ),Á enc P W 0 (λ_=>Ã) held m e cs=O (d,ps)->jy6 enc P W held m e el cs d ps)
  (h:Á enc P W 0 (λ_=>Ã) held fuel t cs=O (d,ps)):jy6 enc P W held fuel t (.list el) cs d ps:=by
 cases fuel with
 |zero=>simp[Á]at h
 |succ m=>
  have h':=h;unfold Á at h;rw[hu]at h;split at h;all_goals (try (rename_i heq _;simp at heq;done))
  all_goals (try (rename_i heq;simp at heq;done))
  .rename_i heq;refine⟨rfl,⟨[],⟨X,0,rfl,û _,Ï _,λ_=>rfl,λb hb=>by simp at hb⟩,⟨Ï _,smp_⟩⟩,λW' sp _ _=>?_⟩;unfold Á;rw[hu];exact h
  .rename_i e' a len cap heq;simp only[j5,TypeDesc.slice.injEq]at heq;subst heq;simp only[Ï,true_and,if_true]at h;split at h
   .rename_i hc;cases hel:(ã len).mapM (λi=>(W.cells? 0 (a.add (i*P.cellsOf e)) (P.cellsOf e)).bind (Á enc P W 0 (λ_=>Ã) held m e)) with
    |none=>rw[hel]at h;simp at h
    |some elems=>
     rw[hel]at h;simp only[j4]at h;cases hre:(ã (cap-len)).mapM (λj=>(W.cells? 0 (a.add ((len+j)*P.cellsOf e)) (P.cellsOf e)).bind (Á enc P W 0 (λ_=>Ã) held m e)) with
     |none=>rw[hre]at h;simp at h
     |some rest=>
      rw[hre]at h;simp only[ë,j5,j9]at h;obtain⟨rfl,rfl⟩:=h;obtain⟨l1,g1⟩:=jjT hel;obtain⟨l2,g2⟩:=jjT hre;simp only[ç]at l1 l2
      have one:∀i y,(W.cells? 0 (a.add (i*P.cellsOf e)) (P.cellsOf e)).bind (Á enc P W 0 (λ_=>Ã) held m e)=O y->∃c,W.cells? 0 (a.add (i*P.cellsOf e)) (P.cellsOf e)=O c/\jy6 enc P W held m e el c y.1 y.2:=by
       intro i y hy;cases hc:W.cells? 0 (a.add (i*P.cellsOf e)) (P.cellsOf e) with
       |none=>rw[hc]at hy;simp at hy
       |some c=>rw[hc]at hy;exact⟨c,rfl,ih m c y.1 y.2 hy⟩
      refine⟨rfl,?_,?_⟩
      .have each:∀i,i<len->∃x:el.den×D Å,W.cells? 0 (a.add (i*P.cellsOf e)) (P.cellsOf e)=O x.2/\Rep (oldS W) W el x.1 x.2/\Wf el x.1:=by intro i hi;obtain⟨y,hy,hf⟩:=g1 i i (by simp[hi]);obtain⟨c,hc1,_,⟨v,hv,hw⟩,_⟩:=one i y hf;exact⟨(v,c),hc1,hv,hw⟩
       obtain⟨xs,hxl,hxs⟩:=jkQ len each;have hclen:∀c∈xs.map (·.2),c.length=P.cellsOf e:=by intro c hc;obtain⟨x,hx,rfl⟩:=List.mem_map.1 hc;obtain⟨i,hi⟩:=List.mem_iff_getElem?.1 hx;exact(jkR (hxs i x hi).1).1
       refine⟨xs.map (·.1),?_,?_⟩
       .refine⟨O a,cap,by simp[hxl],by simp[hxl,hc.1],hc.2,smp_,λb hb=>?_⟩;simp only[j5]at hb;subst hb;have hspot:len≠0->a.spot=none:=by intro hl;obtain⟨x,hx⟩:∃x,xs[0]? = O x:=⟨xs[0],Ú omg_⟩;obtain⟨k1,k2⟩:=jkR (hxs 0 x hx).1;obtain⟨v,hv⟩:∃v,x.2[0]? = O v:=⟨x.2[0],Ú omg_⟩;have:=(jmE (k2 0 v hv)).2;simpa[Addr.add]using this
        refine⟨λhne=>hspot (λh0=>hne (by rw[List.map_eq_nil_iff];exact Ô omg_)),xs.map (·.2),jvw smp_ (λi x c hx hc=>?_),λj v hv=>?_⟩
        .simp only[Ø,ß]at hx hc;obtain⟨y,hy,rfl⟩:=hx;obtain⟨z,hz,rfl⟩:=hc;rw[hy]at hz;simp at hz;subst hz;exact(hxs i y hy).2.1
        .obtain⟨i,r,c,hj,hr,hci,hcr⟩:=jmD hclen hv;simp only[Ø,ß]at hci;obtain⟨x,hx,rfl⟩:=hci;have hcell:=(jkR (hxs i x hx).1).2 r v hcr;have hil:i<len:=by rw[<-hxl];exact(List.getElem?_eq_some_iff.1 hx).1
         have hs:=hspot omg_;have hadd:(a.add (i*P.cellsOf e)).add r=⟨a.block,a.off+j,X⟩:=by obtain⟨g,o,s⟩:=a;simp only at hs;subst hs;simp only[Addr.add];split<;>split<;>simp<;>omega
         rw[hadd]at hcell;exact⟨(jmE hcell).1,hcell⟩
       .refine⟨by simp only[List.length_map,hxl];omega,λx hx=>?_⟩;obtain⟨y,hy,rfl⟩:=List.mem_map.1 hx;obtain⟨i,hi⟩:=List.mem_iff_getElem?.1 hy;exact(hxs i y hi).2.2
      .intro W' sp hE hsp
       have keep:∀i y,y∈elems++rest->(W.cells? 0 (a.add (i*P.cellsOf e)) (P.cellsOf e)).bind (Á enc P W 0 (λ_=>Ã) held m e)=O y->
         (W'.cells? 0 (a.add (i*P.cellsOf e)) (P.cellsOf e)).bind (Á enc P W' 0 sp held m e)=O y:=by
        intro i y hy hf;obtain⟨c,hc1,_,_,hk⟩:=one i y hf;rw[hE.cells hc1];exact hk W' sp hE (λq hq=>hsp q (à _ (List.mem_flatMap.2 ⟨y,hy,hq⟩)))
       unfold Á;rw[hu];simp only[Ï,true_and];rw[if_pos hc,jhA hel (λi _ y hy hf=>keep i y (Ò _ hy) hf)];simp only[j4]
       have hrest:(if sp a.block=Ã then (ã (cap-len)).mapM (λj=>(W'.cells? 0 (a.add ((len+j)*P.cellsOf e)) (P.cellsOf e)).bind (Á enc P W' 0 sp held m e)) else O [])=O rest:=by
        split
        .exact jhA hre (λj _ y hy hf=>keep (len+j) y (à _ hy) hf)
        .rename_i hsf;rcases Nat.eq_zero_or_pos ((elems.length+rest.length)*P.cellsOf e) with h0|h0
         .have:rest=[]:=by
           rcases Nat.mul_eq_zero.1 h0 with h|h
           .exact Ô omg_
           .omega
          rw[this]
         .obtain⟨q,hq,hb⟩:=jvx (a:=a) h0;have:=hsp q (Ò _ hq);rw[hb]at this;exact absurd this hsf
       rw[hrest];rfl
   .simp at h
  .simp at h
theorem jmF:∀(n:U)(t:Õ)(ty:Ty),jny P n t ty=Ã->∀(fuel:U)(cs:D Å)(d:ò H)(ps:D Þ),Á enc P W 0 (λ_=>Ã) held fuel t cs=O (d,ps)->
  jy6 enc P W held fuel t ty cs d ps
 |0,_,_,hc,_,_,_,_,_=>by simp[jny]at hc
 |n+1,t,ty,hc,fuel,cs,d,ps,h=>by
  have ih:=jmF n;cases fuel with
  |zero=>simp[Á]at h
  |succ m=>
  have hc0:=hc;unfold jny at hc;split at hc
  .rename_i k hu;have:=of_decide_eq_true hc;subst this;obtain⟨z,rfl,hx,hw⟩:=DataW.trod_int hu h;refine⟨rfl,⟨z,rfl,hw⟩,λW' sp _ _=>?_⟩;simp only[j9]at hx;rw[hx.1,hx.2];exact trod_int_mk m hu hw
  .rename_i hu;have:=of_decide_eq_true hc;subst this;obtain⟨z,rfl,hx⟩:=DataW.trod_bool hu h;refine⟨rfl,⟨z,rfl,trivial⟩,λW' sp _ _=>?_⟩;unfold Á at h ⊢;rw[hu]at h ⊢;exact h
  .rename_i hu;have:=of_decide_eq_true hc;subst this;obtain⟨z,rfl,hx,hw⟩:=DataW.trod_string hu h;refine⟨rfl,⟨z,rfl,hw⟩,λW' sp _ _=>?_⟩;unfold Á at h ⊢;rw[hu]at h ⊢;exact h
  .rename_i e hu;split at hc
   .rename_i a;simp only[è,decide_eq_true_eq]at hc;exact jqq (n:=n) hu hc.1.2 hc.2 (λm cs d ps h=>ih e a hc.1.1 m cs d ps h) h
   .simp at hc
  .simp at hc
end
theorem jg2{P:Z}{W:Ä}{r:Reach}{base:U}{t:Õ}{v:Å}{d:TypeDesc}(hu:P.underlying t=O d)(hd:(∃k,d = .int k)\/d = .bool\/d = .string\/∃e,d = .slice e)(h:Ý P W r base t v):One v:=by
 have hc:Cell.ok P W r base t v:=by unfold Ý at h;rw[hu]at h;rcases hd with⟨k,rfl⟩|rfl|rfl|⟨e,rfl⟩<;>(dsimp only at h;unfold Cell.okWide at h;rw[hu]at h;exact h)
 unfold Cell.ok at hc;rw[hu]at hc;rcases hd with⟨k,rfl⟩|rfl|rfl|⟨e,rfl⟩<;>cases v<;>first|rfl|(exact absurd hc smp_)
theorem jrX{H:Type}{enc:Õ×Å->H}{P:Z}{W:Ä}{n:U}{t:Õ}{ty:Ty}(hchk:jny P n t ty=Ã){r:Reach}{base:U}{v:Å}(hok:Ý P W r base t v){d:ò H}{p:D Þ}
  (h:ÿ enc P W 0 (λ_=>Ã) Ã t v d p) :
  ∃x:ty.den,jbJ (oldS W) W (.v ⟨ty,x⟩) v/\Wf ty x/\∀W' sp,Below W.heap.size W W'->(∀q∈p,sp q.block=Ã)->ÿ enc P W' 0 sp Ã t v d p:=by
 obtain⟨fuel,h⟩:=h;obtain⟨_,⟨x,hx,hw⟩,hk⟩:=jmF n t ty hchk fuel _ d p h;refine⟨x,⟨hx,λhm=>?_,λhm=>?_⟩,hw,λW' sp hb hsp=>⟨fuel,hk W' sp (λk y hy=>by rw[hb.block k (Array.getElem?_eq_some_iff.1 hy).1];exact hy) hsp⟩⟩
 .cases n with
  |zero=>simp[jny]at hchk
  |succ n=>
   unfold jny at hchk;split at hchk
   .have:=of_decide_eq_true hchk;subst this;simp[jdn,Ty.agg]at hm
   .have:=of_decide_eq_true hchk;subst this;simp[jdn,Ty.agg]at hm
   .have:=of_decide_eq_true hchk;subst this;simp[jdn,Ty.agg]at hm
   .split at hchk
    .simp[jdn,Ty.agg]at hm
    .simp at hchk
   .simp at hchk
 .cases n with
  |zero=>simp[jny]at hchk
  |succ n=>
   unfold jny at hchk;split at hchk
   .rename_i k hu;exact jg2 hu (.inl ⟨k,rfl⟩) hok
   .rename_i hu;exact jg2 hu (.inr (.inl rfl)) hok
   .rename_i hu;exact jg2 hu (.inr (.inr (.inl rfl))) hok
   .rename_i e hu;exact jg2 hu (.inr (.inr (.inr ⟨e,rfl⟩))) hok
   .simp at hchk
def OLe{α:Type}(a b:I α):Prop:=∀r,a=O r->b=O r
theorem OLe.refl{α:Type}(a:I α):OLe a a:=λ_ h=>h
theorem OLe.none{α:Type}(a:I α):OLe X a:=λ_ h=>by simp at h
theorem OLe.bind{α β:Type}{a b:I α}{f g:α->I β}(h:OLe a b)(h':∀x,OLe (f x) (g x)):OLe (a.bind f) (b.bind g):=by
 intro r hr;cases a with
 |none=>simp at hr
 |some x=>rw[h x rfl];exact h' x r hr
theorem OLe.cond{α:Type}{c:Ç}{a b a' b':I α}(h:OLe a a')(h':OLe b b'):OLe (cond c a b) (cond c a' b'):=by
 cases c with
 |true=>exact h
 |false=>exact h'
theorem OLe.sumC{α β γ:Type}{x:α ⊕ β}{f f':α->I γ}{g g':β->I γ}(h:∀x,OLe (f x) (f' x))(h':∀x,OLe (g x) (g' x)):OLe (sumC x f g) (Lft.sumC x f' g'):=by
 cases x with
 |inl a=>exact h a
 |inr b=>exact h' b
theorem OLe.loopN{α β:Type}{f g:α->I (α ⊕ β)}(h:∀s,OLe (f s) (g s)):∀(n:U)(s:α),OLe (Lft.loopN f n s) (Lft.loopN g n s)
 |0,_=> .none _
 |n+1,s=>by
  intro r hr;simp only[Lft.loopN]at hr ⊢;cases hf:f s with
  |none=>simp[hf]at hr
  |some x=>
   rw[h s x hf];cases x with
   |inl a=>simp only[hf]at hr;exact OLe.loopN h n a r hr
   |inr b=>simpa[hf]using hr
theorem OLe.loop{α β:Type}{f g:α->I (α ⊕ β)}(n:U)(s:α)(h:∀s,OLe (f s) (g s)):OLe (Lft.loopN f n s) (loopOpt g s):=
 λr hr=>jdB (OLe.loopN h n s r hr)
theorem OLe.loopOpt{α β:Type}{f g:α->I (α ⊕ β)}(s:α)(h:∀s,OLe (f s) (g s)):OLe (Lft.loopOpt f s) (Lft.loopOpt g s):=by
 intro r hr;obtain⟨n,hn⟩:=jdC hr;exact jdB (OLe.loopN h n s r hn)
theorem jrY{α β:Type}{B B':(α->I β)->α->I β}(h:∀g g',(∀a,OLe (g a) (g' a))->∀a,OLe (B g a) (B' g' a)):∀n a,OLe (jeb B n a) (jeb B' n a)
 |0,_=> .none _
 |n+1,a=>h _ _ (jrY h n) a
theorem jnz{α β:Type}{B:(α->I β)->α->I β}(h:∀g g',(∀a,OLe (g a) (g' a))->∀a,OLe (B g a) (B g' a)):∀(k n:U)(a:α),OLe (jeb B n a) (jeb B (n+k) a)
 |k,0,a=> .none _
 |k,n+1,a=>by
  rw[show n+1+k=(n+k)+1 by omega];exact h _ _ (jnz h k n) a
theorem OLe.rec{α β:Type}{B B':(α->I β)->α->I β}(n:U)(a:α)(h:∀g g',(∀a,OLe (g a) (g' a))->∀a,OLe (B g a) (B' g' a))(h':∀g g',(∀a,OLe (g a) (g' a))->∀a,OLe (B' g a) (B' g' a)) :
  OLe (jeb B n a) (jjq B' a):=by
 intro r hr;have h1:=jrY h n a r hr;refine jp3 ⟨n,h1⟩ λm y hy=>?_;have e1:=jnz h' m n a r h1;have e2:=jnz h' n m a y hy;rw[õ m n]at e2;rw[e1]at e2;simpa using e2.symm
end
end Go.Lft
