/- Shapes of arguments and snapshots: what is known of them but the data. Loops. -/
import Derived.Test.YtmlokiiopbjgfaaGreatEELC
import Derived.KernelRfl
import Derived.IntWalk
import Derived.Below
import Derived.ChangeSame
open _root_ renaming List->D,Option->I,Nat->O,Bool->Å,DecidableEq->É,Int->Í,Array->Þ,Inv->ù,True->ü
open Option renaming some->M,none->U,map_eq_some_iff->ß
open Go.DataW renaming trod->X,TrodAll->ñ,Trod->ý
open Go renaming Program->Y,Value->Ã,World->Ä,Act->Ê,TypeId->Ó,MemPlace->Ö,Code->Ü,Oper->á,DataW->æ,Func->î
open Bool renaming false->Z,true->À,and_eq_true->Ï
open Go.Exit renaming inBlock->Á
open Go.Code renaming region->Â,cond->Õ,block->Ý
open List renaming drop_left->Æ,mapM_cons->È,eq_nil_of_length_eq_zero->Ë,append_assoc->Ì,length->Î,getElem?_append_left->Ð,length_append->Ò,mem_append_left->Ô,getElem?_append_right->Ù,getElem?_eq_getElem->Û,mem_append_right->à,range->â,mem_singleton->ä,length_range->ç,getElem?_map->è,not_mem_nil->ê,find?_cons->ë,replicate->ì,getD->ï,mem_cons->ð,isEmpty->ò,range'->ö
open Decidable renaming decide->Ç
open Nat renaming zero_le->Ñ,lt_of_lt_of_le->ã,blt->é,add_comm->ó,lt_or_ge->ô,le_refl->ø
open Go.Value renaming okWide->Ø
open Go.Region renaming wanted->Ú
noncomputable section
set_option linter.unusedVariables false
namespace Go.Lft
inductive CPat where
 |v (t:Ty)
 |p (ts:D Ty)
 deriving É
inductive LPat where
 |dead|nil
 |d (t:Ty)
 |ol (k:O)
 |bp (k c:O)
 |ep (k i c:O)
 |tl (k:O)
 |hd (k:O)
 |ip (ts:D Ty)
 |clo (f:O) (caps:D CPat)
 deriving É
inductive KPat where
 |one (l:LPat)
 |st (ls:D LPat)
 |av (n:O) (a:Ty)
 deriving É
inductive BPat where
 |free|gone
 |cell (ls:D LPat) (frz:Å)
 |lst (e:O) (a:Ty) (frz:Å)
 |arr (n:O) (a:Ty)
 |row (e:O) (a:Ty) (n:O) (ls:D LPat)
 deriving É
inductive IPat where
 |s (c:KPat)
 |b (x:BPat)
 deriving É
abbrev iT:Ty:= .int .i64
abbrev sI:IPat:= .s (.one (.d iT))
abbrev sD(t:Ty):IPat:= .s (.one (.d t))
abbrev sO(k:O):IPat:= .s (.one (.ol k))
abbrev sB(k c:O):IPat:= .s (.one (.bp k c))
abbrev sC(f:O)(l:D CPat):IPat:= .s (.one (.clo f l))
inductive APat where
 |v (t:Ty)
 |ref (ts:D Ty)
 |rl (e:O) (t:Ty)
 |ip (ts:D Ty)
 |clo (f:O) (caps:D CPat)
 |mv (e:O) (t:Ty)
 deriving É
@[reducible] def HL:List Ty->Type
 |[]=>Unit
 |[t]=>t.den
 |t::t'::ts=>t.den×HL (t'::ts)
def ofHL:(ts:D Ty)->HL ts->D TV
 |[],_=>[]
 |[t],h=>[⟨t,h⟩]
 |t::t'::ts,h=>⟨t,h.1⟩::ofHL (t'::ts) h.2
def toHL:(ts:D Ty)->D TV->I (HL ts)
 |[],[]=>M ()
 |[t],[x]=>x.to t
 |t::t'::ts,x::xs=>match x.to t with
  |some v=>match toHL (t'::ts) xs with
   |some r=>M (v,r)
   |none=>U
  |none=>U
 |_,_=>U
theorem jiq:∀{ts:D Ty}{xs:D TV}{h:HL ts},toHL ts xs=M h->xs=ofHL ts h
 |[],[],_,_=>rfl
 |[],_::_,_,h=>by simp[toHL]at h
 |[_],[],_,h=>by simp[toHL]at h
 |[t],[x],hl,h=>by
  simp only[toHL]at h;rw[jcL h];rfl
 |[t],x::y::xs,hl,h=>by simp[toHL]at h
 |_::_::_,[],_,h=>by simp[toHL]at h
 |t::t'::ts,x::xs,hl,h=>by
  simp only[toHL]at h;split at h
  .rename_i v hv;split at h
   .rename_i r hr;simp only[j3]at h;subst h;rw[jcL hv,jiq hr];rfl
   .simp at h
  .simp at h
def capP:Cap->CPat×D TV
 |.v x=>(.v x.t,[x])
 |.p ls=>(.p (ls.map (·.t)),ls)
def jdv:D Cap->D CPat×D TV
 |[]=>([],[])
 |c::cs=>((capP c).1::(jdv cs).1,(capP c).2++(jdv cs).2)
def tv0:TV:=⟨.unit,()⟩
def capF:CPat->D TV->Cap
 |.v _,xs=> .v (xs.headD tv0)
 |.p ts,xs=> .p (xs.take ts.length)
def CPat.n:CPat->O
 |.v _=>1
 |.p ts=>ts.length
def jnj:D CPat->D TV->D Cap
 |[],_=>[]
 |c::cs,xs=>capF c xs::jnj cs (xs.drop c.n)
def jnk:D CPat->O
 |[]=>0
 |c::cs=>c.n+jnk cs
theorem jtN(c:Cap)(r:D TV):capF (capP c).1 ((capP c).2++r)=c/\(capP c).1.n=(capP c).2.length:=by
 cases c<;>grind[capP,capF,CPat.n]
theorem jir:∀(cs:D Cap)(r:D TV),jnj (jdv cs).1 ((jdv cs).2++r)=cs/\jnk (jdv cs).1=(jdv cs).2.length
 |[],r=>⟨rfl,rfl⟩
 |c::cs,r=>by
  simp only[jdv,jnj,jnk,Ì,Ò];have h1:=jtN c ((jdv cs).2++r);have h2:=jir cs r;rw[h1.1,h1.2,Æ,h2.1,h2.2];exact⟨rfl,rfl⟩
def jgV:Leaf->LPat×D TV
 |.dead=>(.dead,[])
 |.nil=>(.nil,[])
 |.d t v=>(.d t,[⟨t,v⟩])
 |.ol k=>(.ol k,[])
 |.bp k c=>(.bp k c,[])
 |.ep k i c=>(.ep k i c,[])
 |.tl k i=>(.tl k,[⟨.int .i64,(i:Í)⟩])
 |.hd k i=>(.hd k,[⟨.int .i64,(i:Í)⟩])
 |.ip ls=>(.ip (ls.map (·.t)),ls)
 |.clo f caps=>(.clo f (jdv caps).1,(jdv caps).2)
def jsv:TV->O
 |⟨.int _,v⟩=>Int.toNat v
 |_=>0
def LPat.n:LPat->O
 |.d _=>1
 |.tl _=>1
 |.hd _=>1
 |.ip ts=>ts.length
 |.clo _ cs=>jnk cs
 |_=>0
def joM:LPat->D TV->Leaf
 |.dead,_=> .dead
 |.nil,_=> .nil
 |.d _,xs=> .d (xs.headD tv0).t (xs.headD tv0).v
 |.ol k,_=> .ol k
 |.bp k c,_=> .bp k c
 |.ep k i c,_=> .ep k i c
 |.tl k,xs=> .tl k (jsv (xs.headD tv0))
 |.hd k,xs=> .hd k (jsv (xs.headD tv0))
 |.ip ts,xs=> .ip (xs.take ts.length)
 |.clo f cs,xs=> .clo f (jnj cs xs)
theorem joN(l:Leaf)(r:D TV):joM (jgV l).1 ((jgV l).2++r)=l/\(jgV l).1.n=(jgV l).2.length:=by
 cases l with
 |ip ls=>simp[jgV,joM,LPat.n]
 |clo f cs=>grind[jir,jgV,joM,LPat.n]
 |_=>exact⟨rfl,rfl⟩
def j6H:D Leaf->D LPat×D TV
 |[]=>([],[])
 |c::cs=>((jgV c).1::(j6H cs).1,(jgV c).2++(j6H cs).2)
def jez:D LPat->D TV->D Leaf
 |[],_=>[]
 |c::cs,xs=>joM c xs::jez cs (xs.drop c.n)
def jeA:D LPat->O
 |[]=>0
 |c::cs=>c.n+jeA cs
theorem jdw:∀(cs:D Leaf)(r:D TV),jez (j6H cs).1 ((j6H cs).2++r)=cs/\jeA (j6H cs).1=(j6H cs).2.length
 |[],r=>⟨rfl,rfl⟩
 |c::cs,r=>by
  simp only[j6H,jez,jeA,Ì,Ò];have h1:=joN c ((j6H cs).2++r);have h2:=jdw cs r;rw[h1.1,h1.2,Æ,h2.1,h2.2];exact⟨rfl,rfl⟩
def celP:Cel->KPat×D TV
 |.one l=>(.one (jgV l).1,(jgV l).2)
 |.st ls=>(.st (j6H ls).1,(j6H ls).2)
 |.av n a xs=>(.av n a,[⟨.list a,xs⟩])
def jjM(a:Ty)(xs:D TV):D a.den:=((xs.headD tv0).to (.list a)).getD []
theorem jcU(a:Ty)(xs:D a.den)(r:D TV):jjM a (⟨.list a,xs⟩::r)=xs:=by
 simp[jjM,TV.to]
def KPat.n:KPat->O
 |.one l=>l.n
 |.st ls=>jeA ls
 |.av _ _=>1
def celF:KPat->D TV->Cel
 |.one l,xs=> .one (joM l xs)
 |.st ls,xs=> .st (jez ls xs)
 |.av n a,xs=> .av n a (jjM a xs)
theorem jtO(c:Cel)(r:D TV):celF (celP c).1 ((celP c).2++r)=c/\(celP c).1.n=(celP c).2.length:=by
 cases c with
 |one l=>have:=joN l r;exact⟨by grind[celP,celF],this.2⟩
 |st ls=>have:=jdw ls r;exact⟨by grind[celP,celF],this.2⟩
 |av n a xs=>exact⟨by grind[celP,celF,jcU],rfl⟩
def bsP:BS->BPat×D TV
 |.free=>(.free,[])
 |.gone=>(.gone,[])
 |.live (.cell ls f)=>(.cell (j6H ls).1 f,(j6H ls).2)
 |.live (.lst e a xs f)=>(.lst e a f,[⟨.list a,xs⟩])
 |.live (.arr n a xs)=>(.arr n a,[⟨.list a,xs⟩])
 |.live (.row e a n ls)=>(.row e a n (j6H ls).1,(j6H ls).2)
def BPat.n:BPat->O
 |.free|.gone=>0
 |.cell ls _=>jeA ls
 |.lst _ _ _=>1
 |.arr _ _=>1
 |.row _ _ _ ls=>jeA ls
def bsF:BPat->D TV->BS
 |.free,_=> .free
 |.gone,_=> .gone
 |.cell ls f,xs=> .live (.cell (jez ls xs) f)
 |.lst e a f,xs=> .live (.lst e a (jjM a xs) f)
 |.arr n a,xs=> .live (.arr n a (jjM a xs))
 |.row e a n ls,xs=> .live (.row e a n (jez ls xs))
theorem juG(c:BS)(r:D TV):bsF (bsP c).1 ((bsP c).2++r)=c/\(bsP c).1.n=(bsP c).2.length:=by
 cases c with
 |free=>exact⟨rfl,rfl⟩
 |gone=>exact⟨rfl,rfl⟩
 |live b=>
  cases b with
  |cell ls f=>have:=jdw ls r;exact⟨by grind[bsP,bsF],this.2⟩
  |lst e a xs f=>exact⟨by grind[bsP,bsF,jcU],rfl⟩
  |arr n a xs=>exact⟨by grind[bsP,bsF,jcU],rfl⟩
  |row e a n ls=>have:=jdw ls r;exact⟨by grind[bsP,bsF],this.2⟩
def itP:Item->IPat×D TV
 |.s c=>(.s (celP c).1,(celP c).2)
 |.b x=>(.b (bsP x).1,(bsP x).2)
def IPat.n:IPat->O
 |.s c=>c.n
 |.b x=>x.n
def itF:IPat->D TV->Item
 |.s c,xs=> .s (celF c xs)
 |.b x,xs=> .b (bsF x xs)
theorem jtP(c:Item)(r:D TV):itF (itP c).1 ((itP c).2++r)=c/\(itP c).1.n=(itP c).2.length:=by
 cases c with
 |s c=>have:=jtO c r;exact⟨by grind[itP,itF],this.2⟩
 |b x=>have:=juG x r;exact⟨by grind[itP,itF],this.2⟩
def jbH:Snap->D IPat×D TV
 |[]=>([],[])
 |c::cs=>((itP c).1::(jbH cs).1,(itP c).2++(jbH cs).2)
def jl9:D IPat->D TV->Snap
 |[],_=>[]
 |c::cs,xs=>itF c xs::jl9 cs (xs.drop c.n)
theorem joO:∀(cs:Snap),jl9 (jbH cs).1 (jbH cs).2=cs
 |[]=>rfl
 |c::cs=>by
  simp only[jbH,jl9];have h1:=jtP c (jbH cs).2;rw[h1.1,h1.2,Æ,joO cs]
def pack(ps:D IPat)(ts:D Ty)(h:HL ts):Snap:=jl9 ps (ofHL ts h)
def jdx(ps:D IPat)(ts:D Ty)(s:Snap):I (HL ts):=
 if (jbH s).1=ps then toHL ts (jbH s).2 else U
theorem jbI{ps:D IPat}{ts:D Ty}{s:Snap}{h:HL ts}(hs:jdx ps ts s=M h):s=pack ps ts h:=by
 grind[jdx,jiq,pack,joO]
def argP:Arg->APat×D TV
 |.v x=>(.v x.t,[x])
 |.ref ls=>(.ref (ls.map (·.t)),ls)
 |.rl e x=>(.rl e x.t,[x])
 |.ip ls=>(.ip (ls.map (·.t)),ls)
 |.clo f cs=>(.clo f (jdv cs).1,(jdv cs).2)
 |.mv e x=>(.mv e x.t,[x])
def APat.n:APat->O
 |.v _=>1
 |.ref ts=>ts.length
 |.rl _ _=>1
 |.ip ts=>ts.length
 |.clo _ cs=>jnk cs
 |.mv _ _=>1
def argF:APat->D TV->Arg
 |.v _,xs=> .v (xs.headD tv0)
 |.ref ts,xs=> .ref (xs.take ts.length)
 |.rl e _,xs=> .rl e (xs.headD tv0)
 |.ip ts,xs=> .ip (xs.take ts.length)
 |.clo f cs,xs=> .clo f (jnj cs xs)
 |.mv e _,xs=> .mv e (xs.headD tv0)
theorem jtQ(c:Arg)(r:D TV):argF (argP c).1 ((argP c).2++r)=c/\(argP c).1.n=(argP c).2.length:=by
 cases c<;>grind[argP,argF,APat.n,jir]
def jis:D Arg->D APat×D TV
 |[]=>([],[])
 |c::cs=>((argP c).1::(jis cs).1,(argP c).2++(jis cs).2)
def jqE:D APat->D TV->D Arg
 |[],_=>[]
 |c::cs,xs=>argF c xs::jqE cs (xs.drop c.n)
theorem joP:∀(cs:D Arg),jqE (jis cs).1 (jis cs).2=cs
 |[]=>rfl
 |c::cs=>by
  simp only[jis,jqE];have h1:=jtQ c (jis cs).2;rw[h1.1,h1.2,Æ,joP cs]
def jgW(ps:D APat)(ts:D Ty)(h:HL ts):D Arg:=jqE ps (ofHL ts h)
def jga(ps:D APat)(ts:D Ty)(s:D Arg):I (HL ts):=
 if (jis s).1=ps then toHL ts (jis s).2 else U
theorem jhD{ps:D APat}{ts:D Ty}{s:D Arg}{h:HL ts}(hs:jga ps ts s=M h):s=jgW ps ts h:=by
 grind[jga,jiq,jgW,joP]
theorem jgb{α β:Type}{f:α->I (α ⊕ β)}:∀{n m:O}{s:α}{x y:β},loopN f n s=M x->loopN f m s=M y->x=y
 |0,_,_,_,_,h,_=>by simp[loopN]at h
 |_+1,0,_,_,_,_,h=>by simp[loopN]at h
 |n+1,m+1,s,x,y,h,h'=>by
  simp only[loopN]at h h';cases hf:f s with
  |none=>simp[hf]at h
  |some r=>
   cases r with
   |inl s'=>simp only[hf]at h h';exact jgb h h'
   |inr z=>simp only[hf,j3]at h h';rw[<-h,<-h']
open Classical in
def loopOpt{α β:Type}(f:α->I (α ⊕ β))(s:α):I β:=
 match loopN f 100000 s with
 |some x=>M x
 |none=>if h:∃x n,loopN f n s=M x then M h.choose else U
theorem ja3{α β:Type}{f:α->I (α ⊕ β)}{s:α}{n:O}{x:β}(h:loopN f n s=M x):loopOpt f s=M x:=by
 unfold loopOpt;split
 .grind[jgb]
 have hx:∃x n,loopN f n s=M x:=⟨x,n,h⟩;grind[jgb]
theorem ja4{α β:Type}{f:α->I (α ⊕ β)}{s:α}{x:β}(h:loopOpt f s=M x):∃n,loopN f n s=M x:=by
 unfold loopOpt at h;split at h
 .grind
 split at h;all_goals grind
theorem jjN{α β:Type}{f:α->I (α ⊕ β)}{s s':α}(h:f s=M (.inl s')):loopOpt f s=loopOpt f s':=by
 cases hq:loopOpt f s' with
 |some x=>obtain⟨n,hn⟩:=ja4 hq;exact ja3 (n:=n+1) (by grind[loopN])
 |none=>
  cases hp:loopOpt f s with
  |none=>rfl
  |some x=>obtain⟨n,hn⟩:=ja4 hp;cases n<;>grind[loopN,ja3]
theorem jla{α β:Type}{f:α->I (α ⊕ β)}{s:α}{x:β}(h:f s=M (.inr x)):loopOpt f s=M x:=
 ja3 (n:=1) (by simp only[loopN,h])
theorem jjO{α β A B:Type}{f:α->I (α ⊕ β)}{g:A->I (A ⊕ B)}{p:A->α}{q:B->β}
  (h:∀a r,g a=M r->f (p a)=M (match r with|.inl a'=> .inl (p a')|.inr b=> .inr (q b))):∀{n:O}{a:A}{x:B},loopN g n a=M x->loopN f n (p a)=M (q x)
 |0,_,_,hn=>by simp[loopN]at hn
 |n+1,a,x,hn=>by
  simp only[loopN]at hn;cases hg:g a with
  |none=>simp[hg]at hn
  |some r=>
   have:=h a r hg;cases r with
   |inl a'=>simp only[hg]at hn;simp only[loopN,this];exact jjO h hn
   |inr b=>grind[loopN]
def sumC{α β γ:Type}(x:α ⊕ β)(f:α->γ)(g:β->γ):γ:=match x with
 |.inl a=>f a
 |.inr b=>g b
structure XD where
 ex:Ex
 ps:D IPat
 ts:D Ty
@[reducible] def XT:List XD->Type
 |[]=>Empty
 |[x]=>HL x.ts
 |x::y::r=>HL x.ts ⊕ XT (y::r)
def jgc:(l:D XD)->XT l->Ex×Snap
 |[],h=>nomatch h
 |[x],h=>(x.ex,pack x.ps x.ts h)
 |x::y::r,h=>match h with
  |.inl a=>(x.ex,pack x.ps x.ts a)
  |.inr b=>jgc (y::r) b
def joQ{R:Type}:(l:D XD)->XT l->(Ex->Snap->I R)->I R
 |[],_,_=>U
 |[x],h,k=>k x.ex (pack x.ps x.ts h)
 |x::y::r,h,k=>sumC h (λa=>k x.ex (pack x.ps x.ts a)) (λb=>joQ (y::r) b k)
theorem jit{R:Type}:∀(l:D XD)(h:XT l)(k:Ex->Snap->I R),joQ l h k=k (jgc l h).1 (jgc l h).2
 |[],h,_=>nomatch h
 |[x],h,k=>rfl
 |x::y::r,h,k=>by
  cases h with
  |inl a=>rfl
  |inr b=>exact jit (y::r) b k
def unX:(l:D XD)->Ex->Snap->I (XT l)
 |[],_,_=>U
 |[x],e,s=>if e=x.ex then jdx x.ps x.ts s else U
 |x::y::r,e,s=>if e=x.ex/\(jbH s).1=x.ps then match jdx x.ps x.ts s with
   |some a=>M (.inl a)
   |none=>U
  else match unX (y::r) e s with
   |some b=>M (.inr b)
   |none=>U
theorem joR:∀(l:D XD)(e:Ex)(s:Snap)(x:XT l),unX l e s=M x->jgc l x=(e,s)
 |[],_,_,_,h=>by simp[unX]at h
 |[x],e,s,h,he=>by
  simp only[unX]at he;split at he
  .rename_i h1;rw[jgc,<-jbI he,h1]
  .simp at he
 |x::y::r,e,s,h,he=>by
  simp only[unX]at he;split at he
  .rename_i h1;split at he
   .rename_i a ha;simp only[j3]at he;subst he;show (x.ex,pack x.ps x.ts a)=(e,s);rw[<-jbI ha,h1.1]
   .simp at he
  .split at he
   .rename_i b hb;simp only[j3]at he;subst he;exact joR (y::r) e s b hb
   .simp at he
structure jcs where
 b:O
 ps:D IPat
 ts:D Ty
 exits:D XD
 step:HL ts->I (HL ts ⊕ XT exits)
def jgd:D jcs->O->Snap->(R:Type)->(Ex->Snap->I R)->I R
 |[],_,_,_,_=>U
 |d::ds,b,s,R,k=>if d.b=b then match jdx d.ps d.ts s with
   |some h=>(loopOpt d.step h).bind λx=>joQ d.exits x k
   |none=>U
  else jgd ds b s R k
theorem jge:∀ds:D jcs,LFun (jgd ds)
 |[]=>λ_ _=>⟨U,λ_ _=>rfl⟩
 |d::ds=>λb s=>by
  simp only[jgd];split
  .split
   .rename_i h _;cases hq:loopOpt d.step h with
    |none=>exact⟨U,λ_ _=>rfl⟩
    |some x=>exact⟨M (jgc d.exits x),λR k=>jit d.exits x k⟩
   .exact⟨U,λ_ _=>rfl⟩
  .exact jge ds b s
theorem joS:∀{l:D (O×Ü)}{x:O×Ü},(l.map (·.1)).Nodup->x∈l->l.find? (λy=>Nat.beq y.1 x.1)=M x
 |[],x,_,h=>by simp at h
 |y::r,x,hn,h=>by
  have hc:=List.nodup_cons.1 (show (y.1::r.map (·.1)).Nodup from hn);rcases List.mem_cons.1 h with rfl|h
  .rw[ë,Nat.beq_refl]
  .have hne:y.1≠x.1:=λe=>hc.1 (e▸List.mem_map.2 ⟨x,h,rfl⟩);rw[ë,beqF hne];exact joS hc.2 h
def uk(E:Env)(d:jcs)(e:Ex)(σ:St):I (HL d.ts ⊕ XT d.exits):=
 match e with
 |.normal=>match j6D E.np (E.keep d.b) σ with
  |some s=>match jdx d.ps d.ts s with
   |some h=>M (.inl h)
   |none=>U
  |none=>U
 |e=>match j6D E.np (E.keepX d.b e) σ with
  |some s=>match unX d.exits e s with
   |some x=>M (.inr x)
   |none=>U
  |none=>U
def ukR(E:Env)(d:jcs)(ps:Þ O)(x y:Ü)(p:I (D Item))(e:Ex)(σ:St):I (HL d.ts ⊕ XT d.exits):=
 match p,e with
 |some q,.normal=>match j6D E.np (E.keep d.b) σ with
  |some s=>match jdx d.ps d.ts (q++s) with
   |some h=>M (.inl h)
   |none=>U
  |none=>U
 |_,e=>cond (pinK ps x y (E.keepX d.b e)) (match j6D E.np (E.keepX d.b e) σ with
  |some s=>match unX d.exits e s with
   |some x=>M (.inr x)
   |none=>U
  |none=>U) U
def jqF(E:Env)(d:jcs)(h:HL d.ts):Ü->I (HL d.ts ⊕ XT d.exits)
 |.rangeFunc g ps x y=>jfJ E d.b g ps x y (pack d.ps d.ts h) (ukR E d ps x y)
 |c=>j0S E (d.b%65536) c (j1i E.np (E.keep d.b) (pack d.ps d.ts h)) (uk E d)
def jmg(E:Env)(c:Ü)(d:jcs):Prop:=∀h,jqF E d h c=d.step h
def outS(d:jcs)(r:HL d.ts ⊕ XT d.exits):Snap ⊕ Ex×Snap:=match r with
 |.inl a=> .inl (pack d.ps d.ts a)
 |.inr x=> .inr (jgc d.exits x)
theorem jtR{E:Env}(hF:CFun E.C)(hz:E.nz=Z)(hL:LFun E.L){g:Operand}{ps:Þ O}{x y:Ü}{d:jcs}(hs:jmg E (.rangeFunc g ps x y) d)(h:HL d.ts)(r:HL d.ts ⊕ XT d.exits):d.step h=M r->
  jf2 E d.b g ps x y (pack d.ps d.ts h)=M (outS d r):=by
 intro hr;obtain⟨o,ho⟩:=jl8 hF hz hL d.b g ps x y (pack d.ps d.ts h);rw[<-hs h]at hr;have h1:M r=_:=hr.symm.trans (ho _ (λz=>ukR E d ps x y z.1 z.2.1 z.2.2));cases o with
 |none=>simp at h1
 |some z=>
  obtain⟨p,e,σ⟩:=z;simp only[j0]at h1
  have h2:=ho _ (λz:I (D Item)×Ex×St=>match z.1,z.2.1 with
   |some q,.normal=>match j6D E.np (E.keep d.b) z.2.2 with
    |some s'=>M (Sum.inl (q++s'))
    |none=>U
   |_,e=>cond (pinK ps x y (E.keepX d.b e)) (match j6D E.np (E.keepX d.b e) z.2.2 with
    |some s'=>M (Sum.inr (e,s'))
    |none=>U) U)
  have h3:jf2 E d.b g ps x y (pack d.ps d.ts h)=_:=h2;rw[h3,j0];clear h3 h2 hr ho;dsimp only;have h1:=h1.symm;unfold ukR at h1
  have hx:∀e,(cond (pinK ps x y (E.keepX d.b e)) (match j6D E.np (E.keepX d.b e) σ with
    |some s=>match unX d.exits e s with
     |some x=>M (Sum.inr x)
     |none=>U
    |none=>U) U:I (HL d.ts ⊕ XT d.exits))=M r->(cond (pinK ps x y (E.keepX d.b e)) (match j6D E.np (E.keepX d.b e) σ with
    |some s'=>M (Sum.inr (e,s'))
    |none=>U) U:I (Snap ⊕ Ex×Snap))=M (outS d r):=by
   grind[outS,joR]
  cases p<;>grind[outS,jbI]
theorem jqG{E:Env}(hF:CFun E.C)(hz:E.nz=Z)(hL:LFun E.L){c:Ü}{d:jcs}(hs:∀h,j0S E (d.b%65536) c (j1i E.np (E.keep d.b) (pack d.ps d.ts h)) (uk E d)=d.step h)(h:HL d.ts)(r:HL d.ts ⊕ XT d.exits):d.step h=M r->
  jaj E d.b (d.b%65536) c (pack d.ps d.ts h)=M (match r with|.inl a=> .inl (pack d.ps d.ts a)|.inr x=> .inr (jgc d.exits x)):=by
 intro hr;obtain⟨o,ho⟩:=j9o hF hz hL c (d.b%65536) (j1i E.np (E.keep d.b) (pack d.ps d.ts h));rw[<-hs h]at hr;have h1:M r=_:=hr.symm.trans (ho _ (λz=>uk E d z.1 z.2));cases o with
 |none=>simp at h1
 |some z=>
  obtain⟨e,σ⟩:=z;simp only[j0]at h1
  have h2:=ho _ (λz:Ex×St=>match z.1 with
   |.normal=>match j6D E.np (E.keep d.b) z.2 with
    |some s'=>M (Sum.inl s')
    |none=>U
   |e=>match j6D E.np (E.keepX d.b e) z.2 with
    |some s'=>M (Sum.inr (e,s'))
    |none=>U)
  have h3:jaj E d.b (d.b%65536) c (pack d.ps d.ts h)=_:=h2;grind[uk,jbI,joR]
theorem joT{E:Env}(h0:E.off0=E)(hF:CFun E.C)(hz:E.nz=Z)(hL:LFun E.L){c:Ü}{d:jcs}(hs:jmg E c d)
  (he:∀s R k,E.L d.b s R k=match jdx d.ps d.ts s with|some h=>(loopOpt d.step h).bind λx=>joQ d.exits x k|none=>U):jhy E d.b (d.b%65536) c:=by
 intro s R k r h;rw[he]at h;split at h
 .rename_i hl hu;cases hq:loopOpt d.step hl with
  |none=>simp[hq]at h
  |some x=>
   rw[hq,j0,jit]at h;obtain⟨n,hn⟩:=ja4 hq;refine⟨n,(jgc d.exits x).1,(jgc d.exits x).2,?_,h⟩;rw[jbI hu]
   exact jjO (f:=jja E d.b (d.b%65536) c) (p:=pack d.ps d.ts) (q:=jgc d.exits) (λa r hr=>by
    have hq:=h0;unfold jja;rw[hq];cases c with
    |rangeFunc g ps x y=>have:=jtR hF hz hL hs a r hr;cases r<;>exact this
    |_=>have:=jqG hF hz hL hs a r hr;cases r<;>exact this) hn
 .simp at h
def lpAt(c:Ü)(b:O):Code:=(((j1l 0 c).find? λx=>Nat.beq x.1 b).getD (0,.skip)).2
def jbJ(E:Env)(c:Ü):D jcs->Prop
 |[]=>ü
 |d::ds=>jmg E (lpAt c (d.b%65536)) d/\jbJ E c ds
theorem jmh{q:O}:∀{ds:D jcs},(∀s R k,jgd ds q s R k=U)\/∃d∈ds,d.b=q/\∀s R k,jgd ds q s R k=match jdx d.ps d.ts s with|some h=>(loopOpt d.step h).bind λx=>joQ d.exits x k|none=>U
 |[]=> .inl λ_ _ _=>rfl
 |d::ds=>by
  by_cases h:d.b=q
  .exact .inr ⟨d,smp_,h,λs R k=>by simp only[jgd,h,if_true]⟩
  .rcases jmh (q:=q) (ds:=ds) with h1|⟨d',h1,h2,h3⟩
   .exact .inl λs R k=>by simp only[jgd,h,if_false];exact h1 s R k
   .exact .inr ⟨d',by simp[h1],h2,λs R k=>by simp only[jgd,h,if_false];exact h3 s R k⟩
theorem jbJ.get{E:Env}{c:Ü}:∀{ds:D jcs},jbJ E c ds->∀d∈ds,jmg E (lpAt c (d.b%65536)) d
 |x::r,hs,d,h=>by
  rcases List.mem_cons.1 h with rfl|h
  .exact hs.1
  .exact jbJ.get hs.2 d h
theorem jqH{E:Env}(h0:E.off0=E)(hF:CFun E.C)(hz:E.nz=Z){c:Ü}{ds:D jcs}(hE:E.L=jgd ds)(hm:j9N ((j1l 0 c).map (·.1))=À)(hn:(j1l 0 c).all (λx=>é x.1 65536)=À)(hs:jbJ E c ds) :
  ∀x∈j1l 0 c,∀o,jhy E (x.1+65536*o) x.1 x.2:=by
 intro x hx o;have hLM:LFun E.L:=hE▸jge ds;have hb:x.1<65536:=by have:=List.all_eq_true.1 hn x hx;simp[é]at this;omega
 rcases jmh (q:=x.1+65536*o) (ds:=ds) with h|⟨d,hd,hq,h⟩
 .intro s R k r hk;rw[hE,h]at hk;simp at hk
 .have h1:=hs.get d hd;have e:d.b%65536=x.1:=by rw[hq];omega
  rw[e]at h1;have h2:lpAt c x.1=x.2:=by simp[lpAt,joS (j7q hm) hx]
  rw[h2]at h1;have:=joT (E:=E) h0 hF hz hLM h1 (λs R k=>by rw[hE,hq];exact h s R k);rwa[hq,show (x.1+65536*o)%65536=x.1 by omega]at this
inductive VPat where
 |v (t:Ty)
 |own (e:O) (t:Ty)
 |box (ts:D Ty)
 |hd
 |vn (t:Ty) (ns:D O)
 |clo (f:O) (caps:D CPat)
 |so (ls:D (I O×Ty))
 |raw (ns:D O) (ps:D IPat)
 deriving É
inductive OPat where
 |ref (ts:D Ty)
 |rl (t:Ty)
 deriving É
def rlP:RL->(I O×Ty)×TV
 |.d x=>((U,x.t),x)
 |.own e x=>((M e,x.t),x)
def rlsF:D (I O×Ty)->D TV->D RL
 |[],_=>[]
 |(U,_)::ps,xs=> .d (xs.headD tv0)::rlsF ps xs.tail
 |(M e,_)::ps,xs=> .own e (xs.headD tv0)::rlsF ps xs.tail
theorem joU:∀(ls:D RL)(r:D TV),rlsF (ls.map λl=>(rlP l).1) ((ls.map λl=>(rlP l).2)++r)=ls
 |[],r=>rfl
 |.d x::ls,r=>by
  have:=joU ls r;show RL.d _::rlsF _ (_++r)=_;rw[this];rfl
 |.own e x::ls,r=>by
  have:=joU ls r;show RL.own e _::rlsF _ (_++r)=_;rw[this];rfl
def jqI:D IPat->O
 |[]=>0
 |c::cs=>c.n+jqI cs
theorem jlb:∀(cs:Snap)(r:D TV),jl9 (jbH cs).1 ((jbH cs).2++r)=cs/\jqI (jbH cs).1=(jbH cs).2.length
 |[],r=>⟨rfl,rfl⟩
 |c::cs,r=>by
  simp only[jbH,jl9,jqI,Ì,Ò];have h1:=jtP c ((jbH cs).2++r);have h2:=jlb cs r;rw[h1.1,h1.2,Æ,h2.1,h2.2];exact⟨rfl,rfl⟩
def rvP:RV->VPat×D TV
 |.v x=>(.v x.t,[x])
 |.own e x=>(.own e x.t,[x])
 |.box ls=>(.box (ls.map (·.t)),ls)
 |.hd n=>(.hd,[⟨.int .i64,(n:Í)⟩])
 |.vn x ns=>(.vn x.t ns,[x])
 |.clo f caps=>(.clo f (jdv caps).1,(jdv caps).2)
 |.so ls=>(.so (ls.map λl=>(rlP l).1),ls.map λl=>(rlP l).2)
 |.raw ns s=>(.raw ns (jbH s).1,(jbH s).2)
def VPat.n:VPat->O
 |.v _=>1
 |.own _ _=>1
 |.box ts=>ts.length
 |.hd=>1
 |.vn _ _=>1
 |.clo _ cs=>jnk cs
 |.so ls=>ls.length
 |.raw _ ps=>jqI ps
def rvF:VPat->D TV->RV
 |.v _,xs=> .v (xs.headD tv0)
 |.own e _,xs=> .own e (xs.headD tv0)
 |.box ts,xs=> .box (xs.take ts.length)
 |.hd,xs=> .hd (jsv (xs.headD tv0))
 |.vn _ ns,xs=> .vn (xs.headD tv0) ns
 |.clo f cs,xs=> .clo f (jnj cs xs)
 |.so ls,xs=> .so (rlsF ls xs)
 |.raw ns ps,xs=> .raw ns (jl9 ps xs)
theorem juH(c:RV)(r:D TV):rvF (rvP c).1 ((rvP c).2++r)=c/\(rvP c).1.n=(rvP c).2.length:=by
 cases c with
 |v x=>exact⟨rfl,rfl⟩
 |own e x=>exact⟨rfl,rfl⟩
 |hd n=>exact⟨rfl,rfl⟩
 |vn x ns=>exact⟨rfl,rfl⟩
 |box ls=>simp[rvP,rvF,VPat.n]
 |clo f cs=>grind[jir,rvP,rvF,VPat.n]
 |so ls=>grind[rvP,rvF,joU,VPat.n]
 |raw ns s=>exact⟨by grind[rvP,rvF,jlb],(jlb s r).2⟩
def outP:Out->OPat×D TV
 |.ref ls=>(.ref (ls.map (·.t)),ls)
 |.rl x=>(.rl x.t,[x])
def OPat.n:OPat->O
 |.ref ts=>ts.length
 |.rl _=>1
def outF:OPat->D TV->Out
 |.ref ts,xs=> .ref (xs.take ts.length)
 |.rl _,xs=> .rl (xs.headD tv0)
theorem jtS(c:Out)(r:D TV):outF (outP c).1 ((outP c).2++r)=c/\(outP c).1.n=(outP c).2.length:=by
 cases c<;>grind[outP,outF,OPat.n]
def rvsP:D RV->D VPat×D TV
 |[]=>([],[])
 |c::cs=>((rvP c).1::(rvsP cs).1,(rvP c).2++(rvsP cs).2)
def rvsF:D VPat->D TV->D RV
 |[],_=>[]
 |c::cs,xs=>rvF c xs::rvsF cs (xs.drop c.n)
def rvsN:D VPat->O
 |[]=>0
 |c::cs=>c.n+rvsN cs
theorem joV:∀(cs:D RV)(r:D TV),rvsF (rvsP cs).1 ((rvsP cs).2++r)=cs/\rvsN (rvsP cs).1=(rvsP cs).2.length
 |[],r=>⟨rfl,rfl⟩
 |c::cs,r=>by
  simp only[rvsP,rvsF,rvsN,Ì,Ò];have h1:=juH c ((rvsP cs).2++r);have h2:=joV cs r;rw[h1.1,h1.2,Æ,h2.1,h2.2];exact⟨rfl,rfl⟩
def jjP:D Out->D OPat×D TV
 |[]=>([],[])
 |c::cs=>((outP c).1::(jjP cs).1,(outP c).2++(jjP cs).2)
def jqJ:D OPat->D TV->D Out
 |[],_=>[]
 |c::cs,xs=>outF c xs::jqJ cs (xs.drop c.n)
theorem joW:∀(cs:D Out)(r:D TV),jqJ (jjP cs).1 ((jjP cs).2++r)=cs
 |[],r=>rfl
 |c::cs,r=>by
  simp only[jjP,jqJ,Ì];have h1:=jtS c ((jjP cs).2++r);rw[h1.1,h1.2,Æ,joW cs r]
structure RPat where
 vs:D VPat
 os:D OPat
 deriving É
def jlc(rp:RPat)(ts:D Ty)(h:HL ts):Ret:=⟨rvsF rp.vs (ofHL ts h),jqJ rp.os ((ofHL ts h).drop (rvsN rp.vs))⟩
def jgf(rp:RPat)(ts:D Ty)(r:Ret):I (HL ts):=
 if (rvsP r.vals).1=rp.vs/\(jjP r.outs).1=rp.os then toHL ts ((rvsP r.vals).2++(jjP r.outs).2) else U
theorem jnl{rp:RPat}{ts:D Ty}{r:Ret}{h:HL ts}(hs:jgf rp ts r=M h):r=jlc rp ts h:=by
 unfold jgf at hs;split at hs
 .rename_i hp;have:=jiq hs;unfold jlc;rw[<-this,<-hp.1,<-hp.2,(joV r.vals _).1,(joV r.vals []).2,Æ];have h2:=joW r.outs []
  simp_all
 .simp at hs
structure Con where
 f:O
 ps:D APat
 ts:D Ty
 rp:RPat
 rs:D Ty
 F:HL ts->I (HL rs)
def Con.C(c:Con)(args:D Arg)(R:Type)(k:Ret->I R):I R:=
 match jga c.ps c.ts args with
 |some h=>(c.F h).bind λx=>k (jlc c.rp c.rs x)
 |none=>U
def Con.OK(P:Y)(c:Con):Prop:=FnOK P c.f c.C
def orF{α:Type}(a b:I α):I α:=match a with
 |some x=>M x
 |none=>b
theorem jjQ{P:Y}{f:O}{ps:D APat}{ts:D Ty}{rp:RPat}{rs:D Ty}{F G:HL ts->I (HL rs)}(h1:Con.OK P ⟨f,ps,ts,rp,rs,F⟩)(h2:Con.OK P ⟨f,ps,ts,rp,rs,G⟩) :
  Con.OK P ⟨f,ps,ts,rp,rs,λh=>orF (F h) (G h)⟩:=by
 intro args R k r hk;unfold Con.C at hk;split at hk
 .rename_i h hu;have e1:=h1 args R k r;have e2:=h2 args R k r;unfold Con.C at e1 e2;simp only[hu]at e1 e2;cases hF:F h<;>grind[orF]
 .simp at hk
def orB{α R:Type}(a:I α)(f:α->I R)(b:I R):I R:=match a with
 |some x=>f x
 |none=>b
def altC:D Con->O->D APat->Å
 |[],_,_=>Z
 |c::cs,f,ps=>if c.f=f/\c.ps=ps then À else altC cs f ps
def conC:D Con->O->D Arg->(R:Type)->(Ret->I R)->I R
 |[],_,_,_,_=>U
 |c::cs,f,args,R,k=>if c.f=f then (if (jis args).1=c.ps then (if altC cs f c.ps then (match jga c.ps c.ts args with
  |some h=>orB (c.F h) (λx=>k (jlc c.rp c.rs x)) (conC cs f args R k)
  |none=>U) else c.C args R k) else conC cs f args R k) else conC cs f args R k
theorem jgg{P:Y}{f:O}:FnOK P f (λ_ _ _=>U):=by
 intro args R k r h;simp at h
def jnm(P:Y):D Con->Prop
 |[]=>ü
 |c::cs=>c.OK P/\jnm P cs
theorem jgh{P:Y}:∀cs:D Con,jnm P cs->j7I P (conC cs)
 |[],_,_=>jgg
 |c::cs,h,f=>by
  have ih:=jgh cs h.2 f;intro args R k r hk;simp only[conC]at hk;split at hk
  .rename_i hf;subst hf;split at hk
   .split at hk
    .split at hk
     .rename_i x hu;have h1:=h.1 args R k r;simp only[Con.C,hu]at h1;cases hq:c.F x with
      |some y=>rw[hq]at hk h1;exact h1 hk
      |none=>rw[hq]at hk;exact ih args R k r hk
     .simp at hk
    .exact h.1 args R k r hk
   .exact ih args R k r hk
  .exact ih args R k r hk
theorem jiu:∀cs:D Con,CFun (conC cs)
 |[]=>λ_ _=>⟨U,λ_ _=>rfl⟩
 |c::cs=>λf args=>by
  have ih:=jiu cs f args;simp only[conC];split
  .split
   .split
    .split
     .rename_i h _;cases hq:c.F h with
      |none=>exact ih
      |some x=>exact⟨M (jlc c.rp c.rs x),λ_ _=>rfl⟩
     .exact⟨U,λ_ _=>rfl⟩
    .unfold Con.C;split
     .rename_i h _;cases hq:c.F h with
      |none=>exact⟨U,λ_ _=>rfl⟩
      |some x=>exact⟨M (jlc c.rp c.rs x),λ_ _=>rfl⟩
     .exact⟨U,λ_ _=>rfl⟩
   .exact ih
  .exact ih
def jsw:D (O×Keep)->O->Keep
 |[],_=>⟨[],[],[]⟩
 |x::r,b=>if x.1=b then x.2 else jsw r b
def joX:D (O×Ex×Keep)->O->Ex->Keep
 |[],_,_=>⟨[],[],[]⟩
 |x::r,b,e=>if x.1=b/\x.2.1=e then x.2.2 else joX r b e
def joY:D (O×D Å)->O->D Å
 |[],_=>[]
 |x::r,b=>if x.1=b then x.2 else joY r b
def dwL:D (O×D (D O))->O->D (D O)
 |[],_=>[]
 |x::r,b=>if x.1=b then x.2 else dwL r b
def bwL:D (O×Å×Ty)->O->I (Å×Ty)
 |[],_=>U
 |x::r,f=>if x.1=f then M x.2 else bwL r f
def joZ(P:Y):D (O×Å×Ty)->Prop
 |[]=>ü
 |x::r=>BwK P x.1 x.2/\joZ P r
theorem jrk{P:Y}:∀{l:D (O×Å×Ty)},joZ P l->∀f t,bwL l f=M t->BwK P f t
 |[],_,f,t,h=>by simp[bwL]at h
 |x::r,hl,f,t,h=>by
  simp only[bwL]at h;split at h
  .rename_i e;simp only[j3]at h;rw[<-e,<-h];exact hl.1
  .exact jrk hl.2 f t h
structure FnD where
 N:Nat:=0
 np:Nat:=0
 cs:D Con:=[]
 ds:D jcs:=[]
 modes:D (O×D Å):=[]
 keep:D (O×Keep):=[]
 keepX:D (O×Ex×Keep):=[]
 ro:D Bool:=[]
 dw:D (O×D (D O)):=[]
 hd:Bool:=Z
 ns:D Nat:=[]
 bw:D (O×Å×Ty):=[]
 so:D SoK:=[]
 un:D Nat:=[]
 unr:Nat:=2
 pre:D (O×D Gh):=[]
 rw:Bool:=Z
 rn:D Nat:=[]
 b1:D Nat:=[]
 mvf:D Nat:=[]
 pa:D (O×O×Ty):=[]
 sc:Bool:=Z
def paL:D (O×O×Ty)->O->I (O×Ty)
 |[],_=>U
 |x::r,i=>if x.1=i then M x.2 else paL r i
def preL:D (O×D Gh)->O->D Gh
 |[],_=>[]
 |x::r,i=>if x.1=i then x.2 else preL r i
def FnD.env(d:FnD)(T:D (I TyI)):Env:=⟨⟨d.N,λ_=>Z⟩,d.np,tab T,conC d.cs,joY d.modes,jgd d.ds,jsw d.keep,joX d.keepX,d.ro,dwL d.dw,Z,d.hd,d.ns,bwL d.bw,d.so,λb=>cond (d.un.contains b) d.unr 0,preL d.pre,d.rw,d.rn,d.b1,λf=>d.mvf.contains f,paL d.pa,d.sc,0⟩
theorem jtT{P:Y}{T:D (I TyI)}(hT:j1J P (tab T))(hmix:P.follows .mixedOrders=À)(d:FnD)(con:Con)(fn:î)(c:Ü)(hf:P.funcs[con.f]? = M fn)(hb:fn.body=M c)
  (hN : fn.ntmps = d.N) (hnp : d.np ≤ d.N) (hnm : (fn.name == "runtime.NumGoroutine") = Z) (hcs : jnm P d.cs) (hm : j9N ((j1l 0 c).map (·.1)) = À) (hn : (j1l 0 c).all (fun x => é x.1 65536) = À)
  (hs:jbJ (d.env T) c d.ds)(hF:∀h,jdn (d.env T) fn (jgW con.ps con.ts h) (jgf con.rp con.rs)=con.F h)(hbw:joZ P d.bw:=by trivial):con.OK P:=by
 have hC:j7I P (d.env T).C:=jgh d.cs hcs;have hfun:CFun (d.env T).C:=jiu d.cs;have hL:LFun (d.env T).L:=jge d.ds;have hfn:=jmf (E:=d.env T) hT hC hfun hmix hf hb hN rfl (jrk hbw) hnp hnm (jqH rfl hfun rfl rfl hm hn hs);intro args R k r hk;unfold Con.C at hk;split at hk
 .rename_i h hu;rw[jhD hu];cases hq:con.F h with
  |none=>simp[hq]at hk
  |some x=>rw[hq,j0]at hk;refine hfn _ R k r ?_;obtain⟨o,ho⟩:=jni hfun rfl hL fn (jgW con.ps con.ts h);have h1:M x=_:=((hF h).trans hq).symm.trans (ho _ _);cases o<;>grind[jnl]
 .simp at hk
theorem cOf{P:Y}{T:D (I TyI)}(hT:j1J P (tab T))(hmix:P.follows .mixedOrders=À)(d:FnD)(con:Con){fn:î}(hf:P.funcs[con.f]? = M fn)(hcs:jnm P d.cs)
  (hs:jbJ (d.env T) (fn.body.getD .skip) d.ds)(hbw:joZ P d.bw:=by trivial)(hb:fn.body=M (fn.body.getD .skip):=by kernel_rfl)(hN:fn.ntmps=d.N:=by kernel_rfl)
  (hnp : Nat.ble d.np d.N = true := by kernel_rfl) (hnm : (fn.name == "runtime.NumGoroutine") = false := by kernel_rfl) (hm : j9N ((j1l 0 (fn.body.getD .skip)).map (·.1)) = true := by kernel_rfl)
  (hn:(j1l 0 (fn.body.getD .skip)).all (λx=>é x.1 65536)=true:=by kernel_rfl)(hF:∀h,jdn (d.env T) fn (jgW con.ps con.ts h) (jgf con.rp con.rs)=con.F h:=by intro h;kernel_rfl):con.OK P:=
 jtT hT hmix d con fn _ hf hb hN (Nat.le_of_ble_eq_true hnp) hnm hcs hm hn hs hF hbw
def jdy{α β:Type}(B:(α->I β)->α->I β):O->α->I β
 |0,_=>U
 |n+1,a=>B (jdy B n) a
open Classical in
def jf6{α β:Type}(B:(α->I β)->α->I β)(a:α):I β:=
 if h:∃x n,jdy B n a=M x then M h.choose else U
theorem jp0{α β:Type}{B:(α->I β)->α->I β}{a:α}{x:β}(h:jf6 B a=M x):∃n,jdy B n a=M x:=by
 unfold jf6 at h;split at h;all_goals grind
theorem jp1{α β:Type}{B:(α->I β)->α->I β}{a:α}{x:β}(h1:∃n,jdy B n a=M x)(h2:∀n y,jdy B n a=M y->y=x):jf6 B a=M x:=by
 obtain⟨n,hn⟩:=h1;have hx:∃x n,jdy B n a=M x:=⟨x,n,hn⟩;grind[jf6]
theorem jtU{P:Y}{f:O}{ps:D APat}{ts:D Ty}{rp:RPat}{rs:D Ty}{B:(HL ts->I (HL rs))->HL ts->I (HL rs)}
  (hstep:∀g,Con.OK P ⟨f,ps,ts,rp,rs,g⟩->Con.OK P ⟨f,ps,ts,rp,rs,B g⟩):Con.OK P ⟨f,ps,ts,rp,rs,jf6 B⟩:=by
 have all:∀n,Con.OK P ⟨f,ps,ts,rp,rs,jdy B n⟩:=by
  intro n;induction n with
  |zero=>intro args R k r hk;grind[Con.C,jdy]
  |succ n ih=>exact hstep _ ih
 intro args R k r hk;unfold Con.C at hk;split at hk
 .rename_i h hu;cases hq:jf6 B h with
  |none=>simp[hq]at hk
  |some x=>obtain⟨n,hn⟩:=jp0 hq;refine all n args R k r ?_;grind[Con.C]
 .simp at hk
def CPat.ty:CPat->D Ty
 |.v t=>[t]
 |.p ts=>ts
def LPat.ty:LPat->D Ty
 |.d t=>[t]
 |.tl _=>[iT]
 |.hd _=>[iT]
 |.ip ts=>ts
 |.clo _ cs=>cs.flatMap CPat.ty
 |_=>[]
def IPat.ty:IPat->D Ty
 |.s (.one l)=>l.ty
 |.s (.st ls)=>ls.flatMap LPat.ty
 |.s (.av _ a)=>[.list a]
 |.b (.cell ls _)=>ls.flatMap LPat.ty
 |.b (.lst _ a _)=>[.list a]
 |.b (.arr _ a)=>[.list a]
 |.b (.row _ _ _ ls)=>ls.flatMap LPat.ty
 |.b _=>[]
def tsI(ps:D IPat):D Ty:=ps.flatMap IPat.ty
def APat.ty:APat->D Ty
 |.v t=>[t]
 |.ref ts=>ts
 |.rl _ t=>[t]
 |.ip ts=>ts
 |.clo _ cs=>cs.flatMap CPat.ty
 |.mv _ t=>[t]
def APat.isR:APat->Å
 |.rl _ _=>À
 |.mv _ _=>À
 |_=>Z
def VPat.ty:VPat->D Ty
 |.v t=>[t]
 |.own _ t=>[t]
 |.box ts=>ts
 |.hd=>[iT]
 |.vn t _=>[t]
 |.clo _ cs=>cs.flatMap CPat.ty
 |.so ls=>ls.map (·.2)
 |.raw _ ps=>tsI ps
def VPat.isO:VPat->Å
 |.own _ _=>À
 |.so _=>À
 |_=>Z
def OPat.ty:OPat->D Ty
 |.ref ts=>ts
 |.rl t=>[t]
def tsA(ps:D APat):D Ty:=ps.flatMap APat.ty
def tsR(vs:D VPat)(os:D OPat):D Ty:=vs.flatMap VPat.ty++os.flatMap OPat.ty
structure LK where
 d:jcs
 k:Keep
 x:D (Ex×Keep)
def xD(e:Ex)(ps:D IPat)(k:Keep):XD×Keep:=(⟨e,ps,tsI ps⟩,k)
def lD(b:O)(ps:D IPat)(k:Keep)(xs:D (XD×Keep))(f:HL (tsI ps)->I (HL (tsI ps) ⊕ XT (xs.map (·.1)))):LK:=⟨⟨b,ps,tsI ps,xs.map (·.1),f⟩,k,xs.map λx=>(x.1.ex,x.2)⟩
def dz:D (O×D O)->D (D O)
 |[]=>[]
 |x::r=>ì x.1 []++x.2::dz r
def tz:D (O×TyI)->D (I TyI)
 |[]=>[]
 |x::r=>ì x.1 U++M x.2::tz r
def tR(t:Ty)(e:O):TyI:=⟨1,Z,M t,[],e,[],U⟩
def CK(P:Y):Type:={c:Con // c.OK P}
structure TB(P:Y) where
 T:D (I TyI)
 ok:j1J P (tab T)
 mix:P.follows .mixedOrders=À
theorem jtV{P:Y}:∀cs:D (CK P),jnm P (cs.map (·.1))
 |[]=>trivial
 |c::r=>⟨c.2,jtV r⟩
def FnD.q{P:Y}(d:FnD)(ls:D LK)(cs:D (CK P))(ps:D APat)(vs:D VPat)(n:O):FnD:=
 { d with N:=n,np:=ps.length,cs:=cs.map (·.1),modes:=cs.map λc=>(c.1.f,c.1.ps.map APat.isR),ro:=vs.map VPat.isO,ds:=ls.map (·.d),keep:=ls.map λl=>(l.d.b,l.k),keepX:=ls.flatMap λl=>l.x.map λe=>(l.d.b,e.1,e.2) }
def cQ{P:Y}(B:TB P)(d:FnD)(ls:D LK)(f:O)(ps:D APat)(vs:D VPat)(os:D OPat)(F:HL (tsA ps)->I (HL (tsR vs os))){fn:î}(hf:P.funcs[f]? = M fn)(cs:D (CK P):=[])
  (hs:jbJ ((d.q ls cs ps vs fn.ntmps).env B.T) (fn.body.getD .skip) (ls.map (·.d)):=by repeat (first|refine And.intro (λh=>by kernel_rfl) ?_|exact trivial))
  (hbw:joZ P d.bw:=by trivial)(hb:fn.body=M (fn.body.getD .skip):=by kernel_rfl)
  (hnp : Nat.ble ps.length fn.ntmps = true := by kernel_rfl) (hnm : (fn.name == "runtime.NumGoroutine") = false := by kernel_rfl) (hm : j9N ((j1l 0 (fn.body.getD .skip)).map (·.1)) = true := by kernel_rfl)
  (hn:(j1l 0 (fn.body.getD .skip)).all (λx=>é x.1 65536)=true:=by kernel_rfl)(hF:∀h,jdn ((d.q ls cs ps vs fn.ntmps).env B.T) fn (jgW ps (tsA ps) h) (jgf ⟨vs,os⟩ (tsR vs os))=F h:=by intro h;kernel_rfl):CK P:=
 ⟨⟨f,ps,tsA ps,⟨vs,os⟩,tsR vs os,F⟩,cOf B.ok B.mix (d.q ls cs ps vs fn.ntmps) _ hf (jtV cs) hs hbw hb rfl hnp hnm hm hn hF⟩
def FnD.envN(d:FnD)(T:D (I TyI)):Env:=⟨⟨d.N,λ_=>Z⟩,d.np,tab T,conC d.cs,joY d.modes,jgd d.ds,jsw d.keep,joX d.keepX,d.ro,dwL d.dw,À,d.hd,d.ns,λ_=>U,d.so,λ_=>0,λ_=>[],Z,[],[],λ_=>Z,λ_=>U,Z,0⟩
theorem jp2{α R:Type}(xs:D α)(K:D α->I R){r:R}(h:(cond (Ç (([]:D α).length+xs.length<=j06)) (M (([]:D α)++xs)) U).bind K=M r) :
  jfG (ò xs) (K []) (cond (Ç (([]:D α).length+xs.length<=j06)) (K (([]:D α)++xs)) U)=M r:=by
 cases hd:Ç (([]:D α).length+xs.length<=j06) with
 |false=>rw[hd]at h;simp at h
 |true=>
  rw[hd]at h;simp only[j4,j0]at h ⊢;cases xs with
  |nil=>simp only[List.append_nil]at h ⊢;rw[jkD];exact h
  |cons x r=>exact h
theorem j6I{P:Y}{T:D (I TyI)}(hT:j1J P (tab T))(hmix:P.follows .mixedOrders=À)(d:FnD)(f:O)(a:Ty)(e:O)(fn:î)(c:Ü)(hf:P.funcs[f]? = M fn)(hb:fn.body=M c)
  (hN : fn.ntmps = d.N) (hnp : d.np ≤ d.N) (hnm : (fn.name == "runtime.NumGoroutine") = Z) (hcs : jnm P d.cs) (hl : j1l 0 c = [])
  (hF:∀(h:D a.den)(R:Type)(k:Ret->I R),jdn (d.envN T) fn [.v ⟨.list a,h⟩] k=jfG (ò h) (k ⟨[.own e ⟨.list a,([]:D a.den)⟩],[]⟩)
   (cond (Ç (([]:D a.den).length+Î h<=j06)) (k ⟨[.own e ⟨.list a,([]:D a.den)++h⟩],[]⟩) U)) :
  Con.OK P ⟨f,[.v (.list a)],[.list a],⟨[.own e (.list a)],[]⟩,[.list a],λh=>cond (Ç (([]:D a.den).length+Î h<=j06)) (M (([]:D a.den)++h)) U⟩:=by
 have hC:j7I P (d.envN T).C:=jgh d.cs hcs;have hfun:CFun (d.envN T).C:=jiu d.cs;have hfn:=jmf (E:=d.envN T) hT hC hfun hmix hf hb hN rfl (λf t h=>by simp[FnD.envN]at h) hnp hnm (by rw[hl];simp);intro args R k r hk;unfold Con.C at hk;split at hk
 .rename_i h hu;rw[jhD hu];refine hfn _ R k r ?_;refine(hF h R k).trans ?_;exact jp2 (α:=a.den) h (λx=>k ⟨[.own e ⟨.list a,x⟩],[]⟩) hk
 .simp at hk
def w64(x:Í):Int:=IntKind.wrap .i64 x
class LP where
 lp:{α β:Type}->(α->I (α ⊕ β))->α->I β
 rp:{α β:Type}->((α->I β)->α->I β)->α->I β
noncomputable instance realLP:LP:=⟨loopOpt,jf6⟩
abbrev juX(N:O):LP:=⟨λf a=>loopN f N a,λB a=>jdy B N a⟩
theorem j5Z{x:Í}(h1 : -9223372036854775808<=x)(h2:x<=9223372036854775807):w64 x=x:=IntWalk.i64_in x ⟨h1,h2⟩
def lpK{α β:Type}(r:I (α ⊕ β))(f:α->I β):I β:=match r with
 |none=>U
 |some (.inl s)=>f s
 |some (.inr x)=>M x
theorem j08{α β:Type}(s:α)(f:α->I β):lpK (M (.inl s)) f=f s:=rfl
theorem j0f{α β:Type}(x:β)(f:α->I β):lpK (M (.inr x)) f=M x:=rfl
theorem j6J{α β γ:Type}(x:α)(f:α->γ)(g:β->γ):sumC (.inl x) f g=f x:=rfl
theorem j3Q{α β γ:Type}(x:β)(f:α->γ)(g:β->γ):sumC (.inr x) f g=g x:=rfl
theorem j0j{α β:Type}(f:α->I (α ⊕ β))(s:α):loopOpt f s=lpK (f s) (loopOpt f):=by
 cases h:f s with
 |none=>
  cases hq:loopOpt f s with
  |none=>rfl
  |some x=>obtain⟨n,hn⟩:=ja4 hq;cases n<;>simp[loopN,h]at hn
 |some r=>
  cases r with
  |inl s'=>exact jjN h
  |inr x=>exact jla h
section
variable{S0:j0e}{w0:Ä}{refs:Refs}
theorem jld{P:Y}{E:Env}(hT:j1J P E.T)(hC:j7I P E.C){ops:Þ á}{R:Type}{k:St->I R}{r:R}{Q:Exit->Ê->Ä->Prop}{n:O}{rest:D O}
  (hn:∀σ' a' w' S' γ',Rel E.N E.np S0 w0 refs σ' a' w' S' γ'->j4k σ'->k σ'=M r->wpOpsIn (FR U) n P ops Q rest a' w') :
  ∀(l:D á)(i:O){σ:St}{a:Ê}{w:Ä}{S:j0e}{γ:O->Ã},(∀j o,l[j]? = M o->ops[i+j]? = M o/\o.guard=U)->Rel E.N E.np S0 w0 refs σ a w S γ->j4k σ->j86 E l σ k=M r->
   wpOpsIn (FR U) n P ops Q (ö i l.length++rest) a w
 |[],i,σ,a,w,S,γ,hl,hR,hc,h=>hn _ _ _ _ _ hR hc h
 |o::l,i,σ,a,w,S,γ,hl,hR,hc,h=>by
  simp only[j86]at h;split at h
  .rename_i hd;obtain⟨ho,hg⟩:=hl 0 o rfl;have hw:Ú o (yielded ops a.tmps)=true:=by simp[Ú,hg]
   simp only[List.length_cons,List.range'_succ,List.cons_append,wpOpsIn,show ops[i]? = M o from ho,hw,if_true];refine jih (.inl rfl) (λ_ _ h=>h) (jc8 hT hC hR (act:=[]) (λg hg=>by simp at hg) (p:=Z) (λ_=>hc) hd h (λσ' a' w' S' γ' hR' hc' hk=>?_));exact jld hT hC hn l (i+1) (λj o' hj=>by rw[show i+1+j=i+(j+1) by omega];exact hl (j+1) o' (by simpa using hj)) hR' (hc' rfl) hk
  .simp at h
theorem jbK{N:NT}{np:O}{fx:O->I Ã}{σ:St}{a:Ê}{W:Ä}{S:j0e}(hsz:a.tmps.size=N.n)(hd:a.defers=[])(hfree:∀k,σ.bx k = .free)(hS:∀g o,S g o->g<W.heap.size)
  (hslot:∀i,j3w S W (λ_=>undef) σ.bx (tm a) (σ.sl i) (tm a i))(hfix:∀i v,fx i=M v->N.pin i=À/\tm a i=v):Rel N np S W { blks:=[],val:=λ_=>U,fix:=fx } σ a W S (λ_=>undef):=
 ⟨hsz,hd,hslot,λk b h=>by simp_all,λk b g h=>by simp_all,λk k' b b' g _ h=>by simp_all,λ_ _ h=>h,λ_ _ h=> .inl h,hS,λ_ _ _=>rfl,ø _,rfl,rfl,rfl,
  λk v h=>by simp at h,λg o h=>by simp at h,hfix⟩
theorem j9p{N:NT}{np:O}{fx:O->I Ã}{σ:St}{a:Ê}{w:Ä}{S:j0e}{γ:O->Ã}(hR:Rel N np S0 w0 { blks:=[],val:=λ_=>U,fix:=fx } σ a w S γ):Grew w0 w:=
 ⟨λg hg=>hR.below g hg (λh=>by have h:g∈([]:D O):=h;simp at h),hR.grow,hR.os,hR.tape,hR.output⟩
theorem jjR{P:Y}{a:Ê}{w:Ä}{o:á}{cl:Call}(ho:o.op = .call cl){x:Operand}(hc:cl.callee = .value x){l:O}(hx:a.eval x = .func (.yield l) #[] #[]){nx:Next}{w':Ä}
  (hy:(Instr.yield l (cl.args.map a.eval)).run P w = .ok nx w'):(execOp a.eval o).run P w = .ok nx w':=by
 simp_all[execOp,resolve,Deferred.ofValue,invoke]
def bwE(T:O->I TyI):Env:=
 { N:=⟨19,λi=>i==0||(i==1||i==11)⟩,np:=0,T:=T,C:=λ_ _ _ _=>U,modes:=λ_=>[],L:=λ_ _ _ _=>U,keep:=λ_=>⟨[],[],[]⟩,keepX:=λ_ _=>⟨[],[],[]⟩,ro:=[] }
def slF(l:D (O×Cel)):St:={ sl:=λj=>match l.find? (λx=>x.1==j) with|some x=> .one x.2|none=> .one (.one .dead),bx:=λ_=> .free }
def g3(σ:St):I Int:=match σ.sl 3 with
 |.one (.one (.d (.int .i64) v))=>M v
 |_=>U
def g1(σ:St):I (Å×Í):=match σ.sl 8,σ.sl 3 with
 |.one (.one (.d .bool b)),.one (.one (.d (.int .i64) v))=>M (b,v)
 |_,_=>U
def g18(σ:St):I (Å×Í):=match σ.sl 18,σ.sl 3 with
 |.one (.one (.d .bool b)),.one (.one (.d (.int .i64) v))=>M (b,v)
 |_,_=>U
def g16(t:Ty)(σ:St):I (Í×t.den×Í):=match σ.sl 12,σ.sl 16,σ.sl 3 with
 |.one (.one (.d (.int .i64) u)),.one c,.one (.one (.d (.int .i64) v))=>match jb3 (λ_=> .gone) t c with
  |some (x,[])=>M (u,x,v)
  |_=>U
 |_,_,_=>U
def lstP(t:Ty)(xs:D t.den):Cel:= .one (.ip [⟨.list t,xs⟩])
def intP(i:Í):Cel:= .one (.d (.int .i64) i)
theorem jgi(l:D (O×Cel)):j4k (slF l):=λi=>by
 simp only[slF];split<;>rfl
theorem jqK{np:O}{σ:St}:RdF np σ (λ_=> .gone):=⟨λ_=> .inr rfl,λk e a xs f h=>by simp at h⟩
theorem jdz{S:j0e}{W:Ä}{γ:O->Ã}{l:D (O×Cel)}{tmf:O->Ã}(h:∀x∈l,j0l S W γ (λ_=> .free) x.2 (tmf x.1))(i:O):j3w S W γ (λ_=> .free) tmf ((slF l).sl i) (tmf i):=by
 simp only[slF];split
 .rename_i x hx;have:=h x (List.mem_of_find?_eq_some hx);have e:=List.find?_some hx;simp only[beq_iff_eq]at e;rw[<-e];exact this
 .exact⟨trivial,λh=>absurd rfl h⟩
theorem jp3{P:Y}{T:O->I TyI}(hT:j1J P T){rid n:O}{A:Þ á}{σ:St}{fx:O->I Ã}{a:Ê}{w:Ä}{S:j0e}{γ:O->Ã}{R:Type}{k:St->I R}{r:R}
  (hR:Rel (bwE T).N (bwE T).np S0 w0 { blks:=[],val:=λ_=>U,fix:=fx } σ a w S γ)(hc:j4k σ)(h:j87 (bwE T) A σ k=M r) :
  (Â rid A Z).wpIn (FR U) n P (λe a' w'=>e = .normal/\∃σ' S' γ',Rel (bwE T).N (bwE T).np S0 w0 { blks:=[],val:=λ_=>U,fix:=fx } σ' a' w' S' γ'/\k σ'=M r) a w:=
 wpIn_region (jjF (.inl rfl) (by rintro⟨a,w,h,_⟩;cases h) _ _ _ (jjy hT (λf=>jgg) hR hc (λσ' a' w' S' γ' hR' _ hk=>⟨rfl,σ',S',γ',hR',hk⟩) h))
theorem jtW{σ:St}{v:Í}(h:g3 σ=M v):σ.sl 3 = .one (.one (.d (.int .i64) v)):=by
 grind[g3]
theorem juI{σ:St}{b:Å}{v:Í}(h:g1 σ=M (b,v)):σ.sl 8 = .one (.one (.d .bool b))/\σ.sl 3 = .one (.one (.d (.int .i64) v)):=by
 grind[g1]
theorem jtX{σ:St}{b:Å}{v:Í}(h:g18 σ=M (b,v)):σ.sl 18 = .one (.one (.d .bool b))/\σ.sl 3 = .one (.one (.d (.int .i64) v)):=by
 grind[g18]
theorem jtY{t:Ty}{σ:St}{i:Í}{x:t.den}{v:Í}(h:g16 t σ=M (i,x,v)):σ.sl 12 = .one (.one (.d (.int .i64) i))/\σ.sl 3 = .one (.one (.d (.int .i64) v))/\∃c,σ.sl 16 = .one c/\jb3 (λ_=> .gone) t c=M (x,[]):=by
 grind[g16]
theorem jcb{N:NT}{np:O}{σ:St}{a:Ê}{w:Ä}{S:j0e}{γ:O->Ã}(hR:Rel N np S0 w0 refs σ a w S γ){s:O}{v:Í}(h:σ.sl s = .one (.one (.d (.int .i64) v))):tm a s = .int .i64 v:=by
 have:=hR.slot s;rw[h]at this;have h1:[a.tmps.getD s undef]=[Value.int .i64 v]:=this.1;simpa[tm]using h1
theorem jjS{N:NT}{np:O}{σ:St}{a:Ê}{w:Ä}{S:j0e}{γ:O->Ã}(hR:Rel N np S0 w0 refs σ a w S γ){s:O}{v:Å}(h:σ.sl s = .one (.one (.d .bool v))):tm a s = .bool v:=by
 have:=hR.slot s;rw[h]at this;have h1:[a.tmps.getD s undef]=[Value.bool v]:=this.1;simpa[tm]using h1
theorem juJ{P:Y}{T:O->I TyI}(hT:j1J P T){f:O}{t:Ty}{fn:î}(hf:P.funcs[f]? = M fn){r0 b0 r1 b1 r3 r2:O}{A0 A1 A2:Þ á}{o0 o6 o7:á}{l3:D á}{cl:Call}
  (hb:fn.body=M ((Â r0 A0 Z).seq (Ý b0 ((((Â r1 A1 Z).seq (Õ (.tmp 8) .skip (.exit b0))).seq ((Ý b1 ((Â r3 (o0::(l3++[o6,o7])).toArray Z).seq (Õ (.tmp 18) .ret .skip))).seq (Â r2 A2 Z))).loop))))
  (hnt : fn.ntmps = 19) (hres : fn.results = #[]) (hnm : (fn.name == "runtime.NumGoroutine") = Z) (hl3 : l3.length = 5) (hbare : (o0 :: (l3 ++ [o6, o7])).all (fun o => o.guard.isNone) = À)
  (h0op:o0.op = .move (.tmp 0))(h0d:o0.dst=M 11)(h6op:o6.op = .call cl)(h6c:cl.callee = .value (.tmp 11))(h6a:cl.args = #[.tmp 12,.tmp 16])(h6d:o6.dst=M 17)
  (e0:∀xs:D t.den,j87 (bwE T) A0 (slF [(1,lstP t xs)]) g3=M (w64 (Int.ofNat (Î xs)-1)))
  (e1:∀i:Í,j87 (bwE T) A1 (slF [(3,intP i)]) g1=M (Ç (i>=0),i))
  (e2:∀i:Í,j87 (bwE T) A2 (slF [(3,intP i)]) g3=M (w64 (i-1)))
  (e3:∀(xs:D t.den)(i:Í),j86 (bwE T) l3 (slF [(1,lstP t xs),(3,intP i)]) (g16 t)=cond (inR i (Î xs)) (M (i,ï xs (Int.toNat i) t.dflt,i)) U)
  (e7:∀(b:Å)(i:Í),j86 (bwE T) [o7] (slF [(17,.one (.d .bool b)),(3,intP i)]) g18=M (!b,i)):BwOK P f t:=by
 refine⟨⟨fn,hf,by rw[hb];rfl,hnm⟩,?_⟩;intro cv m l J Jx W S hst hstx hhere hY hstart hJ0;have hC:j7I P (bwE T).C:=λf=>jgg;obtain⟨S0,xs0,hm,hS0,hcap0⟩:=hstart
 obtain⟨z0,hz0⟩:∃z0,cv = #[z0]:=by
  have:=hcap0.length;obtain⟨cl⟩:=cv;match cl,this with
  |[z],_=>exact⟨z,rfl⟩
 subst hz0;refine callsIn_of_wp hf hb trivial ?_;rw[hnt];obtain⟨yv,hyv⟩:∃yv,yv=Value.func (.yield l) #[] #[]:=⟨_,rfl⟩;obtain⟨R,hR⟩:∃R:Ending->Ä->Prop,R=λe W'=>(∃v,e = .returned v)/\((∃S',J m S' W')\/Jx W'):=⟨_,rfl⟩;rw[<-hyv,<-hR];let fx:O->I Value:=λi=>if i=0 then M yv else if i=1 then M z0 else U
 let Fr:Ê->Prop:=λa=>a.tmps.size=19/\a.defers=[]/\tm a 0=yv/\tm a 1=z0
 let ù:Ê->Ä->Prop:=λa W=>Fr a/\∃j S,j<=m/\J j S W/\tm a 3 = .int .i64 ((m:Í)-1-j)
 let μ:Ê->Ä->Nat:=λa W=>match tm a 3 with
  |.int _ v=>(v+1).toNat
  |_=>0
 have hfin:∀{a:Ê}{W':Ä},a.defers=[]->((∃S',J m S' W')\/Jx W')->a.defers=[]/\∃v,(results fn a.tmps).run P W' = .ok v W'/\R (.returned v) W':=by intro a W' hd h;exact⟨hd,_,results_none hres _ _ _,by simp_all⟩
 have hfr:∀{σ:St}{a:Ê}{w w0:Ä}{S S0:j0e}{γ:O->Ã},Rel (bwE T).N (bwE T).np S0 w0 { blks:=[],val:=λ_=>U,fix:=fx } σ a w S γ->Fr a:=λhR=>
  ⟨hR.size,hR.defers,(hR.fix 0 yv rfl).2,(hR.fix 1 z0 rfl).2⟩
 have hfixI:∀{a:Ê},Fr a->∀i v,fx i=M v->(bwE T).N.pin i=À/\tm a i=v:=by
  intro a ha i v hv;simp only[fx]at hv;split at hv
  .rename_i e;subst e;simp only[j3]at hv;subst hv;exact⟨rfl,ha.2.2.1⟩
  .split at hv
   .rename_i _ e;subst e;simp only[j3]at hv;subst hv;exact⟨rfl,ha.2.2.2⟩
   .simp at hv
 have same:∀{j:O}{S:j0e}{W W':Ä},J j S W->Grew W W'->jne S W S W':=λhJ hg=>⟨λ_ _ h=>h,λ_ _ h=> .inl h,λg o h=>ã (hhere _ _ _ hJ g o h) hg.size⟩
 have hmlt:m<=9223372036854775807:=by
  obtain⟨g,o,cs,_,hall,_⟩:=hcap0.1;match cs,hall with
  |[z],hall=>obtain⟨ad,cap,_,h1,h2,_⟩:=hall.1;grind[maxLen]
 obtain⟨a0,ha0⟩:∃a0:Ê,a0={ tmps:=#[yv] ++ #[z0]++Array.replicate (19-(#[yv] ++ #[z0]).size) undef,defers:=[] }:=⟨_,rfl⟩;rw[<-ha0]
 have hFr0:Fr a0:=by
  subst ha0;refine⟨?_,rfl,?_,?_⟩
  .simp
  .simp[tm]
  .simp[tm]
 have hstart:Rel (bwE T).N (bwE T).np S0 W { blks:=[],val:=λ_=>U,fix:=fx } (slF [(1,lstP t xs0)]) a0 W S0 (λ_=>undef):=
  jbK hFr0.1 hFr0.2.1 (λ_=>rfl) hS0 (jdz (λx hx=>by
   simp only[ä]at hx;subst hx;rw[hFr0.2.2.2];exact⟨hcap0.1,λ_=>by obtain⟨g,o,cs,hu,_⟩:=hcap0.1;rw[hu];rfl⟩)) (hfixI hFr0)
 refine wpIn_seq (wpIn_mono (jp3 hT hstart (jgi _) (e0 xs0)) ?_)
 rintro e a W1 ⟨rfl,σ1,S1,γ1,hR1,hk1⟩
 show (Ý b0 _).wpIn _ _ _ _ _ _;have h3:=jcb hR1 (jtW hk1);refine wpIn_block (wpIn_loop ù μ ⟨hfr hR1,0,S,Ñ _,hst _ _ _ _ _ (j9p hR1) (same hJ0 (j9p hR1)) hJ0,?_⟩ ?_)
 .grind[j5Z]
 .rintro a W ⟨hFr,j,S,hjm,hJ,h3⟩
  have hint:∀{a:Ê}{W:Ä}{S:j0e}{v:Í},tm a 3 = .int .i64 v->j0l S W (λ_=>undef) (λ_=> .free) (intP v) (tm a 3):=λh=>by rw[h];exact⟨rfl,λ_=>rfl⟩
  have hRs:Rel (bwE T).N (bwE T).np S W { blks:=[],val:=λ_=>U,fix:=fx } (slF [(3,intP ((m:Í)-1-j))]) a W S (λ_=>undef):=
   jbK hFr.1 hFr.2.1 (λ_=>rfl) (hhere _ _ _ hJ) (jdz (λx hx=>by
    grind)) (hfixI hFr)
  refine wpIn_seq (wpIn_seq (wpIn_mono (jp3 hT hRs (jgi _) (e1 _)) ?_))
  rintro e a1 W1 ⟨rfl,σ1,S1,γ1,hR1,hk1⟩
  obtain⟨h8,h31⟩:=juI hk1;have h31:=jcb hR1 h31;have h8:a1.eval (.tmp 8) = .bool (Ç ((m:Í)-1-j>=0)):=jjS hR1 h8;have hJ1:=hst _ _ _ _ _ (j9p hR1) (same hJ (j9p hR1)) hJ;have hFr1:=hfr hR1;show (Õ _ _ _).wpIn _ _ _ _ _ _;by_cases hpos:(m:Í)-1-j>=0
  case neg=>rw[decide_eq_false hpos]at h8;refine wpIn_cond_false h8 (wpIn_exit ?_);show Á b0 (bodyPost P fn R) (.exit b0) a1 W1;simp only[Á,if_true];have hj:j=m:=omg_;subst hj;exact hfin hFr1.2.1 (.inl ⟨S,hJ1⟩)
  case pos=>
  rw[decide_eq_true hpos]at h8;refine wpIn_cond_true h8 (wpIn_skip ?_);show (Code.seq _ _).wpIn _ _ _ _ _ _;have hjlt:j<m:=omg_;obtain⟨xs,hcap,hlen,hyl⟩:=hY j S W1 hjlt hJ1;refine wpIn_seq (wpIn_block (wpIn_seq (wpIn_region ?_)));obtain⟨ops,hops⟩:∃ops,ops=(o0::(l3++[o6,o7])).toArray:=⟨_,rfl⟩;rw[<-hops];have hat:∀k,ops[k]? = (o0::(l3++[o6,o7]))[k]? := λk=>by rw[hops];exact List.getElem?_toArray
  have hgd:∀o∈o0::(l3++[o6,o7]),o.guard=none:=λo ho=>by have:=List.all_eq_true.1 hbare o ho;simpa using this
  have hsz:ops.size=8:=by rw[hops];simp[hl3]
  have hw:∀(o:á)(a:Ê),o∈o0::(l3++[o6,o7])->Ú o (yielded ops a.tmps)=true:=λo a ho=>by simp[Ú,hgd o ho]
  rw[hsz,show â 8=0::(ö 1 l3.length++[6,7]) by rw[hl3];rfl];have hop0:ops[0]? = M o0:=by rw[hat];rfl
  simp only[wpOpsIn,hop0,hw o0 _ (List.mem_cons_self ..),if_true];refine jih (.inl rfl) (λ_ _ h=>h) ?_;unfold Oper.wp;rw[show (execOp a1.eval o0).run P W1 = .ok (.value (a1.eval (.tmp 0))) W1 by simp[execOp,h0op,go_sem],Oper.upon_value,h0d];have he0:a1.eval (.tmp 0)=yv:=hFr1.2.2.1;rw[he0];have hlt11:11<a1.tmps.size:=by rw[hFr1.1];omega
  obtain⟨a2,ha2⟩:∃a2,a2=a1.put (M 11) yv:=⟨_,rfl⟩;rw[<-ha2];have htm2:∀i,tm a2 i=if i=11 then yv else tm a1 i:=λi=>by rw[ha2];exact jju hlt11 yv i
  have hFr2:Fr a2:=⟨by rw[ha2,jib];exact hFr1.1,by rw[ha2,jeu];exact hFr1.2.1,by rw[htm2];exact hFr1.2.2.1,by rw[htm2];exact hFr1.2.2.2⟩;let fx2:O->I Value:=λi=>if i=11 then M yv else fx i
  have hR2:Rel (bwE T).N (bwE T).np S W1 { blks:=[],val:=λ_=>U,fix:=fx2 } (slF [(1,lstP t xs),(3,intP ((m:Í)-1-j))]) a2 W1 S (λ_=>undef):=
   jbK hFr2.1 hFr2.2.1 (λ_=>rfl) (hhere _ _ _ hJ1) (jdz (λx hx=>by
    simp only[ð,ê,or_false]at hx;rcases hx with rfl|rfl
    .rw[hFr2.2.2.2];exact⟨hcap.1,λ_=>by obtain⟨g,o,cs,hu,_⟩:=hcap.1;rw[hu];rfl⟩
    grind)) (λi v hv=>by
     simp only[fx2]at hv;split at hv
     .rename_i e;subst e;simp only[j3]at hv;subst hv;exact⟨rfl,by rw[htm2,if_pos rfl]⟩
     .exact hfixI hFr2 i v hv)
  have hx:∃x,xs[m-1-j]? = M x/\ï xs (Int.toNat ((m:Í)-1-j)) t.dflt=x:=by
   simp_all
  obtain⟨x,hx,hxd⟩:=hx;have he3:=e3 xs ((m:Í)-1-j)
  rw[hxd,show inR ((m:Í)-1-j) (Î xs)=À by
   grind[inR],j4]at he3
  refine jld hT hC ?_ l3 1 (λk o hk=>⟨?_,?_⟩) hR2 (jgi _) he3
  rotate_left
  .rw[hat,ó,List.getElem?_cons_succ,Ð (List.getElem?_eq_some_iff.1 hk).1];exact hk
  .exact hgd o (List.mem_cons_of_mem _ (Ô _ (List.mem_of_getElem? hk)))
  intro σ3 a3 W3 S3 γ3 hR3 _ hk3;obtain⟨h12,h33,c,h16,hd16⟩:=jtY hk3;have h12:=jcb hR3 h12;have h33:=jcb hR3 h33;have hv16:VRep S3 W3 ⟨t,x⟩ (tm a3 16):=by have:=hR3.slot 16;rw[h16]at this;exact(j9V (np:=(bwE T).np) jqK hR3.box hd16 this).2.1 S3 W3 (.refl _ _) (λy hy=>by simp at hy)
  have hg3:=j9p hR3;have h11:tm a3 11=yv:=(hR3.fix 11 yv rfl).2;have hFr3:Fr a3:=⟨hR3.size,hR3.defers,(hR3.fix 0 yv rfl).2,(hR3.fix 1 z0 rfl).2⟩;obtain⟨fn6,tmps6,as6,bo6,hy6,hround⟩:=hyl S3 W3 x _ hg3 ⟨hR3.ext,λg o h=>(hR3.new g o h).imp id λh=>h.nil rfl,hR3.here⟩ hx hv16;have hop6:ops[6]? = M o6:=by simp_all
  have hop7:ops[7]? = M o7:=by simp_all
  simp only[wpOpsIn,hop6,hw o6 _ smp_,if_true];refine⟨λ_ _=>trivial,?_⟩
  have hrun:(execOp a3.eval o6).run P W3 = .ok (.round l fn6 tmps6 as6 bo6) W3:=by
   refine jjR h6op h6c (l:=l) (by rw[<-hyv];exact h11) ?_;rw[h6a];have e12:a3.eval (.tmp 12) = .int .i64 ((m-1-j:O):Í):=by rw[show ((m-1-j:O):Í)=(m:Í)-1-j by omega];exact h12
   have e16:a3.eval (.tmp 16)=tm a3 16:=rfl
   simp_all
  rw[show o6.semAt (FR U).round a3.eval=execOp a3.eval o6 from rfl,hrun,Oper.uponIn_round];refine⟨λhd=>by simp[FR,Fence.wide]at hd,?_⟩;refine RoundIn.mono ⟨hround.1,λc cs _=>hround.2 c cs (joE _ _)⟩ ?_;have hlt17:17<a3.tmps.size:=by rw[hFr3.1];omega
  have rest:∀(bb:Å)(W4:Ä)(S4:j0e),(∀g o,S4 g o->g<W4.heap.size)->
    (∀a5 W5,Fr a5->Grew W4 W5->tm a5 18 = .bool (!bb)->tm a5 3 = .int .i64 ((m:Í)-1-j)->(Exit.then ((Õ (.tmp 18) .ret .skip).wpIn (FR U) 0 P (Á b1 (Exit.then ((Â r2 A2 Z).wpIn (FR U) 0 P (Exit.then (λa' W'=>ù a' W'/\μ a' W'<μ a W) (Á b0 (bodyPost P fn R))))
     (Exit.then (λa' W'=>ù a' W'/\μ a' W'<μ a W) (Á b0 (bodyPost P fn R)))))) (Á b1 (Exit.then ((Â r2 A2 Z).wpIn (FR U) 0 P (Exit.then (λa' W'=>ù a' W'/\μ a' W'<μ a W) (Á b0 (bodyPost P fn R))))
     (Exit.then (λa' W'=>ù a' W'/\μ a' W'<μ a W) (Á b0 (bodyPost P fn R)))))) .normal a5 W5)->
    wpOpsIn (FR U) 0 P ops (Exit.then ((Õ (.tmp 18) .ret .skip).wpIn (FR U) 0 P (Á b1 (Exit.then ((Â r2 A2 Z).wpIn (FR U) 0 P (Exit.then (λa' W'=>ù a' W'/\μ a' W'<μ a W) (Á b0 (bodyPost P fn R))))
     (Exit.then (λa' W'=>ù a' W'/\μ a' W'<μ a W) (Á b0 (bodyPost P fn R)))))) (Á b1 (Exit.then ((Â r2 A2 Z).wpIn (FR U) 0 P (Exit.then (λa' W'=>ù a' W'/\μ a' W'<μ a W) (Á b0 (bodyPost P fn R))))
     (Exit.then (λa' W'=>ù a' W'/\μ a' W'<μ a W) (Á b0 (bodyPost P fn R)))))) [7] (a3.put o6.dst (.bool bb)) W4:=by
   intro bb W4 S4 hS4 hnext;rw[h6d];obtain⟨a4,ha4⟩:∃a4,a4=a3.put (M 17) (.bool bb):=⟨_,rfl⟩;rw[<-ha4];have htm4:∀i,tm a4 i=if i=17 then .bool bb else tm a3 i:=λi=>by rw[ha4];exact jju hlt17 _ i
   have hFr4:Fr a4:=⟨by rw[ha4,jib];exact hFr3.1,by rw[ha4,jeu];exact hFr3.2.1,by rw[htm4];exact hFr3.2.2.1,by rw[htm4];exact hFr3.2.2.2⟩
   have hR4:Rel (bwE T).N (bwE T).np S4 W4 { blks:=[],val:=λ_=>U,fix:=fx } (slF [(17,.one (.d .bool bb)),(3,intP ((m:Í)-1-j))]) a4 W4 S4 (λ_=>undef):=
    jbK hFr4.1 hFr4.2.1 (λ_=>rfl) hS4 (jdz (λx hx=>by
     simp only[ð,ê,or_false]at hx;rcases hx with rfl|rfl
     .rw[htm4,if_pos rfl];exact⟨rfl,λ_=>rfl⟩
     .exact hint (by rw[htm4];exact h33))) (hfixI hFr4)
   refine jld (rest:=[]) hT hC (λσ5 a5 W5 S5 γ5 hR5 _ hk5=>?_) [o7] 7 (λk o hk=>?_) hR4 (jgi _) (e7 bb _)
   .obtain⟨q1,q2⟩:=jtX hk5;exact hnext a5 W5 (hfr hR5) (j9p hR5) (jjS hR5 q1) (jcb hR5 q2)
   .cases k with
    |zero=>simp at hk;subst hk;exact⟨hop7,hgd _ smp_⟩
    |succ k=>simp at hk
  rintro e W4 (⟨rfl,S4,hJ4⟩|⟨rfl,hx4⟩)
  .refine rest À W4 S4 (hhere _ _ _ hJ4) (λa5 W5 hFr5 hg5 h18 h35=>?_);refine wpIn_cond_false (c:= .tmp 18) h18 (wpIn_skip ?_);show (Â r2 A2 Z).wpIn _ _ _ _ _ _;have hJ5:=hst _ _ _ _ _ hg5 (same hJ4 hg5) hJ4
   have hR5:Rel (bwE T).N (bwE T).np S4 W5 { blks:=[],val:=λ_=>U,fix:=fx } (slF [(3,intP ((m:Í)-1-j))]) a5 W5 S4 (λ_=>undef):=
    jbK hFr5.1 hFr5.2.1 (λ_=>rfl) (hhere _ _ _ hJ5) (jdz (λx hx=>by
     simp only[ä]at hx;subst hx;exact hint h35)) (hfixI hFr5)
   refine wpIn_mono (jp3 hT hR5 (jgi _) (e2 _)) ?_
   rintro e a6 W6 ⟨rfl,σ6,S6,γ6,hR6,hk6⟩
   have h36:=jcb hR6 (jtW hk6);rw[j5Z omg_ omg_]at h36;refine⟨⟨hfr hR6,j+1,S4,omg_,hst _ _ _ _ _ (j9p hR6) (same hJ5 (j9p hR6)) hJ5,?_⟩,?_⟩
   .rw[h36];congr 1;push_cast;omega
   .simp only[μ,h36,h3];omega
  .refine rest Z W4 (λ_ _=>False) (λ_ _ h=>h.elim) (λa5 W5 hFr5 hg5 h18 h35=>?_);refine wpIn_cond_true (c:= .tmp 18) h18 (wpIn_ret ?_);exact hfin hFr5.2.1 (.inr (hstx _ _ hg5 hx4))
def j8M:Ü->D (O×Þ á)
 |.seq x y=>j8M x++j8M y
 |.cond _ x y=>j8M x++j8M y
 |.block _ c=>j8M c
 |.loop c=>j8M c
 |.region id ops _=>[(id,ops)]
 |_=>[]
def bwA(fn:î)(i:O):Þ Oper:=(((j8M (fn.body.getD .skip)).find? λx=>x.1==i).getD (0, #[])).2
def opAt(A:Þ á)(i:O):Oper:=(A[i]?).getD default
def jp4(o:á):Call:=match o.op with
 |.call c=>c
 |_=>default
theorem jtZ{P:Y}{T:O->I TyI}(hT:j1J P T){f:O}{t:Ty}{fn:î}(hf:P.funcs[f]? = M fn){A0 A1 A2 A3:Þ á}
  (hb:fn.body=M ((Â 0 A0 Z).seq (Ý 0 ((((Â 1 A1 Z).seq (Õ (.tmp 8) .skip (.exit 0))).seq ((Ý 1 ((Â 3 A3 Z).seq (Õ (.tmp 18) .ret .skip))).seq (Â 2 A2 Z))).loop))))
  (hA:A3=(opAt A3 0::((A3.toList.drop 1).take 5++[opAt A3 6,opAt A3 7])).toArray)
  (hnt : fn.ntmps = 19) (hres : fn.results = #[]) (hnm : (fn.name == "runtime.NumGoroutine") = Z) (hl3 : ((A3.toList.drop 1).take 5).length = 5) (hbare : (opAt A3 0 :: ((A3.toList.drop 1).take 5 ++ [opAt A3 6, opAt A3 7])).all (fun o => o.guard.isNone) = À)
  (h0op:(opAt A3 0).op = .move (.tmp 0))(h0d:(opAt A3 0).dst=M 11)(h6op:(opAt A3 6).op = .call (jp4 (opAt A3 6)))(h6c:(jp4 (opAt A3 6)).callee = .value (.tmp 11))(h6a:(jp4 (opAt A3 6)).args = #[.tmp 12,.tmp 16]/\(opAt A3 6).dst=M 17)
  (e0:∀xs:D t.den,j87 (bwE T) A0 (slF [(1,lstP t xs)]) g3=M (w64 (Int.ofNat (Î xs)-1)))
  (e1:∀i:Í,j87 (bwE T) A1 (slF [(3,intP i)]) g1=M (Ç (i>=0),i))
  (e2:∀i:Í,j87 (bwE T) A2 (slF [(3,intP i)]) g3=M (w64 (i-1)))
  (e3:∀(xs:D t.den)(i:Í),j86 (bwE T) ((A3.toList.drop 1).take 5) (slF [(1,lstP t xs),(3,intP i)]) (g16 t)=cond (inR i (Î xs)) (M (i,ï xs (Int.toNat i) t.dflt,i)) U)
  (e7:∀(b:Å)(i:Í),j86 (bwE T) [opAt A3 7] (slF [(17,.one (.d .bool b)),(3,intP i)]) g18=M (!b,i)):BwOK P f t:=by
 grind[juJ]
section
variable{P:Y}{E:Env}{ops pre:Þ á}{cl:D O}{τ:O->St}{S0:j0e}{w0:Ä}{refs:Å->Refs}
end
def g7(σ:St):I (Å×Í):=match σ.sl 7,σ.sl 3 with
 |.one (.one (.d .bool b)),.one (.one (.d (.int .i64) v))=>M (b,v)
 |_,_=>U
theorem Grew.trans{w w' w'':Ä}(h:Grew w w')(h':Grew w' w''):Grew w w'':=
 ⟨λg hg=>(h'.old g (ã hg h.size)).trans (h.old g hg),Nat.le_trans h.size h'.size,h'.os.trans h.os,h'.tape.trans h.tape,h'.output.trans h.output⟩
open Go.RowKit Go.WideShapes Go.ChangeShapes
theorem jp5{P:Y}{f:O}{ps:D APat}{ts:D Ty}{F:HL ts->I Å}(hok:Con.OK P ⟨f,ps,ts,⟨[.v .bool],[]⟩,[.bool],F⟩)(h:HL ts)(hF:F h=M À)
  (w:Ä)(S:j0e)(vals:D Ã)(ha:All2 (j9Z S w) (jgW ps ts h) vals)(hr:j1E (jgW ps ts h) vals=[])(hS:∀g o,S g o->g<w.heap.size)(hu:jga ps ts (jgW ps ts h)=M h) :
  Calls P f vals.toArray w λe w'=>e = .returned (.bool À)/\Below w.heap.size w w':=by
 have:=(hok (jgW ps ts h) Ret M (jlc ⟨[.v .bool],[]⟩ [.bool] À) (by
  unfold Con.C;rw[hu];show (F h).bind _=_;rw[hF];rfl)).2
 refine(this w S vals ha (by rw[hr];exact List.nodup_nil) hS).mono ?_
 rintro e w' ⟨ret,hret,v,S',vs,rfl,hok⟩
 simp only[j3]at hret;subst hret;have hrep:All2 (jfj S' w') [.v ⟨.bool,À⟩] vs:=hok.rep;refine⟨?_,hok.os,hok.tape,hok.output,hok.grow,λk hk=>hok.below k hk (by rw[hr];simp)⟩;rw[hok.val];match vs,hrep with
 |[u],hrep=>have h1:=hrep.1;have h2:u.cells.toList=[.bool À]/\(j9b Ty.bool=À->∃cs,u=Value.agg cs)/\(j9b Ty.bool=Z->One u):=h1;have h3:=j9U (h2.2.2 rfl);rw[h2.1]at h3;simp only[List.cons.injEq,and_true]at h3;rw[<-h3];rfl
 |[],hrep=>exact absurd hrep (by simp[All2])
 |_::_::_,hrep=>exact absurd hrep (by simp[All2])
theorem jiv{H:Type}{enc:Ó×Ã->H}{P:Y}{f:î}{s:ChangeSpec}{apart fresh handsOn again:Å}{W W':Ä}{args:Þ Ã}{v:Ã}{ds gs:D (æ H)}{before pa pv:D Ö}
  (hW:DataW.Whole enc P f.params.toList s.vars apart W args.toList ds gs before)
  (hres:∀(b:O)(sp:O->Å)(hd:Å),ñ enc P W' b sp hd f.resultTypes.toList (v.resultList f.resultTypes.size) (s.fn H (ds++gs)).results [])
  (hargs:∀sp:O->Å,(∀p∈before,sp p.block=À)->ñ enc P W' 0 sp À f.params.toList args.toList (s.fn H (ds++gs)).args pa)
  (hvars:∀sp:O->Å,(∀p∈before,sp p.block=À)->DataW.TrodVars enc P W' sp s.vars (s.fn H (ds++gs)).vars pv)
  (hps:before=pa++pv)(hb:Below W.heap.size W W')
  (hok:∀(j:O)(t:Ó)(r:Ã),f.resultTypes[j]? = M t->(v.resultList f.resultTypes.size)[j]? = M r->Ø P W' .any 0 t r) :
  s.post enc P f apart fresh handsOn again W args v W':=by
 have hlt:∀p∈before,p.block<W.heap.size:=λp hp=>hW.lt p hp;have hold:∀p∈before,(λb=>Ç (b<W.heap.size)) p.block=true:=λp hp=>by simpa using hlt p hp
 refine⟨ds,gs,before,[],pa,pv,hW,hres _ _ _,hargs _ hold,hvars _ hold,World.keptBut_mono (λp hp=>⟨hp,?_⟩) (hb.frame (· ∈ before)),λ_=>?_⟩
 .rw[hps,List.mem_append]at hp;exact Or.inr hp
 .obtain⟨_,_,_,_,_,hz,hn⟩:=hW;refine⟨hok,_,_,([]++pa)++pv,⟨[]++pa,pv,trodAll_append (hargs _ (λ_ _=>rfl)) (hres _ _ _),hvars _ (λ_ _=>rfl),rfl,?_,?_⟩,?_⟩
  .intro b off hp;have hin:MemPlace.cell b off∈before:=by rw[hps];simpa using hp
   rw[hb.frozen (hlt _ hin)];exact hz b off hin
  .intro ha;have:=hn ha;rw[hps]at this;simpa using this
  .intro p hp _;rw[hps];simpa using hp
open Go.RowKit Go.WideShapes Go.ChangeShapes
def jf7(P:Y)(f:Ó->Ty->Å):D Field->O->Ty->Å
 |[],_,_=>Z
 |[x],off,b=>Ç (x.offset=off)&&Ç (P.cellsOf x.type=b.size)&&f x.type b
 |x::y::r,off,.pair a b=>Ç (x.offset=off)&&Ç (P.cellsOf x.type=a.size)&&f x.type a&&jf7 P f (y::r) (off+a.size) b
 |_,_,_=>Z
def jeB(P:Y):O->Ó->Ty->Å
 |0,_,_=>Z
 |n+1,t,ty=>match P.underlying t with
  |some (.int k)=>Ç (ty = .int k)
  |some .bool=>Ç (ty = .bool)
  |some .string=>Ç (ty = .str)
  |some (.slice e)=>match ty with
   |.list a=>jeB P n e a&&Ç (P.cellsOf e=a.size)&&Ç (0<a.size)
   |_=>Z
  |some (.struct fs)=>Ç (P.cellsOf t=ty.size)&&match fs.toList,ty with
   |[x],.wrap a=>jf7 P (jeB P n) [x] 0 a
   |x::y::r,.pair a b=>jf7 P (jeB P n) (x::y::r) 0 (.pair a b)
   |_,_=>Z
  |_=>Z
def Wf:(t:Ty)->t.den->Prop
 |.int k,n=>(Lit.int k n).wf=À
 |.bool,_=>ü
 |.str,s=>s.size<=maxLen
 |.unit,_=>ü
 |.wrap a,v=>Wf a v
 |.pair a b,v=>Wf a v.1/\Wf b v.2
 |.list a,xs=>Î xs<=maxLen/\∀x∈(show D a.den from xs),Wf a x
 |.arr _ _,_=>ü
theorem jfy{α β:Type}{f:α->I β}:∀{l:D α}{ys:D β},l.mapM f=M ys->ys.length=l.length/\∀(i:O)(x:α),l[i]? = M x->∃y,ys[i]? = M y/\f x=M y
 |[],ys,h=>by
  simp at h;subst h;exact⟨rfl,λi x hx=>by simp at hx⟩
 |a::l,ys,h=>by
  rw[È]at h;cases ha:f a with
  |none=>simp[ha]at h
  |some y=>
   cases hl:l.mapM f with
   |none=>simp[ha,hl]at h
   |some zs=>
    simp[ha,hl]at h;subst h;obtain⟨h1,h2⟩:=jfy hl;refine⟨by simp[h1],λi x hx=>?_⟩;cases i with
    |zero=>simp at hx;subst hx;exact⟨y,rfl,ha⟩
    |succ i=>simp at hx;obtain⟨z,hz,hf⟩:=h2 i x hx;exact⟨z,by simpa using hz,hf⟩
theorem jgj{α β:Type}{f:α->I β}:∀{l:D α}{ys:D β},ys.length=l.length->(∀(i:O)(x:α),l[i]? = M x->f x=ys[i]?)->l.mapM f=M ys
 |[],ys,h,_=>by
  have:ys=[]:=Ë (by simpa using h);subst this;rfl
 |a::l,[],h,_=>by simp at h
 |a::l,y::ys,h,hg=>by
  have h0:f a=M y:=by simpa using hg 0 a rfl
  rw[È,h0,jgj (ys:=ys) (by simpa using h) (λi x hx=>by simpa using hg (i+1) x (by simpa using hx))];rfl
theorem jdA{α β:Type}{f g:α->I β}:∀{l:D α}{ys:D β},l.mapM f=M ys->(∀x∈l,∀y,y∈ys->f x=M y->g x=M y)->l.mapM g=M ys
 |[],ys,h,_=>by simpa using h
 |a::l,ys,h,hk=>by
  rw[È]at h ⊢;cases ha:f a with
  |none=>simp[ha]at h
  |some y=>
   cases hl:l.mapM f with
   |none=>simp[ha,hl]at h
   |some zs=>simp[ha,hl]at h;subst h;rw[hk a smp_ y smp_ ha,jdA hl (λx hx z hz hf=>hk x (by simp[hx]) z (by simp[hz]) hf)];rfl
theorem jgk{α:Type}{Q:O->α->Prop}:∀n,(∀i,i<n->∃x,Q i x)->∃xs:D α,xs.length=n/\∀i x,xs[i]? = M x->Q i x
 |0,_=>⟨[],rfl,λi x h=>by simp at h⟩
 |n+1,h=>by
  obtain⟨xs,hl,hx⟩:=jgk n (λi hi=>h i omg_);obtain⟨x,hq⟩:=h n omg_;refine⟨xs++[x],by simp[hl],λi y hy=>?_⟩;rcases ô i n with hi|hi
  .rw[Ð omg_]at hy;exact hx i y hy
  .have:i=n:=by have:=(List.getElem?_eq_some_iff.1 hy).1;simp[hl]at this;omega
   subst this;rw[Ù omg_,hl,Nat.sub_self]at hy;simp at hy;subst hy;exact hq
theorem jp6{α β:Type}{R:α->β->Prop}:∀{as:D α}{bs:D β},as.length=bs.length->(∀(i:O)(a:α)(b:β),as[i]? = M a->bs[i]? = M b->R a b)->All2 R as bs
 |[],[],_,_=>trivial
 |a::as,b::bs,hl,h=>⟨h 0 a b rfl rfl,jp6 (by simpa using hl) λi x y hx hy=>h (i+1) x y (by simpa using hx) (by simpa using hy)⟩
 |[],_::_,hl,_=>by simp at hl
 |_::_,[],hl,_=>by simp at hl
theorem jhE{m:O}:∀{css:D (D Ã)},(∀c∈css,c.length=m)->∀{j:O}{v:Ã},css.flatten[j]? = M v->∃i r c,j=i*m+r/\r<m/\css[i]? = M c/\c[r]? = M v
 |[],_,j,v,h=>by simp at h
 |c::css,hl,j,v,h=>by
  simp only[List.flatten_cons]at h;have hc:=hl c smp_;rcases ô j c.length with hj|hj
  .rw[Ð hj]at h;exact⟨0,j,c,omg_,omg_,rfl,h⟩
  .rw[Ù hj]at h;obtain⟨i,r,c',e,hr,hi,hv⟩:=jhE (λx hx=>hl x (by simp[hx])) h;exact⟨i+1,r,c',by rw[Nat.add_mul];omega,hr,by simpa using hi,hv⟩
def Ext(W W':Ä):Prop:=∀(k:O) x,W.heap[k]? = M x->W'.heap[k]? = M x
theorem Ext.cell{W W':Ä}(h:Ext W W'){a:Addr}{v:Ã}(hc:W.cell? a=M v):W'.cell? a=M v:=by
 unfold World.cell? at hc ⊢;split at hc
 .rename_i c _ _ hb;rw[h _ _ hb];exact hc
 .simp at hc
theorem Ext.cells{W W':Ä}(h:Ext W W'){a:Addr}{n:O}{cs:D Ã}(hc:W.cells? 0 a n=M cs):W'.cells? 0 a n=M cs:=by
 unfold World.cells? at hc ⊢;simp only[Ñ,if_true]at hc ⊢;exact jdA hc λi _ y _ hf=>h.cell hf
theorem jgl{W:Ä}{a:Addr}{n:O}{cs:D Ã}(hc:W.cells? 0 a n=M cs):cs.length=n/\∀i v,cs[i]? = M v->W.cell? (a.add i)=M v:=by
 unfold World.cells? at hc;simp only[Ñ,if_true]at hc;obtain⟨h1,h2⟩:=jfy hc;simp only[ç]at h1;refine⟨h1,λi v hv=>?_⟩;have hi:i<n:=by rw[<-h1];exact(List.getElem?_eq_some_iff.1 hv).1
 obtain⟨y,hy,hf⟩:=h2 i i (by simp[hi]);rw[hv]at hy;simp at hy;subst hy;exact hf
theorem jhF{W:Ä}{a:Addr}{v:Ã}(h:W.cell? a=M v):a.block<W.heap.size/\a.spot=none:=by
 unfold World.cell? at h;split at h
 .rename_i c _ _ hb;refine⟨(Array.getElem?_eq_some_iff.1 hb).1,?_⟩;split at h
  .simp at h
  .rename_i hs;simpa using hs
 .simp at h
def oldS(W:Ä):j0e:=λg _=>g<W.heap.size
def jp7{H:Type}(enc:Ó×Ã->H)(P:Y)(W:Ä)(held:Å)(fuel:O)(t:Ó)(ty:Ty)(cs:D Ã)(d:æ H)(ps:D Ö):Prop:=
 cs.length=ty.size/\(∃v:ty.den,Rep (oldS W) W ty v cs/\Wf ty v)/\
  ∀W' sp,Ext W W'->(∀q∈ps,sp q.block=À)->X enc P W' 0 sp held fuel t cs=M (d,ps)
section
variable{H:Type}{enc:Ó×Ã->H}{P:Y}{W:Ä}{held:Å}
theorem jp8{a:Addr}{n:O}(hn:0<n):∃q∈MemPlace.row a n,q.block=a.block:=
 ⟨.cell a.block (a.off+0),List.mem_map.2 ⟨0,by simp[hn],rfl⟩,rfl⟩
theorem jle{n:O}{t e:Ó}{el:Ty}(hu:P.underlying t=M (.slice e))(hsz:P.cellsOf e=el.size)(hpos:0<el.size){fuel:O}{cs:D Ã}{d:æ H}{ps:D Ö}
  (ih:∀(m:O)(cs:D Ã)(d:æ H)(ps:D Ö),X enc P W 0 (λ_=>À) held m e cs=M (d,ps)->jp7 enc P W held m e el cs d ps)
  (h:X enc P W 0 (λ_=>À) held fuel t cs=M (d,ps)):jp7 enc P W held fuel t (.list el) cs d ps:=by
 cases fuel with
 |zero=>simp[X]at h
 |succ m=>
  have h':=h;unfold X at h;rw[hu]at h;split at h;all_goals (try (rename_i heq _;simp at heq;done))
  all_goals (try (rename_i heq;simp at heq;done))
  .rename_i heq;refine⟨rfl,⟨[],⟨U,0,rfl,ø _,Ñ _,λ_=>rfl,λb hb=>by simp at hb⟩,⟨Ñ _,smp_⟩⟩,λW' sp _ _=>?_⟩;unfold X;rw[hu];exact h
  .rename_i e' a len cap heq;simp only[j3,TypeDesc.slice.injEq]at heq;subst heq;simp only[Ñ,true_and,if_true]at h;split at h
   .rename_i hc;cases hel:(â len).mapM (λi=>(W.cells? 0 (a.add (i*P.cellsOf e)) (P.cellsOf e)).bind (X enc P W 0 (λ_=>À) held m e)) with
    |none=>rw[hel]at h;simp at h
    |some elems=>
     rw[hel]at h;simp only[j0]at h;cases hre:(â (cap-len)).mapM (λj=>(W.cells? 0 (a.add ((len+j)*P.cellsOf e)) (P.cellsOf e)).bind (X enc P W 0 (λ_=>À) held m e)) with
     |none=>rw[hre]at h;simp at h
     |some rest=>
      rw[hre]at h;simp only[Option.map_some,j3,j7]at h;obtain⟨rfl,rfl⟩:=h;obtain⟨l1,g1⟩:=jfy hel;obtain⟨l2,g2⟩:=jfy hre;simp only[ç]at l1 l2
      have one:∀i y,(W.cells? 0 (a.add (i*P.cellsOf e)) (P.cellsOf e)).bind (X enc P W 0 (λ_=>À) held m e)=M y->∃c,W.cells? 0 (a.add (i*P.cellsOf e)) (P.cellsOf e)=M c/\jp7 enc P W held m e el c y.1 y.2:=by
       intro i y hy;cases hc:W.cells? 0 (a.add (i*P.cellsOf e)) (P.cellsOf e) with
       |none=>rw[hc]at hy;simp at hy
       |some c=>rw[hc]at hy;exact⟨c,rfl,ih m c y.1 y.2 hy⟩
      refine⟨rfl,?_,?_⟩
      .have each:∀i,i<len->∃x:el.den×D Ã,W.cells? 0 (a.add (i*P.cellsOf e)) (P.cellsOf e)=M x.2/\Rep (oldS W) W el x.1 x.2/\Wf el x.1:=by intro i hi;obtain⟨y,hy,hf⟩:=g1 i i (by simp[hi]);obtain⟨c,hc1,_,⟨v,hv,hw⟩,_⟩:=one i y hf;exact⟨(v,c),hc1,hv,hw⟩
       obtain⟨xs,hxl,hxs⟩:=jgk len each;have hclen:∀c∈xs.map (·.2),c.length=P.cellsOf e:=by intro c hc;obtain⟨x,hx,rfl⟩:=List.mem_map.1 hc;obtain⟨i,hi⟩:=List.mem_iff_getElem?.1 hx;exact(jgl (hxs i x hi).1).1
       refine⟨xs.map (·.1),?_,?_⟩
       .refine⟨M a,cap,by simp[hxl],by simp[hxl,hc.1],hc.2,smp_,λb hb=>?_⟩;simp only[j3]at hb;subst hb;have hspot:len≠0->a.spot=none:=by intro hl;obtain⟨x,hx⟩:∃x,xs[0]? = M x:=⟨xs[0],Û omg_⟩;obtain⟨k1,k2⟩:=jgl (hxs 0 x hx).1;obtain⟨v,hv⟩:∃v,x.2[0]? = M v:=⟨x.2[0],Û omg_⟩;have:=(jhF (k2 0 v hv)).2;simpa[Addr.add]using this
        refine⟨λhne=>hspot (λh0=>hne (by rw[List.map_eq_nil_iff];exact Ë omg_)),xs.map (·.2),jp6 smp_ (λi x c hx hc=>?_),λj v hv=>?_⟩
        .simp only[è,ß]at hx hc;obtain⟨y,hy,rfl⟩:=hx;obtain⟨z,hz,rfl⟩:=hc;rw[hy]at hz;simp at hz;subst hz;exact(hxs i y hy).2.1
        .obtain⟨i,r,c,hj,hr,hci,hcr⟩:=jhE hclen hv;simp only[è,ß]at hci;obtain⟨x,hx,rfl⟩:=hci;have hcell:=(jgl (hxs i x hx).1).2 r v hcr;have hil:i<len:=by rw[<-hxl];exact(List.getElem?_eq_some_iff.1 hx).1
         have hs:=hspot omg_;have hadd:(a.add (i*P.cellsOf e)).add r=⟨a.block,a.off+j,U⟩:=by obtain⟨g,o,s⟩:=a;simp only at hs;subst hs;simp only[Addr.add];split<;>split<;>simp<;>omega
         rw[hadd]at hcell;exact⟨(jhF hcell).1,hcell⟩
       .refine⟨by simp only[List.length_map,hxl];omega,λx hx=>?_⟩;obtain⟨y,hy,rfl⟩:=List.mem_map.1 hx;obtain⟨i,hi⟩:=List.mem_iff_getElem?.1 hy;exact(hxs i y hi).2.2
      .intro W' sp hE hsp
       have keep:∀i y,y∈elems++rest->(W.cells? 0 (a.add (i*P.cellsOf e)) (P.cellsOf e)).bind (X enc P W 0 (λ_=>À) held m e)=M y->
         (W'.cells? 0 (a.add (i*P.cellsOf e)) (P.cellsOf e)).bind (X enc P W' 0 sp held m e)=M y:=by
        intro i y hy hf;obtain⟨c,hc1,_,_,hk⟩:=one i y hf;rw[hE.cells hc1];exact hk W' sp hE (λq hq=>hsp q (à _ (List.mem_flatMap.2 ⟨y,hy,hq⟩)))
       unfold X;rw[hu];simp only[Ñ,true_and];rw[if_pos hc,jdA hel (λi _ y hy hf=>keep i y (Ô _ hy) hf)];simp only[j0]
       have hrest:(if sp a.block=À then (â (cap-len)).mapM (λj=>(W'.cells? 0 (a.add ((len+j)*P.cellsOf e)) (P.cellsOf e)).bind (X enc P W' 0 sp held m e)) else M [])=M rest:=by
        split
        .exact jdA hre (λj _ y hy hf=>keep (len+j) y (à _ hy) hf)
        .rename_i hsf;rcases Nat.eq_zero_or_pos ((elems.length+rest.length)*P.cellsOf e) with h0|h0
         .have:rest=[]:=by
           rcases Nat.mul_eq_zero.1 h0 with h|h
           .exact Ë omg_
           .omega
          rw[this]
         .obtain⟨q,hq,hb⟩:=jp8 (a:=a) h0;have:=hsp q (Ô _ hq);rw[hb]at this;exact absurd this hsf
       rw[hrest];rfl
   .simp at h
  .simp at h
theorem ja5{n m:O}(ih:∀(t:Ó)(ty:Ty),jeB P n t ty=À->∀(cs:D Ã)(d:æ H)(ps:D Ö),X enc P W 0 (λ_=>À) held m t cs=M (d,ps)->jp7 enc P W held m t ty cs d ps)(cs:D Ã) :
  ∀(fs:D Field)(off:O)(ty:Ty)(xs:D (æ H×D Ö)),jf7 P (jeB P n) fs off ty=À->cs.length=off+ty.size->
   fs.mapM (λf=>X enc P W 0 (λ_=>À) held m f.type ((cs.drop f.offset).take (P.cellsOf f.type)))=M xs->
   (∃v:ty.den,Rep (oldS W) W ty v (cs.drop off)/\Wf ty v)/\
    ∀W' sp,Ext W W'->(∀q∈xs.flatMap (·.2),sp q.block=À)->fs.mapM (λf=>X enc P W' 0 sp held m f.type ((cs.drop f.offset).take (P.cellsOf f.type)))=M xs
 |[],_,_,_,hc,_,_=>by simp[jf7]at hc
 |[f],off,ty,xs,hc,hl,hm=>by
  simp only[jf7,Ï,decide_eq_true_eq]at hc;obtain⟨⟨ho,hz⟩,hc⟩:=hc;rw[È]at hm;cases hf:X enc P W 0 (λ_=>À) held m f.type ((cs.drop f.offset).take (P.cellsOf f.type)) with
  |none=>simp[hf]at hm
  |some y=>simp[hf]at hm;subst hm;obtain⟨_,hv,hk⟩:=ih f.type ty hc _ y.1 y.2 hf;rw[ho,hz,List.take_of_length_le sqo_]at hv;refine⟨hv,λW' sp hE hsp=>?_⟩;rw[È,hk W' sp hE (λq hq=>hsp q (by simpa using hq))];rfl
 |f::g::r,off,ty,xs,hc,hl,hm=>by
  cases ty with
  |pair a b=>
   simp only[jf7,Ï,decide_eq_true_eq]at hc;obtain⟨⟨⟨ho,hz⟩,hc⟩,hr⟩:=hc;rw[È]at hm;cases hf:X enc P W 0 (λ_=>À) held m f.type ((cs.drop f.offset).take (P.cellsOf f.type)) with
   |none=>simp[hf]at hm
   |some y=>
    cases hrest:(g::r).mapM (λf=>X enc P W 0 (λ_=>À) held m f.type ((cs.drop f.offset).take (P.cellsOf f.type))) with
    |none=>rw[hf,hrest]at hm;simp at hm
    |some ys=>
     rw[hf,hrest]at hm;simp at hm;subst hm;have hl':cs.length=off+(a.size+b.size):=hl;obtain⟨hyl,⟨v,hv,hw⟩,hk⟩:=ih f.type a hc _ y.1 y.2 hf;obtain⟨⟨v2,hv2,hw2⟩,hk2⟩:=ja5 ih cs (g::r) (off+a.size) b ys hr omg_ hrest;rw[ho,hz]at hv;refine⟨⟨(v,v2),⟨(cs.drop off).take a.size,cs.drop (off+a.size),?_,hv,hv2⟩,hw,hw2⟩,λW' sp hE hsp=>?_⟩
     .rw[<-List.drop_drop,List.take_append_drop]
     .rw[È,hk W' sp hE (λq hq=>hsp q (by simp[hq])),hk2 W' sp hE (λq hq=>hsp q (by simp at hq ⊢;exact .inr hq))];rfl
  |_=>simp[jf7]at hc
theorem jhG:∀(n:O)(t:Ó)(ty:Ty),jeB P n t ty=À->∀(fuel:O)(cs:D Ã)(d:æ H)(ps:D Ö),X enc P W 0 (λ_=>À) held fuel t cs=M (d,ps)->
  jp7 enc P W held fuel t ty cs d ps
 |0,_,_,hc,_,_,_,_,_=>by simp[jeB]at hc
 |n+1,t,ty,hc,fuel,cs,d,ps,h=>by
  have ih:=jhG n;cases fuel with
  |zero=>simp[X]at h
  |succ m=>
  have hc0:=hc;unfold jeB at hc;split at hc
  .rename_i k hu;have:=of_decide_eq_true hc;subst this;obtain⟨z,rfl,hx,hw⟩:=DataW.trod_int hu h;refine⟨rfl,⟨z,rfl,hw⟩,λW' sp _ _=>?_⟩;simp only[j7]at hx;rw[hx.1,hx.2];exact trod_int_mk m hu hw
  .rename_i hu;have:=of_decide_eq_true hc;subst this;obtain⟨z,rfl,hx⟩:=DataW.trod_bool hu h;refine⟨rfl,⟨z,rfl,trivial⟩,λW' sp _ _=>?_⟩;unfold X at h ⊢;rw[hu]at h ⊢;exact h
  .rename_i hu;have:=of_decide_eq_true hc;subst this;obtain⟨z,rfl,hx,hw⟩:=DataW.trod_string hu h;refine⟨rfl,⟨z,rfl,hw⟩,λW' sp _ _=>?_⟩;unfold X at h ⊢;rw[hu]at h ⊢;exact h
  .rename_i e hu;split at hc
   .rename_i a;simp only[Ï,decide_eq_true_eq]at hc;exact jle (n:=n) hu hc.1.2 hc.2 (λm cs d ps h=>ih e a hc.1.1 m cs d ps h) h
   .simp at hc
  .rename_i fs hu;simp only[Ï,decide_eq_true_eq]at hc;obtain⟨hsz,hc⟩:=hc;have hstr:cs.length=P.cellsOf t/\∃xs,fs.toList.mapM (λf=>X enc P W 0 (λ_=>À) held m f.type ((cs.drop f.offset).take (P.cellsOf f.type)))=M xs/\d = .agg (xs.map (·.1))/\ps=xs.flatMap (·.2):=by obtain⟨xs,m',e1,e2,e3,e4,e5⟩:=DataW.trod_struct hu h;have:m'=m:=omg_;subst this;simp only[j7]at e2;exact⟨e3,xs,jgj (by simpa using e4) (λi x hx=>e5 i x (by simpa using hx)),e2.1,e2.2⟩
   obtain⟨hl,xs,hm,rfl,rfl⟩:=hstr
   have mk:∀W' sp,fs.toList.mapM (λf=>X enc P W' 0 sp held m f.type ((cs.drop f.offset).take (P.cellsOf f.type)))=M xs->
     X enc P W' 0 sp held (m+1) t cs=M (.agg (xs.map (·.1)),xs.flatMap (·.2)):=by
    intro W' sp hm'
    exact trod_struct_mk hu hl (by
     first
     |exact hm'
     |(intros;exact hm'))
   refine⟨omg_,?_,λW' sp hE hsp=>?_⟩;all_goals split at hc
   .rename_i x a hfs;rw[hfs]at hm;obtain⟨⟨v,hv,hw⟩,_⟩:=ja5 (λt ty hc cs d ps h=>ih t ty hc m cs d ps h) cs [x] 0 a xs hc (by rw[hl,hsz];simp[Ty.size]) hm;exact⟨v,by simpa[Rep]using hv,hw⟩
   .rename_i x y r a b hfs;rw[hfs]at hm;obtain⟨⟨v,hv,hw⟩,_⟩:=ja5 (λt ty hc cs d ps h=>ih t ty hc m cs d ps h) cs (x::y::r) 0 (.pair a b) xs hc omg_ hm;exact⟨v,by simpa using hv,hw⟩
   .simp at hc
   .rename_i x a hfs;rw[hfs]at hm;obtain⟨_,hk⟩:=ja5 (λt ty hc cs d ps h=>ih t ty hc m cs d ps h) cs [x] 0 a xs hc (by rw[hl,hsz];simp[Ty.size]) hm;exact mk W' sp (by rw[hfs];exact hk W' sp hE hsp)
   .rename_i x y r a b hfs;rw[hfs]at hm;obtain⟨_,hk⟩:=ja5 (λt ty hc cs d ps h=>ih t ty hc m cs d ps h) cs (x::y::r) 0 (.pair a b) xs hc omg_ hm;exact mk W' sp (by rw[hfs];exact hk W' sp hE hsp)
   .simp at hc
  .simp at hc
end
theorem jcc{P:Y}{W:Ä}{r:Reach}{base:O}{t:Ó}{v:Ã}{d:TypeDesc}(hu:P.underlying t=M d)(hd:(∃k,d = .int k)\/d = .bool\/d = .string\/∃e,d = .slice e)(h:Ø P W r base t v):One v:=by
 have hc:Cell.ok P W r base t v:=by unfold Ø at h;rw[hu]at h;rcases hd with⟨k,rfl⟩|rfl|rfl|⟨e,rfl⟩<;>(dsimp only at h;unfold Cell.okWide at h;rw[hu]at h;exact h)
 unfold Cell.ok at hc;rw[hu]at hc;rcases hd with⟨k,rfl⟩|rfl|rfl|⟨e,rfl⟩<;>cases v<;>first|rfl|(exact absurd hc smp_)
theorem jcd{H:Type}{enc:Ó×Ã->H}{P:Y}{W:Ä}{n:O}{t:Ó}{ty:Ty}(hchk:jeB P n t ty=À){r:Reach}{base:O}{v:Ã}(hok:Ø P W r base t v){d:æ H}{p:D Ö}
  (h:ý enc P W 0 (λ_=>À) À t v d p) :
  ∃x:ty.den,j9Z (oldS W) W (.v ⟨ty,x⟩) v/\Wf ty x/\∀W' sp,Below W.heap.size W W'->(∀q∈p,sp q.block=À)->ý enc P W' 0 sp À t v d p:=by
 obtain⟨fuel,h⟩:=h;obtain⟨_,⟨x,hx,hw⟩,hk⟩:=jhG n t ty hchk fuel _ d p h;refine⟨x,⟨hx,λhm=>?_,λhm=>?_⟩,hw,λW' sp hb hsp=>⟨fuel,hk W' sp (λk y hy=>by rw[hb.block k (Array.getElem?_eq_some_iff.1 hy).1];exact hy) hsp⟩⟩
 .cases n with
  |zero=>simp[jeB]at hchk
  |succ n=>
   unfold jeB at hchk;split at hchk
   .have:=of_decide_eq_true hchk;subst this;simp[j9b,Ty.agg]at hm
   .have:=of_decide_eq_true hchk;subst this;simp[j9b,Ty.agg]at hm
   .have:=of_decide_eq_true hchk;subst this;simp[j9b,Ty.agg]at hm
   .split at hchk
    .simp[j9b,Ty.agg]at hm
    .simp at hchk
   .rename_i hu;unfold Ø at hok;rw[hu]at hok;obtain⟨cs,hcs,_⟩:=hok;exact⟨cs,hcs⟩
   .simp at hchk
 .cases n with
  |zero=>simp[jeB]at hchk
  |succ n=>
   unfold jeB at hchk;split at hchk
   .rename_i k hu;exact jcc hu (.inl ⟨k,rfl⟩) hok
   .rename_i hu;exact jcc hu (.inr (.inl rfl)) hok
   .rename_i hu;exact jcc hu (.inr (.inr (.inl rfl))) hok
   .rename_i e hu;exact jcc hu (.inr (.inr (.inr ⟨e,rfl⟩))) hok
   .rename_i hu;simp only[Ï]at hchk;have h2:=hchk.2;split at h2
    .simp[j9b,Ty.agg]at hm
    .simp[j9b,Ty.agg]at hm
    .simp at h2
   .simp at hchk
def OLe{α:Type}(a b:I α):Prop:=∀r,a=M r->b=M r
theorem OLe.refl{α:Type}(a:I α):OLe a a:=λ_ h=>h
theorem OLe.none{α:Type}(a:I α):OLe U a:=λ_ h=>by simp at h
theorem OLe.bind{α β:Type}{a b:I α}{f g:α->I β}(h:OLe a b)(h':∀x,OLe (f x) (g x)):OLe (a.bind f) (b.bind g):=by
 intro r hr;cases a with
 |none=>simp at hr
 |some x=>rw[h x rfl];exact h' x r hr
theorem OLe.cond{α:Type}{c:Å}{a b a' b':I α}(h:OLe a a')(h':OLe b b'):OLe (cond c a b) (cond c a' b'):=by
 cases c with
 |true=>exact h
 |false=>exact h'
theorem OLe.sumC{α β γ:Type}{x:α ⊕ β}{f f':α->I γ}{g g':β->I γ}(h:∀x,OLe (f x) (f' x))(h':∀x,OLe (g x) (g' x)):OLe (sumC x f g) (Lft.sumC x f' g'):=by
 cases x with
 |inl a=>exact h a
 |inr b=>exact h' b
theorem OLe.loopN{α β:Type}{f g:α->I (α ⊕ β)}(h:∀s,OLe (f s) (g s)):∀(n:O)(s:α),OLe (Lft.loopN f n s) (Lft.loopN g n s)
 |0,_=> .none _
 |n+1,s=>by
  intro r hr;simp only[Lft.loopN]at hr ⊢;cases hf:f s with
  |none=>simp[hf]at hr
  |some x=>
   rw[h s x hf];cases x with
   |inl a=>simp only[hf]at hr;exact OLe.loopN h n a r hr
   |inr b=>simpa[hf]using hr
theorem OLe.loop{α β:Type}{f g:α->I (α ⊕ β)}(n:O)(s:α)(h:∀s,OLe (f s) (g s)):OLe (Lft.loopN f n s) (loopOpt g s):=
 λr hr=>ja3 (OLe.loopN h n s r hr)
theorem OLe.loopOpt{α β:Type}{f g:α->I (α ⊕ β)}(s:α)(h:∀s,OLe (f s) (g s)):OLe (Lft.loopOpt f s) (Lft.loopOpt g s):=by
 intro r hr;obtain⟨n,hn⟩:=ja4 hr;exact ja3 (OLe.loopN h n s r hn)
theorem jmi{α β:Type}{B B':(α->I β)->α->I β}(h:∀g g',(∀a,OLe (g a) (g' a))->∀a,OLe (B g a) (B' g' a)):∀n a,OLe (jdy B n a) (jdy B' n a)
 |0,_=> .none _
 |n+1,a=>h _ _ (jmi h n) a
theorem jiw{α β:Type}{B:(α->I β)->α->I β}(h:∀g g',(∀a,OLe (g a) (g' a))->∀a,OLe (B g a) (B g' a)):∀(k n:O)(a:α),OLe (jdy B n a) (jdy B (n+k) a)
 |k,0,a=> .none _
 |k,n+1,a=>by
  rw[show n+1+k=(n+k)+1 by omega];exact h _ _ (jiw h k n) a
theorem OLe.rec{α β:Type}{B B':(α->I β)->α->I β}(n:O)(a:α)(h:∀g g',(∀a,OLe (g a) (g' a))->∀a,OLe (B g a) (B' g' a))(h':∀g g',(∀a,OLe (g a) (g' a))->∀a,OLe (B' g a) (B' g' a)) :
  OLe (jdy B n a) (jf6 B' a):=by
 intro r hr;have h1:=jmi h n a r hr;refine jp1 ⟨n,h1⟩ λm y hy=>?_;have e1:=jiw h' m n a r h1;have e2:=jiw h' n m a y hy;rw[ó m n]at e2;rw[e1]at e2;simpa using e2.symm
end
end Go.Lft
