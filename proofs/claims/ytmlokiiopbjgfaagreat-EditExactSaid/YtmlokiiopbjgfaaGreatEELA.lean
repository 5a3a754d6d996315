/- A typed evaluator of the model's code, on plain data: definitions. -/
import Derived.WalkKit
import Derived.Orders
import Derived.MapKept
open Option renaming none->B,some->D,map_some->ß
open _root_ renaming Option->F,Nat->G,List->H,Bool->W,Int->Ç,Array->Ê,ByteArray->Ë,False->Ù,DecidableEq->ê
open Bool renaming false->I,true->O,and_eq_true->Á,not_eq_true'->Ú,false_eq_true->æ
open Go renaming Value->J,World->Z,Program->À,TypeId->Å,Oper->Æ,Operand->Ì,IntKind->Î,TypeDesc->Ö,Code->Þ,BinOp->ç,ResultVar->è,Act->í,TypeInfo->ô
open Go.Result renaming andThen_ok->U
open Decidable renaming decide->X
open Go.Sem renaming run_bind->Y,run_pure->Ã,run_ite->á
open Int renaming toNat->Â,ofNat->Ï,fdiv->ó
open List renaming replicate->Ä,length->È,getD->É,take->Ð,range->Ñ,eq_nil_of_length_eq_zero->Ó,length_append->Õ,drop->Ø,drop_drop->ã,mem_of_mem_take->ä,flatMap_cons->é,length_cons->ì,mem_append->ï
open Go.Addr renaming add_lit->Í
open Go.Instr renaming indexAt->Ò,sureAddr->Ô,loadAt->Ü,index->â,fieldAt->å
open Go.Op renaming intCmp->Û,intArith->à,unary->õ,eqFields->ö,maxDepth->ø,stringOp->ù,equalIn->û,intDiv->ý
open Go.Builtin renaming len_->Ý,min_->ð,max_->ñ
open Nat renaming beq->ë,zero_add->ò
noncomputable section
theorem j0{α β:Type _}(a:α)(f:α->F β):(D a).bind f=f a:=rfl
theorem j3{α:Type _}(a b:α):(D a=D b)=(a=b):=Option.some.injEq a b
theorem j4{α:Sort _}{a b:α}:cond O a b=a:=rfl
theorem j5{α:Sort _}{a b:α}:cond I a b=b:=rfl
theorem j6(n:G):Â (n:Ç)=n:=rfl
theorem j7{α β:Type _}(a:α)(b:β)(c:α)(d:β):((a,b)=(c,d))=(a=c/\b=d):=Prod.mk.injEq a b c d
set_option linter.unusedVariables false
namespace Go.Lft
theorem omg_{p:Prop}(h:p:=by omega):p:=h
theorem smp_{p:Prop}(h:p:=by simp):p:=h
theorem sqo_{p:Prop}(h:p:=by (simp;omega)):p:=h
theorem oLn_{α:Type}(l:H α):Ï l.length=(l.length:Ç):=rfl
inductive Ty where
 |int (k:Î)
 |bool
 |str
 |unit
 |wrap (a:Ty)
 |pair (a b:Ty)
 |list (a:Ty)
 |arr (n:G) (a:Ty)
 deriving ê
@[reducible] def Ty.den:Ty->Type
 |.int _=>Ç
 |.bool=>W
 |.str=>Ë
 |.unit=>Unit
 |.wrap a=>a.den
 |.pair a b=>a.den×b.den
 |.list a=>H a.den
 |.arr _ a=>H a.den
def Ty.dflt:(t:Ty)->t.den
 |.int _=>(0:Ç)
 |.bool=>I
 |.str=>ByteArray.empty
 |.unit=>()
 |.wrap a=>a.dflt
 |.pair a b=>(a.dflt,b.dflt)
 |.list _=>[]
 |.arr n a=>Ä n a.dflt
def Ty.size:Ty->G
 |.int _|.bool|.str|.list _=>1
 |.unit=>0
 |.wrap a=>a.size
 |.pair a b=>a.size+b.size
 |.arr n a=>n*a.size
def Ty.flat:Ty->W
 |.int _|.bool|.str|.unit=>O
 |.wrap a=>a.flat
 |.pair a b=>a.flat&&b.flat
 |.list _=>I
 |.arr _ a=>a.flat
def Ty.leafy:Ty->W
 |.int _|.bool|.str|.list _=>O
 |_=>I
structure TV where
 t:Ty
 v:t.den
def TV.to(t:Ty)(x:TV):F t.den:=if h:x.t=t then D (h▸x.v) else B
inductive Cap where
 |v (x:TV)
 |p (ls:H TV)
inductive Leaf where
 |dead
 |nil
 |d (t:Ty) (v:t.den)
 |ol (k:G)
 |bp (k:G) (c:G)
 |ep (k:G) (i:G) (c:G)
 |tl (k:G) (i:G)
 |hd (k:G) (i:G)
 |ip (ls:H TV)
 |clo (f:G) (caps:H Cap)
inductive Cel where
 |one (x:Leaf)
 |st (ls:H Leaf)
 |av (n:G) (a:Ty) (xs:H a.den)
inductive Slot where
 |one (c:Cel)
 |tup (l:H Cel)
 |cnd (s:G) (want:W) (c:Cel)
 |und
def jcu{α β:Type}[BEq α](xs:H (α×β))(k:α):Bool:=xs.any λx=>k==x.1
def j8K{α β:Type}[BEq α](d:β):H (α×β)->α->β
 |[],_=>d
 |x::r,k=>cond (k==x.1) x.2 (j8K d r k)
def j9L{α β:Type}[BEq α]:H (α×β)->α->β->H (α×β)
 |[],k,v=>[(k,v)]
 |x::r,k,v=>cond (k==x.1) ((k,v)::r) (x::j9L r k v)
@[reducible] def Ty.keq:(t:Ty)->BEq t.den
 |.int _=>⟨λ(a b:Ç)=>a==b⟩
 |.str=>⟨λ(a b:Ë)=>a==b⟩
 |_=>⟨λ_ _=>I⟩
def Ty.isKey:Ty->W
 |.int _|.str=>O
 |_=>I
def j6l(s:Ë)(i:Ç):Int:=(s.data.getD i.toNat 0).toNat
def isM(e:G):Bool:=Nat.ble 4294967296 e
inductive Bx where
 |cell (ls:H Leaf) (frz:W)
 |lst (e:G) (a:Ty) (xs:H a.den) (frz:W)
 |arr (n:G) (a:Ty) (xs:H a.den)
 |row (e:G) (a:Ty) (n:G) (ls:H Leaf)
inductive BS where
 |free|gone|live (b:Bx)
def mskM(rd:G->BS)(k:G):BS:=match rd k with
 |.live (.lst e a xs f)=>if isM e then .gone else .live (.lst e a xs f)
 |b=>b
structure St where
 sl:G->Slot
 bx:G->BS
def St.setS(σ:St)(i:G)(s:Slot):St:={ σ with sl:=λj=>if j=i then s else σ.sl j }
def St.setB(σ:St)(k:G)(b:BS):St:={ σ with bx:=λj=>if j=k then b else σ.bx j }
inductive Item where
 |s (c:Cel)
 |b (x:BS)
abbrev Snap:=H Item
inductive Arg where
 |v (x:TV)
 |ref (ls:H TV)
 |rl (e:G) (x:TV)
 |ip (ls:H TV)
 |clo (f:G) (caps:H Cap)
 |mv (e:G) (x:TV)
inductive RL where
 |d (x:TV)
 |own (e:G) (x:TV)
inductive SoK where
 |d (t:Ty)
 |own (e:G) (a:Ty)
inductive RV where
 |v (x:TV)
 |own (e:G) (x:TV)
 |box (ls:H TV)
 |hd (n:G)
 |vn (x:TV) (ns:H G)
 |clo (f:G) (caps:H Cap)
 |so (ls:H RL)
 |raw (ns:H G) (s:Snap)
inductive Out where
 |ref (ls:H TV)
 |rl (x:TV)
structure Ret where
 vals:H RV
 outs:H Out
inductive Ex where
 |normal|exit (id:G)|ret
 deriving ê
inductive Loc where
 |slot (i:G)
 |cell (k c:G)
 deriving ê
structure jef where
 name:G
 e:G
 a:Ty
 locs:H Loc
 frz:W
structure Keep where
 slots:H G
 boxes:H G
 lists:H jef
structure TyI where
 size:G
 agg:W
 ty:F Ty
 flds:H (G×G)
 elem:G
 cmp:H Ty:=[]
 mp:F (G×G):=B
def parK(np k:G):Bool:=X (k%64=0)&&X (k/64<np)
structure NT where
 n:G
 pin:G->W
instance(n:G):OfNat NT n:=⟨⟨n,λ_=>I⟩⟩
def NT.ok(N:NT)(d:G):Prop:=d<N.n/\N.pin d=I
inductive Gh where
 |ex (k c n m:G)
 |rl (k:G)
structure Env where
 N:NT
 np:G
 T:G->F TyI
 C:G->H Arg->(R:Type)->(Ret->F R)->F R
 modes:G->H W
 L:G->Snap->(R:Type)->(Ex->Snap->F R)->F R
 keep:G->Keep
 keepX:G->Ex->Keep
 ro:H W
 dw:G->H (H G):=λ_=>[]
 nz:Bool:=I
 hd:Bool:=I
 ns:H Nat:=[]
 bw:G->F (W×Ty):=λ_=>B
 so:H SoK:=[]
 un:G->Nat:=λ_=>0
 pre:G->H Gh:=λ_=>[]
 rw:Bool:=I
 rn:H Nat:=[]
 b1:H Nat:=[]
 mvf:G->Bool:=λ_=>I
 pa:G->F (G×Ty):=λ_=>B
 sc:Bool:=I
 off:Nat:=0
def Env.offR(E:Env)(r:G):Env:={ E with off:=E.off+16*r }
def Env.off0(E:Env):Env:={ E with off:=0 }
def jkA:J->Leaf
 |.int k n=> .d (.int k) n
 |.bool b=> .d .bool b
 |.string s=> .d .str s
 |.slice B 0 0=> .nil
 |_=> .dead
def St.ev(σ:St):Ì->Slot
 |.tmp t=>σ.sl t
 |.const v=> .one (.one (jkA v))
 |.func f=> .one (.one (.clo f []))
 |.global _=> .one (.one .dead)
def j7m(ops:Ê Æ)(o:Æ):F (G×W):=
 match o.guard with
 |none=>B
 |some (j,w)=>match ops[j]? with
  |some oj=>match oj.dst with
   |some s=>D (s,w)
   |none=>B
  |none=>B
def St.chain(σ:St):G->G×W->H (G×W)
 |0,g=>[g]
 |n+1,g=>match σ.sl g.1 with
  |.cnd s w _=>g::σ.chain n (s,w)
  |_=>[g]
def Slot.cel(act:H (G×W)):Slot->Cel
 |.one c=>c
 |.tup _=> .one .dead
 |.und=> .one .dead
 |.cnd s w c=>if act.contains (s,w) then c else .one .dead
abbrev Ups:=H (G×BS)
def scat:(t:Ty)->t.den->H TV
 |.unit,_=>[]
 |.wrap a,v=>scat a v
 |.pair a b,v=>scat a v.1++scat b v.2
 |.arr n a,v=>(Ñ n).flatMap λi=>scat a (É v i a.dflt)
 |t,v=>[⟨t,v⟩]
def TV.leaf(x:TV):Leaf:= .d x.t x.v
def jdg:Ty->H Leaf
 |.unit=>[]
 |.wrap a=>jdg a
 |.pair a b=>jdg a++jdg b
 |.arr n a=>(Ñ n).flatMap λ_=>jdg a
 |.list _=>[.nil]
 |t=>[.d t t.dflt]
def hdr:(t:Ty)->G->F t.den
 |.list .unit,n=>D (Ä n ())
 |_,_=>B
def lenL(rd:G->BS):Leaf->F G
 |.d (.list .unit) _=>B
 |.d (.list _) xs=>D (È xs)
 |.ol k=>match rd k with
  |.live (.lst _ _ xs _)=>D xs.length
  |.live (.row _ _ n _)=>D n
  |_=>B
 |_=>B
def jiZ(rd:G->BS)(t:Ty)(l:Leaf):F t.den:=match lenL rd l with
 |some n=>hdr t n
 |none=>B
def j9h(rd:G->BS)(t:Ty):Leaf->F (t.den×Ups)
 |.d t' v=>match (TV.mk t' v).to t with
  |some v'=>D (v',[])
  |none=>B
 |.nil=>match t with
  |.list _=>D ([],[])
  |_=>B
 |.ol k=>match rd k with
  |.live (.lst e a xs _)=>match (TV.mk (.list a) xs).to t with
   |some v'=>D (v',[(k,.live (.lst e a xs O))])
   |none=>B
  |_=>B
 |_=>B
def jdh(rd:G->BS)(t:Ty)(l:Leaf):F (t.den×Ups):=match jiZ rd t l with
 |some v=>D (v,[])
 |none=>j9h rd t l
def gath(rd:G->BS):(t:Ty)->H Leaf->F (t.den×H Leaf×Ups)
 |.unit,ls=>D ((),ls,[])
 |.wrap a,ls=>match gath rd a ls with
  |some (x,r,u)=>D (x,r,u)
  |none=>B
 |.pair a b,ls=>match gath rd a ls with
  |some (x,r,u)=>match gath rd b r with
   |some (y,r',u')=>D ((x,y),r',u++u')
   |none=>B
  |none=>B
 |.arr _ _,_=>B
 |t,l::ls=>match jdh rd t l with
  |some (v,u)=>D (v,ls,u)
  |none=>B
 |_,[]=>B
def Ty.agg:Ty->W
 |.unit|.wrap _|.pair _ _=>O
 |_=>I
def jb3(rd:G->BS)(t:Ty):Cel->F (t.den×Ups)
 |.one l=>if t.agg then B else match gath rd t [l]with
  |some (v,[],u)=>D (v,u)
  |_=>B
 |.st ls=>if t.agg then match gath rd t ls with
  |some (v,[],u)=>D (v,u)
  |_=>B
  else B
 |.av n a xs=>match (TV.mk (.arr n a) xs).to t with
  |some v=>D (v,[])
  |none=>B
def jb4:(t:Ty)->t.den->Cel
 |.arr n a,v=> .av n a v
 |t,v=>if t.agg then .st ((scat t v).map TV.leaf) else .one (.d t v)
def Cel.leaves:Cel->F (H Leaf)
 |.one .dead=>B
 |.one l=>D [l]
 |.st ls=>D ls
 |.av n (.list b) ys=>D ((Ñ n).map λi=> .d (.list b) (É ys i []))
 |.av _ _ _=>B
def cmpI(op:ç)(x y:Ç):F Bool:=
 match op with
 |.eql=>D (x==y)
 |.neq=>D (x != y)
 |.lss=>D (X (x<y))
 |.leq=>D (X (x<=y))
 |.gtr=>D (X (x>y))
 |.geq=>D (X (x>=y))
 |_=>B
def eqT:TV->TV->F W
 |⟨.int k,x⟩,⟨.int k',y⟩=>if k=k' then D ((show Ç from x)==(show Ç from y)) else B
 |⟨.bool,x⟩,⟨.bool,y⟩=>D ((show W from x)==(show W from y))
 |⟨.str,x⟩,⟨.str,y⟩=>D ((show Ë from x).toList==(show Ë from y).toList)
 |_,_=>B
def eqL:H Ty->H Leaf->H Leaf->F W
 |[],[],[]=>D O
 |k::ks,.d t x::l,.d t' y::l'=>if t=k/\t'=k then match eqT ⟨t,x⟩ ⟨t',y⟩with
  |some b=>match ks with
   |[]=>match l,l' with
    |[],[]=>D b
    |_,_=>B
   |ks=>match eqL ks l l' with
    |some b'=>D (b&&b')
    |none=>B
  |none=>B
  else B
 |_,_,_=>B
def binI(op:ç)(k:Î)(x y:Ç):F (W×Leaf):=
 match op with
 |.add=>D (O,.d (.int k) (k.wrap (x+y)))
 |.sub=>D (O,.d (.int k) (k.wrap (x-y)))
 |.mul=>D (O,.d (.int k) (k.wrap (x*y)))
 |.quo=>D (!(y==0),.d (.int k) (k.wrap (x.tdiv y)))
 |.rem=>D (!(y==0),.d (.int k) (x.tmod y))
 |.shr=>if X ((0:Ç)<=y) then D (O,.d (.int k) (ó x (2^min (Â y) k.bits))) else B
 |.and|.or|.xor|.andNot|.shl=>B
 |op=>match cmpI op x y with
  |some b=>D (O,.d .bool b)
  |none=>B
def jrb(ti:F TyI):Bool:=match ti with
 |some t=>X (t.ty=D .bool)
 |none=>I
def jj0(ti:F TyI):H Ty:=match ti with
 |some t=>t.cmp
 |none=>[]
def binC(ti:F TyI)(op:ç):Cel->Cel->F (W×Leaf)
 |.one (.d (.int k) x),.one (.d (.int k') y)=>if k=k' then binI op k x y else
  match op with
  |.shr=>if X ((0:Ç)<=y) then D (O,.d (.int k) (ó x (2^min (Â y) k.bits))) else B
  |_=>B
 |.one (.d .bool x),.one (.d .bool y)=>if jrb ti then match op with
  |.eql=>D (O,.d .bool ((show W from x)==(show W from y)))
  |.neq=>D (O,.d .bool (!((show W from x)==(show W from y))))
  |_=>B
  else B
 |.one (.d .str x),.one (.d .str y)=>match op with
  |.eql=>D (O,.d .bool ((show Ë from x).toList==(show Ë from y).toList))
  |.neq=>D (O,.d .bool (!((show Ë from x).toList==(show Ë from y).toList)))
  |_=>B
 |.st l,.st l'=>if (jj0 ti).isEmpty then B else match op with
  |.eql=>match eqL (jj0 ti) l l' with
   |some b=>D (O,.d .bool b)
   |none=>B
  |.neq=>match eqL (jj0 ti) l l' with
   |some b=>D (O,.d .bool (!b))
   |none=>B
  |_=>B
 |_,_=>B
def unC(op:UnOp):Cel->F Leaf
 |.one (.d .bool x)=>match op with
  |.not=>D (.d .bool (!(show W from x)))
  |_=>B
 |.one (.d (.int k) x)=>match op with
  |.neg=>D (.d (.int k) (k.wrap (0-(show Ç from x))))
  |_=>B
 |_=>B
def jgQ(ti:TyI)(ls:H Leaf):F Cel:=
 if ti.agg then (if ls.length=ti.size then D (.st ls) else B)
 else match ls with
  |[l]=>D (.one l)
  |_=>B
def jeg(rd:G->BS)(ti:TyI):Leaf->F Cel
 |.bp k c=>match rd k with
  |.live (.cell ls _)=>jgQ ti ((ls.drop c).take ti.size)
  |.live (.arr n a xs)=>if c=0/\ti.ty=D (.arr n a) then D (.av n a xs) else B
  |_=>B
 |.ep k i c=>match rd k with
  |.live (.lst e a xs _)=>jgQ ti ((((scat a (É xs i a.dflt)).map TV.leaf).drop c).take ti.size)
  |.live (.arr _ a xs)=>jgQ ti ((((scat a (É xs i a.dflt)).map TV.leaf).drop c).take ti.size)
  |.live (.row _ a _ ls)=>if c+ti.size<=a.size then jgQ ti ((ls.drop (i*a.size+c)).take ti.size) else B
  |_=>B
 |.ip ls=>jgQ ti ((ls.map TV.leaf).take ti.size)
 |_=>B
def j9M(ls:H Leaf)(c:G)(new:H Leaf):H Leaf:=ls.take c++new++ls.drop (c+new.length)
def jeW(rd rdf:G->BS)(sz:G)(val:Cel):Leaf->F Ups
 |.bp k c=>match rd k with
  |.live (.cell ls I)=>match val.leaves with
   |some new=>if new.length=sz/\c+new.length<=ls.length then D [(k,.live (.cell (j9M ls c new) I))] else B
   |none=>B
  |.live (.arr n a _)=>if c=0 then match val with
    |.av n' a' ys=>match (TV.mk (.arr n' a') ys).to (.arr n a) with
     |some ys'=>if sz=n*a.size then D [(k,.live (.arr n a ys'))] else B
     |none=>B
    |_=>B
   else B
  |_=>B
 |.ep k i c=>match rd k with
  |.live (.lst el a xs I)=>match val.leaves with
   |some new=>if new.length=sz/\c+new.length<=a.size then match gath rdf a (j9M ((scat a (É xs i a.dflt)).map TV.leaf) c new) with
    |some (e,[],u)=>if u.any (λy=>y.1==k) then B else D (u++[(k,.live (.lst el a (List.set xs i e) I))])
    |_=>B
    else B
   |none=>B
  |.live (.arr n a xs)=>match val.leaves with
   |some new=>if new.length=sz/\c+new.length<=a.size then match gath rdf a (j9M ((scat a (É xs i a.dflt)).map TV.leaf) c new) with
    |some (e,[],u)=>if u.any (λy=>y.1==k) then B else D (u++[(k,.live (.arr n a (List.set xs i e)))])
    |_=>B
    else B
   |none=>B
  |.live (.row e a n ls)=>match val.leaves with
   |some new=>if new.length=sz/\c+new.length<=a.size then D [(k,.live (.row e a n (j9M ls (i*a.size+c) new)))] else B
   |none=>B
  |_=>B
 |_=>B
def isLive:BS->W
 |.live _=>O
 |_=>I
def jb5(rd:G->BS)(ti:TyI)(i:G):Leaf->F Leaf
 |.bp k c=>match ti.flds[i]? with
  |some f=>if isLive (rd k) then D (.bp k (c+f.1)) else B
  |none=>B
 |.ep k j c=>match ti.flds[i]? with
  |some f=>if isLive (rd k) then D (.ep k j (c+f.1)) else B
  |none=>B
 |.ip ls=>match ti.flds[i]? with
  |some f=>D (.ip (ls.drop f.1))
  |none=>B
 |_=>B
def j9i(t:F Ty):Bool:=match t with
 |some (.list _)=>O
 |_=>I
def jhV(rd:G->BS)(a:Ty):H Leaf->F (H a.den×Ups)
 |[]=>D ([],[])
 |l::ls=>match jdh rd a l,jhV rd a ls with
  |some (x,u),D (xs,v)=>D (x::xs,u++v)
  |_,_=>B
def jdi(rd:G->BS)(t:F Ty):Leaf->F (G×Ty×H Leaf)
 |.bp k 0=>match t with
  |some (.arr m a)=>if j9i (D a) then match rd k with
   |.live (.cell ls I)=>D (m,a,ls)
   |_=>B
   else B
  |_=>B
 |_=>B
def inR(i:Ç)(n:G):Bool:=X (0<=i)&&X (i<(n:Ç))
def jdj(rd:G->BS)(ti:TyI):Leaf->Leaf->F (W×Leaf)
 |.ol k,.d (.int _) i=>match rd k with
  |.live (.lst e a xs _)=>if ti.ty=D (.list a) then D (inR i xs.length,.ep k (Â i) 0) else B
  |.live (.row _ a n _)=>if ti.ty=D (.list a) then D (inR i n,.ep k (cond (ë n 1) 0 (Â i)) 0) else B
  |_=>B
 |.d (.list a) xs,.d (.int _) i=>if ti.ty=D (.list a) then D (inR i (È xs),.ip (scat a (É xs (Â i) a.dflt))) else B
 |.bp k 0,.d (.int _) i=>match rd k with
  |.live (.arr n a _)=>if ti.ty=D (.arr n a) then D (inR i n,.ep k (Â i) 0) else B
  |.live (.cell _ _)=>match ti.ty with
   |some (.arr n a)=>if j9i (D a) then D (inR i n,.bp k (Â i)) else B
   |_=>B
  |_=>B
 |.tl k j,.d (.int _) i=>match rd k with
  |.live (.lst e a xs _)=>if ti.ty=D (.list a) then D (inR i (xs.length-j),.ep k (j+Â i) 0) else B
  |_=>B
 |_,_=>B
def idxV(ti:TyI):Cel->Leaf->F (W×Cel)
 |.av n a xs,.d (.int _) i=>if ti.ty=D (.arr n a) then D (inR i n,jb4 a (É xs (Â i) a.dflt)) else B
 |.one (.d .str s),.d (.int _) i=>if ti.ty=D .str then D (inR i s.size,.one (.d (.int .u8) (j6l s i))) else B
 |_,_=>B
def jhb(ti:TyI)(sz:G->F G):H Leaf->H (G×Cel)->F (H Leaf)
 |ls,[]=>D ls
 |ls,(i,c)::r=>match ti.flds[i]? with
  |some f=>match c.leaves with
   |some new=>if sz f.2=D new.length/\f.1+new.length<=ls.length then jhb ti sz (j9M ls f.1 new) r else B
   |none=>B
  |none=>B
def j7a(rd:G->BS)(a:Ty):H a.den->Ups->H (G×Cel)->F (H a.den×Ups)
 |xs,u,[]=>D (xs,u)
 |xs,u,(i,c)::r=>match jb3 rd a c with
  |some (x,u')=>if i<xs.length then j7a rd a (xs.set i x) (u++u') r else B
  |none=>B
def lenC(rd:G->BS)(t:F Ty):Leaf->F Leaf
 |.nil=>if j9i t then D (.d (.int .i64) (0:Ç)) else B
 |.ol k=>match rd k with
  |.live (.lst _ _ xs _)=>if j9i t then D (.d (.int .i64) (xs.length:Ç)) else B
  |.live (.row _ _ n _)=>if j9i t then D (.d (.int .i64) (n:Ç)) else B
  |_=>B
 |.d (.list _) xs=>if j9i t then D (.d (.int .i64) ((È xs:G):Ç)) else B
 |.d .str s=>if t=D .str then D (.d (.int .i64) ((ByteArray.size s:G):Ç)) else B
 |.tl k j=>match rd k with
  |.live (.lst _ _ xs _)=>if j9i t then D (.d (.int .i64) ((xs.length-j:G):Ç)) else B
  |_=>B
 |.hd k i=>match rd k with
  |.live (.lst _ _ _ _)=>if j9i t then D (.d (.int .i64) (i:Ç)) else B
  |_=>B
 |_=>B
def minC:H Cel->F Leaf
 |[.one (.d (.int k) x),.one (.d (.int k') y)]=>if k=k' then D (.d (.int k) (if (show Ç from y)<x then y else x:Ç)) else B
 |_=>B
def maxC:H Cel->F Leaf
 |[.one (.d (.int k) x),.one (.d (.int k') y)]=>if k=k' then D (.d (.int k) (if (show Ç from y)>x then y else x:Ç)) else B
 |_=>B
def j5X:BS->W
 |.free=>O
 |_=>I
def j06:Nat:=4294967296
def appS(rd:G->BS)(e:G)(a:Ty):Leaf->F (H a.den×W×Ups)
 |.ol k=>match rd k with
  |.live (.lst e' a' xs frz)=>match (TV.mk (.list a') xs).to (.list a) with
   |some xs'=>if e'=e then D (xs',frz,[(k,.gone)]) else B
   |none=>B
  |_=>B
 |.nil=>D ([],I,[])
 |_=>B
def appX(rd:G->BS)(a:Ty):Leaf->F (H a.den)
 |.ol k=>match rd k with
  |.live (.lst _ a' xs _)=>(TV.mk (.list a') xs).to (.list a)
  |_=>B
 |.d t xs=>(TV.mk t xs).to (.list a)
 |.nil=>D []
 |.tl k j=>match rd k with
  |.live (.lst _ a' xs _)=>match (TV.mk (.list a') xs).to (.list a) with
   |some xs'=>D (Ø j xs')
   |none=>B
  |_=>B
 |_=>B
def bnd(d:G):F Leaf->F Ç
 |none=>D d
 |some (.d (.int _) i)=>D i
 |some _=>B
def jhc(par:G->W)(rd:G->BS)(ti:TyI)(n:G)(x:Leaf)(lo hi:F Leaf):F (W×Leaf×Ups):=
 match x with
 |.d (.list a) xs=>if ti.ty=D (.list a) then match bnd 0 lo,bnd (È xs) hi with
  |some i,D j=>D (X (0<=i)&&(X (i<=j)&&X (j<=(È xs:Ç))),.d (.list a) (Ø (Â i) (Ð (Â j) xs)),[])
  |_,_=>B
  else B
 |.ol k=>match hi with
  |none=>match rd k with
   |.live (.lst _ a xs _)=>if ti.ty=D (.list a) then match bnd 0 lo with
    |some i=>D (X (0<=i)&&X (i<=(xs.length:Ç)),.tl k (Â i),[])
    |none=>B
    else B
   |_=>B
  |some _=>match rd k with
   |.live (.lst e a xs f)=>if ti.ty=D (.list a) then match bnd 0 lo,bnd xs.length hi with
    |some i,D j=>if par k then
      (if lo.isNone then D (X (0<=j)&&X (j<=(xs.length:Ç)),.hd k (Â j),[]) else B)
     else if lo.isNone && !f then
      (if j5X (rd n) then D (X (0<=j)&&X (j<=(xs.length:Ç)),.ol n,[(k,.gone),(n,.live (.lst e a (Ð (Â j) xs) I))]) else B)
     else D (X (0<=i)&&(X (i<=j)&&X (j<=(xs.length:Ç))),.d (.list a) (Ø (Â i) (Ð (Â j) xs)),[(k,.live (.lst e a xs O))])
    |_,_=>B
    else B
   |_=>B
 |.hd k _=>match rd k with
  |.live (.lst _ a xs _)=>if ti.ty=D (.list a)/\hi.isSome=O then match bnd 0 lo,bnd 0 hi with
   |some i,D j=>D (X (0<=i)&&(X (i<=j)&&X (j=(xs.length:Ç))),.tl k (Â i),[])
   |_,_=>B
   else B
  |_=>B
 |_=>B
def jhd(rd:G->BS)(ti:TyI)(x:Leaf)(lo hi:F Leaf)(mx:Leaf):F Bool:=
 match x,lo,hi,mx with
 |.ol k,D (.d (.int _) i),D (.d (.int _) j),.d (.int _) m=>match rd k with
  |.live (.lst _ a xs _)=>if ti.ty=D (.list a) then D (X ((0:Ç)<=i)&&(X ((show Ç from i)<=j)&&(X ((show Ç from j)<=m)&&X (m<=(xs.length:Ç))))) else B
  |_=>B
 |_,_,_,_=>B
def appH(rd:G->BS)(el:G)(a:Ty)(s x:Leaf):F (W×Leaf×Ups):=
 match s,x with
 |.hd k i,.tl k' j=>if k=k' then match rd k with
  |.live (.lst e b xs I)=>if b=a/\e=el then D (X (i<=j),.hd k (i+(xs.length-j)),[(k,.live (.lst e b (Ð i xs++(Ø j xs++Ø (i+(xs.length-j)) xs)) I))]) else B
  |_=>B
  else B
 |_,_=>B
def jlJ:Leaf->F (G×G)
 |.ol k=>D (k,0)
 |.tl k i=>D (k,i)
 |_=>B
def over{α:Type}(xs:H α)(i:G)(ys:H α):H α:=Ð i xs++(Ð (xs.length-i) ys++Ø (i+ys.length) xs)
def jmJ(rd:G->BS)(t:F Ty)(x y:Leaf):F (Leaf×Ups):=
 match jlJ x with
 |some (k,i)=>match rd k with
  |.live (.lst e a xs I)=>if t=D (.list a) then match appX rd a y with
   |some ys=>D (.d (.int .i64) ((min ys.length (xs.length-i):G):Ç),[(k,.live (.lst e a (over xs i ys) I))])
   |none=>B
   else B
  |_=>B
 |none=>B
def jhe(rd:G->BS)(t:F Ty)(x:Leaf):F Ups:=
 match jlJ x with
 |some (k,i)=>match rd k with
  |.live (.lst e a xs I)=>if t=D (.list a) then D [(k,.live (.lst e a (Ð i xs++Ä (xs.length-i) a.dflt) I))] else B
  |_=>B
 |none=>B
inductive Act where
 |val (chk:W) (s:Slot) (ups:Ups)
 |call (f:G) (args:H Arg) (mk:Ret->F (Slot×Ups))
def Act.leaf(x:Leaf):Act:= .val O (.one (.one x)) []
def Act.cel(x:Cel):Act:= .val O (.one x) []
def jcJ(x:F Leaf):F Act:=match x with
 |some c=>D (.leaf c)
 |none=>B
def oCel(x:F Cel):F Act:=match x with
 |some c=>D (.cel c)
 |none=>B
def oChk(x:F (W×Leaf)):F Act:=match x with
 |some (b,c)=>D (.val b (.one (.one c)) [])
 |none=>B
def tvs(rd:G->BS):H Leaf->F (H TV×Ups)
 |[]=>D ([],[])
 |l::ls=>match tvs rd ls with
  |some (xs,u)=>match l with
   |.d t v=>D (⟨t,v⟩::xs,u)
   |.ol k=>match rd k with
    |.live (.lst e a es _)=>D (⟨.list a,es⟩::xs,(k,.live (.lst e a es O))::u)
    |_=>B
   |_=>B
  |none=>B
def jj1(rd:G->BS):H Cel->F (H Cap×Ups)
 |[]=>D ([],[])
 |c::r=>match jj1 rd r with
  |some (l,u)=>match c with
   |.one (.d t v)=>if t.leafy then D (.v ⟨t,v⟩::l,u) else B
   |.one (.bp k 0)=>match rd k with
    |.live (.cell ls _)=>match tvs rd ls with
     |some (xs,u')=>if (u++u').any (λy=>y.1==k) then B else D (.p xs::l,(u++u')++[(k,.live (.cell (xs.map TV.leaf) O))])
     |none=>B
    |_=>B
   |_=>B
  |none=>B
inductive Bk where
 |ref (k:G)
 |rl (k e:G) (a:Ty)
 |mv (k e:G) (a:Ty)
def Bk.name:Bk->G
 |.ref k=>k
 |.rl k _ _=>k
 |.mv k _ _=>k
def Bk.isMv:Bk->W
 |.mv _ _ _=>O
 |_=>I
def jj2(rd rdf:G->BS)(t:F TyI)(mv rl:W)(c:Cel):F (Arg×Ups×F Bk):=
 match c with
 |.one (.bp k 0)=>match rd k with
  |.live (.cell ls O)=>match tvs rdf ls with
   |some (xs,u)=>D (.ip xs,u,B)
   |none=>B
  |.live (.cell ls I)=>match tvs rdf ls with
   |some (xs,u)=>D (.ref xs,u,D (.ref k))
   |none=>B
  |_=>B
 |.one (.ip ls)=>D (.ip ls,[],B)
 |.one (.clo f caps)=>D (.clo f caps,[],B)
 |.one (.ol k)=>match rl with
  |true=>cond mv (match rdf k with
   |.live (.lst e a xs I)=>D (.mv e ⟨.list a,xs⟩,[],D (.mv k e a))
   |_=>B) (match rd k with
   |.live (.lst e a xs I)=>D (.rl e ⟨.list a,xs⟩,[],D (.rl k e a))
   |_=>B)
  |false=>match rdf k with
   |.live (.lst e a xs _)=>D (.v ⟨.list a,xs⟩,[(k,.live (.lst e a xs O))],B)
   |_=>B
 |c=>match t with
  |some ti=>match ti.ty with
   |some ty=>match jb3 rdf ty c with
    |some (x,u)=>D (.v ⟨ty,x⟩,u,B)
    |none=>B
   |none=>B
  |none=>B
def jb6(rd rdf:G->BS)(T:G->F TyI)(mv:W):H G->H W->H Cel->F (H Arg×Ups×H Bk)
 |_,_,[]=>D ([],[],[])
 |ts,ms,c::r=>match jj2 rd rdf (ts.head?.bind T) mv (ms.headD I) c with
  |some (a,u,f)=>match jb6 rd rdf T mv ts.tail ms.tail r with
   |some (as,us,fs)=>D (a::as,u++us,f.toList++fs)
   |none=>B
  |none=>B
def jb7:Cap->Arg
 |.v x=> .v x
 |.p ls=> .ip ls
def jq5:Bk->Out->F (G×BS)
 |.ref k,.ref ys=>D (k,.live (.cell (ys.map TV.leaf) I))
 |.rl k e a,.rl y=>match y.to (.list a) with
  |some ys=>D (k,.live (.lst e a ys I))
  |none=>B
 |_,_=>B
def j7E:H Bk->H Out->F Ups
 |[],[]=>D []
 |.mv k _ _::fs,xs=>match j7E fs xs with
  |some u=>D ((k,.gone)::u)
  |none=>B
 |f::fs,x::xs=>match jq5 f x with
  |some y=>match j7E fs xs with
   |some u=>D (y::u)
   |none=>B
  |none=>B
 |_,_=>B
def j9N:H G->W
 |[]=>O
 |x::xs=> !xs.contains x&&j9N xs
def bkOk(us:Ups)(fs:H Bk):Bool:=j9N (fs.map Bk.name)&&us.all λx=> !(fs.map Bk.name).contains x.1
def soL:G->H RL->F (H Leaf×Ups)
 |_,[]=>D ([],[])
 |n,.d x::r=>match soL (n+1) r with
  |some (l,u)=>D (.d x.t x.v::l,u)
  |none=>B
 |n,.own e ⟨.list a,xs⟩::r=>match soL (n+1) r with
  |some (l,u)=>D (.ol n::l,(n,.live (.lst e a xs I))::u)
  |none=>B
 |_,.own _ _::_=>B
def jq6(n:G):RV->F (Cel×Ups)
 |.v x=>D (jb4 x.t x.v,[])
 |.own e ⟨.list a,xs⟩=>D (.one (.ol n),[(n,.live (.lst e a xs I))])
 |.own _ _=>B
 |.box ls=>D (.one (.bp n 0),[(n,.live (.cell (ls.map TV.leaf) I))])
 |.hd _=>B
 |.vn x ns=>match jb4 x.t x.v with
  |.st ls=>D (.st (ls.zipIdx.map λy=>if ns.contains y.2 then .nil else y.1),[])
  |c=>D (c,[])
 |.clo f caps=>D (.one (.clo f caps),[])
 |.so ls=>match soL n ls with
  |some (l,u)=>D (.st l,u)
  |none=>B
 |.raw _ _=>B
def rvW:RV->G
 |.so ls=>ls.length
 |_=>1
def jeX:G->H RV->F (H Cel×Ups)
 |_,[]=>D ([],[])
 |n,r::rs=>match jq6 n r with
  |some (c,u)=>match jeX (n+rvW r) rs with
   |some (cs,us)=>D (c::cs,u++us)
   |none=>B
  |none=>B
def RV.flat:RV->W
 |.v x=>x.t.flat
 |.own _ x=>match x.t with
  |.list a=>a.flat
  |_=>I
 |.box _=>I
 |.hd _=>I
 |.vn _ _=>I
 |.clo _ _=>I
 |.so _=>I
 |.raw _ _=>I
def Out.flat:Out->W
 |.ref ls=>ls.all λx=>x.t.flat
 |.rl x=>x.t.flat
def mkHd(rd rdf:G->BS)(n:G)(us:Ups)(fs:H Bk)(m:G)(os:H Out):F (Slot×Ups):=
 match fs,os with
 |.rl k e a::_,.rl y::_=>match j7E fs os,y.to (.list a) with
  |some uo,D ys=>if j5X (rd n)&&isLive (rdf k) then D (.one (.one (.ol n)),us++uo++[(k,.gone),(n,.live (.lst e a (Ð m ys) I))]) else B
  |_,_=>B
 |_,_=>B
def itC:Item->Cel
 |.s c=>c
 |.b _=> .one .dead
def itX:Item->BS
 |.b x=>x
 |.s _=> .gone
def rawC(ns:H G)(s:Snap):H Cel:=(s.take (s.length-ns.length)).map itC
def rawU(ns:H G)(s:Snap):Ups:=ns.zip ((s.drop (s.length-ns.length)).map itX)
def jdk:H Cel->Slot
 |[c]=> .one c
 |cs=> .tup cs
def jq7(rd:G->BS)(us:Ups)(fs:H Bk)(ns:H G)(s:Snap)(os:H Out):F (Slot×Ups):=
 match fs,os with
 |[],[]=>if j9N ns&&ns.all (λk=>j5X (rd k)) then D (jdk (rawC ns s),us++rawU ns s) else B
 |_,_=>B
def jkB(rd rdf:G->BS)(n:G)(us:Ups)(fs:H Bk)(r:Ret):F (Slot×Ups):=
 match r.vals with
 |[.hd m]=>mkHd rd rdf n us fs m r.outs
 |[.raw ns s]=>jq7 rd us fs ns s r.outs
 |_=>match j7E fs r.outs with
 |some uo=>match jeX n r.vals with
  |some (cs,un)=>
   if un.all (λe=>j5X (rd e.1)) then
    let u:=(if r.vals.all RV.flat&&r.outs.all Out.flat then [] else us)++uo++un
    match cs with
    |[c]=>D (.one c,u)
    |cs=>D (.tup cs,u)
   else B
  |none=>B
 |none=>B
def one1(fr:W)(e:G)(a:Ty)(n len:G):H (G×Cel)->F Act
 |[(0,c)]=>match c.leaves with
  |some ls=>if len=1/\ls.length=a.size/\a.size<=16777216/\fr=O/\isM e=I then D (.val O (.one (.one (.ol n))) [(n,.live (.row e a 1 ls))]) else B
  |none=>B
 |_=>B
def rowS(rdf:G->BS)(e:G)(a:Ty):Leaf->F (G×H Leaf×Ups)
 |.nil=>D (0,[],[])
 |.ol k=>match rdf k with
  |.live (.row e' a' m ls)=>if e'=e/\a'=a then D (m,ls,[(k,.gone)]) else B
  |_=>B
 |_=>B
def appN(rd rdf:G->BS)(e:G)(a:Ty)(n:G)(s x:Leaf):F (Leaf×Ups):=
 match x with
 |.ol k=>match rdf k with
  |.live (.row e' a' m ls)=>match rowS rdf e a s with
   |some (m0,ls0,u)=>if (e'=e/\a'=a)/\u.any (λy=>y.1==k)=I/\m0+m<=1000/\j5X (rd n)=O then D (.ol n,u++[(k,.gone),(n,.live (.row e a (m0+m) (ls0++ls)))]) else B
   |none=>B
  |_=>B
 |_=>B
def lf(c:Cel):Leaf:=match c with|.one y=>y|_=> .dead
def jq8(x:Ì)(b:W)(act:H (G×W)):H (G×W):=match x with
 |.tmp s=>(s,b)::act
 |_=>act
def jkC(T:G->F TyI)(t:G):F (Ty×Ty):=match T t with
 |some ti=>match ti.mp with
  |some (k,v)=>match T k,T v with
   |some tk,D tv=>match tk.ty,tv.ty with
    |some k,D v=>if k.isKey then D (k,v) else B
    |_,_=>B
   |_,_=>B
  |none=>B
 |none=>B
def mapC(rw:G->BS)(t:G)(k v:Ty)(x y:Leaf):F (G×H (k.den×v.den)×k.den):=match x,y with
 |.ol b,.d tk key=>match rw b with
  |.live (.lst e a xs I)=>if e=4294967296+t then match (TV.mk (.list a) xs).to (.list (.pair k v)),(TV.mk tk key).to k with
    |some ys,D q=>D (b,ys,q)
    |_,_=>B
   else B
  |_=>B
 |_,_=>B
def Env.ta(E:Env)(g:G):G->F TyI:=match E.pa g with
 |none=>E.T
 |some (t,ty)=>λn=>if n=t then (match E.T n with
  |some ti=>D { ti with ty:=D ty }
  |none=>B) else E.T n
def j4j(E:Env)(ev:Ì->Slot)(rw:G->BS)(act:H (G×W))(o:Æ):F Act:=
 let rd:=mskM rw
 let c (x:Ì):Cel:=(ev x).cel act
 let l (x:Ì):Leaf:=lf (c x)
 let n:=(o.dst.getD 0)*64+E.off
 let rdf (k:G):BS:=if parK E.np k then .gone else rd k
 match o.op with
 |.move x|.assign x=>match ev x with
  |.tup l=>D (.val O (.tup l) [])
  |s=>D (.cel (s.cel act))
 |.pick x a b=>match l x with
  |.d .bool v=>
   match (ev a).cel (jq8 x O act),(ev b).cel (jq8 x I act) with
   |.one (.d t p),.one (.d t' q)=>match (TV.mk t' q).to t with
    |some q'=>D (.leaf (.d t (cond v p q')))
    |none=>B
   |.one (.d t p),.one .dead=>D (.val v (.one (.one (.d t p))) [])
   |.one .dead,.one (.d t q)=>D (.val (!(show W from v)) (.one (.one (.d t q))) [])
   |_,_=>B
  |_=>B
 |.alloc t=>match E.T t with
  |some ti=>if j5X (rd n) then match ti.ty with
    |some (.arr k a)=>if j9i (D a) then D (.val O (.one (.one (.bp n 0))) [(n,.live (.cell (jdg (.arr k a)) I))]) else D (.val O (.one (.one (.bp n 0))) [(n,.live (.arr k a (Ä k a.dflt)))])
    |some ty=>D (.val O (.one (.one (.bp n 0))) [(n,.live (.cell (jdg ty) I))])
    |none=>B
   else B
  |none=>B
 |.box _ x=>if j5X (rd n) then match c x with
   |.av k a xs=>D (.val O (.one (.one (.bp n 0))) [(n,.live (.arr k a xs))])
   |v=>match v.leaves with
    |some ls=>D (.val O (.one (.one (.bp n 0))) [(n,.live (.cell ls I))])
    |none=>B
  else B
 |.build t ps=>match E.T t with
  |some ti=>match ti.ty with
   |some (.arr k a)=>if j9i (D a)&&ps.toList.isEmpty then D (.cel (.st (jdg (.arr k a)))) else match j7a rdf a (Ä k a.dflt) [] (ps.toList.map λp=>(p.1,c p.2)) with
    |some (xs,u)=>D (.val O (.one (.av k a xs)) u)
    |none=>B
   |some ty=>if ty.agg then match jhb ti (λt=>(E.T t).map (·.size)) (jdg ty) (ps.toList.map λp=>(p.1,c p.2)) with
    |some ls=>D (.cel (.st ls))
    |none=>B
    else B
   |none=>B
  |none=>B
 |.buildSlice t len ps=>match E.T t with
  |some ti=>match ti.ty with
   |some (.list a)=>if E.b1.contains (o.dst.getD 0) then one1 (j5X (rd n)) ti.elem a n len (ps.toList.map λp=>(p.1,c p.2)) else if 16777216<len*a.size then B else match j7a rdf a (Ä len a.dflt) [] (ps.toList.map λp=>(p.1,c p.2)) with
    |some (xs,u)=>if j5X (rd n) then D (.val O (.one (.one (.ol n))) (u++[(n,.live (.lst ti.elem a xs I))])) else B
    |none=>B
   |_=>B
  |none=>B
 |.load t x=>match E.T t with
  |some ti=>match jdi rd ti.ty (l x) with
   |some (m,a,ls)=>match jhV rdf a ls with
    |some (xs,u)=>if xs.length=m then D (.val O (.one (.av m a xs)) u) else B
    |none=>B
   |none=>oCel (jeg rd ti (l x))
  |none=>B
 |.store t x y=>match E.T t with
  |some ti=>match jeW rd rdf ti.size (c y) (l x) with
   |some u=>D (.val O (.one (.one .dead)) u)
   |none=>B
  |none=>B
 |.nilCheck x=>match l x with
  |.bp k p=>if isLive (rd k) then D (.leaf (.bp k p)) else B
  |.ep k i p=>if isLive (rd k) then D (.leaf (.ep k i p)) else B
  |.ip ls=>D (.leaf (.ip ls))
  |_=>B
 |.binOp op t x y _=>oChk (binC (E.T t) op (c x) (c y))
 |.unOp op _ x=>jcJ (unC op (c x))
 |.convert src dst x=>match E.T src,E.T dst with
  |some ts,D ti=>match l x,ts.ty,ti.ty with
   |.d (.int _) v,D (.int _),D (.int k)=>D (.leaf (.d (.int k) (k.wrap v)))
   |_,_,_=>B
  |_,_=>B
 |.makeFunc (.func f) first caps=>if first.isEmpty then (match jj1 rdf (caps.toList.map c) with
   |some (l,u)=>D (.val O (.one (.one (.clo f l))) u)
   |none=>B)
  else B
 |.fieldAddr t x i=>match E.T t with
  |some ti=>jcJ (jb5 rd ti i (l x))
  |none=>B
 |.field t x i=>match E.T t with
  |some ti=>match c x,ti.flds[i]? with
   |.st ls,D f=>match E.T f.2 with
    |some tf=>oCel (jgQ tf ((ls.drop f.1).take tf.size))
    |none=>B
   |_,_=>B
  |none=>B
 |.indexAddr t x i=>match E.T t with
  |some ti=>oChk (jdj rd ti (l x) (l i))
  |none=>B
 |.index t x i=>match E.T t with
  |some ti=>match idxV ti (c x) (l i) with
   |some (b,v)=>D (.val b (.one v) [])
   |none=>B
  |none=>B
 |.makeMap t B=>match jkC E.T t with
  |some (k,v)=>if j5X (rd n) then D (.val O (.one (.one (.ol n))) [(n,.live (.lst (4294967296+t) (.pair k v) [] I))]) else B
  |none=>B
 |.lookup t x i ok=>match jkC E.T t with
  |some (k,v)=>match mapC rw t k v (l x) (l i) with
   |some (_,ys,q)=>match ok with
    |true=>D (.val O (.tup [jb4 v (@j8K _ _ k.keq v.dflt ys q),.one (.d .bool (@jcu _ _ k.keq ys q))]) [])
    |false=>D (.cel (jb4 v (@j8K _ _ k.keq v.dflt ys q)))
   |none=>B
  |none=>B
 |.mapUpdate t x i y=>match jkC E.T t with
  |some (k,v)=>match mapC rw t k v (l x) (l i),jb3 rdf v (c y) with
   |some (b,ys,q),D (z,u)=>D (.val O (.one (.one .dead)) (u++[(b,.live (.lst (4294967296+t) (.pair k v) (@j9L _ _ k.keq ys q z) I))]))
   |_,_=>B
  |none=>B
 |.extract x i=>match ev x with
  |.tup l=>match l[i]? with
   |some c=>D (.cel c)
   |none=>B
  |_=>B
 |.call cl=>match cl.callee with
  |.builtin .len=>match cl.args.toList,cl.argTypes.toList with
   |[x],[t]=>match E.T t with
    |some ti=>jcJ (lenC rd ti.ty (l x))
    |none=>B
   |_,_=>B
  |.builtin .min=>jcJ (minC (cl.args.toList.map c))
  |.builtin .max=>jcJ (maxC (cl.args.toList.map c))
  |.builtin .append=>match cl.argTypes.toList,cl.args.toList with
   |[t,t'],[s,x]=>if t=t' then match E.T t with
     |some ti=>match ti.ty with
      |some (.list a)=>match appH rd ti.elem a (l s) (l x) with
       |some (b,v,u)=>D (.val b (.one (.one v)) u)
       |none=>match appN rd rdf ti.elem a n (l s) (l x) with
       |some (v,u)=>D (.val O (.one (.one v)) u)
       |none=>match appS rdf ti.elem a (l s),appX rd a (l x) with
        |some (xs,frz,u),D ys=>
         if j5X (rd n) then D (.val (X (xs.length+ys.length<=j06)) (.one (.one (.ol n))) (u++[(n,.live (.lst ti.elem a (xs++ys) frz))])) else B
        |_,_=>B
      |_=>B
     |none=>B
    else B
   |_,_=>B
  |.value f=>match l f with
   |.clo g caps=>match jb6 rw rdf (E.ta g) (E.mvf g) cl.argTypes.toList (E.modes g) (cl.args.toList.map c) with
    |some (as,us,fs)=>if bkOk us fs then D (.call g (as++caps.map jb7) (jkB rd rdf n us fs)) else B
    |none=>B
   |_=>B
  |.builtin .copy=>match cl.argTypes.toList,cl.args.toList with
   |[t,t'],[x,y]=>if t=t' then match E.T t with
     |some ti=>match jmJ rd ti.ty (l x) (l y) with
      |some (v,u)=>D (.val O (.one (.one v)) u)
      |none=>B
     |none=>B
    else B
   |_,_=>B
  |.builtin .clear=>match cl.argTypes.toList,cl.args.toList with
   |[t],[x]=>match E.T t with
    |some ti=>match jhe rd ti.ty (l x) with
     |some u=>D (.val O (.one (.one .dead)) u)
     |none=>B
    |none=>B
   |_,_=>B
  |_=>B
 |.slice t x lo hi B=>match E.T t with
  |some ti=>match jhc (parK E.np) rd ti n (l x) (lo.map l) (hi.map l) with
   |some (b,v,u)=>D (.val b (.one (.one v)) u)
   |none=>B
  |none=>B
 |.slice t x lo hi (D mx)=>match E.T t with
  |some ti=>match jhd rd ti (l x) (lo.map l) (hi.map l) (l mx) with
   |some b=>D (.val b (.one (.one .dead)) [])
   |none=>B
  |none=>B
 |_=>B
def St.upd(σ:St):Ups->St
 |[]=>σ
 |e::u=>(σ.setB e.1 e.2).upd u
def kill(d:G):Slot->Slot
 |.cnd s w c=>if s=d then .one (.one .dead) else .cnd s w c
 |x=>x
def St.put(σ:St)(d:F G)(s:Slot):St:=
 match d with
 |none=>σ
 |some d=>{ σ with sl:=λj=>kill d (if j=d then s else σ.sl j) }
def St.setD(σ:St)(d:F G)(s:Slot):St:=
 match d with
 |none=>σ
 |some d=>σ.setS d s
def juB:Slot->Slot
 |.cnd _ _ _=> .one (.one .dead)
 |x=>x
def St.clear(σ:St):St:={ σ with sl:=λj=>juB (σ.sl j) }
def jgR(N:NT)(o:Æ):Bool:=
 match o.dst with
 |none=>O
 |some d=>X (d<N.n) && !N.pin d
def jfG{R:Type}(e:W)(t f:F R):F R:=open Classical in cond e (if t=f then f else B) f
theorem jkD{R:Type}(e:W)(t:F R):jfG e t t=t:=by cases e<;>simp[jfG]
theorem jkE{R:Type}{e:W}{t f:F R}{r:R}(h:jfG e t f=D r):f=D r/\(e=O->t=D r):=by
 cases e with
 |false=>exact⟨h,λh'=>by simp at h'⟩
 |true=>
  simp only[jfG,j4]at h;split at h
  .rename_i he;exact⟨h,λ_=>he.trans h⟩
  .simp at h
def nilT(E:Env)(σ:St)(o:Æ):F Bool:=
 match o.op with
 |.binOp .eql t x y _=>match σ.ev x,σ.ev y,E.T t with
  |.one (.one (.d (.list _) xs)),.one (.one .nil),D ti=>if j9i ti.ty then D (List.isEmpty xs) else B
  |_,_,_=>B
 |_=>B
def spT(σ:St)(o:Æ):F (G×Î×Ç×G):=
 match o.op with
 |.indexAddr _ x (.tmp t)=>match σ.ev x,σ.sl t with
  |.one (.one (.ol k)),.one (.one (.d (.int kk) v))=>match σ.bx k with
   |.live (.row _ _ n _)=>if Nat.blt 1 n then D (t,kk,v,n) else B
   |_=>B
  |_,_=>B
 |_=>B
def spl{R:Type}(v:Ç)(f:Ç->F R):G->G->F R
 |0,_=>B
 |m+1,j=>cond (v==Ï j) (f (Ï j)) (spl v f m (j+1))
def pre{R:Type}(σ:St)(o:Æ)(k:St->F R):F R:=match spT σ o with
 |some (t,kk,v,n)=>spl v (λj=>k (σ.setS t (.one (.one (.d (.int kk) j))))) n 0
 |none=>k σ
theorem jlK{R:Type}{v:Ç}{f:Ç->F R}{r:R}:∀(m j:G),spl v f m j=D r->f v=D r
 |0,_,h=>by simp[spl]at h
 |m+1,j,h=>by
  simp only[spl]at h;by_cases he:v=Ï j
  .rw[<-he,beq_self_eq_true,j4]at h;exact h
  .rw[show (v==Ï j)=I by simpa using he,j5]at h;exact jlK m (j+1) h
theorem jnF{σ:St}{i:G}{s:Slot}(h:σ.sl i=s):σ.setS i s=σ:=by
 have e:(λj=>if j=i then s else σ.sl j)=σ.sl:=by
  funext j
  by_cases hj:j=i
  .subst hj;rw[if_pos rfl,h]
  .rw[if_neg hj]
 show { σ with sl:=_ }=σ;rw[e]
theorem jlL{R:Type}{σ:St}{o:Æ}{k:St->F R}{r:R}(h:pre σ o k=D r):k σ=D r:=by
 unfold pre at h;split at h
 .rename_i t kk v n he;have h':=jlK _ _ h
  have hs:σ.sl t = .one (.one (.d (.int kk) v)):=by
   unfold spT at he
   repeat' split at he
   all_goals first
    |(simp at he;done)
    |(
     simp only[j3,j7]at he;obtain⟨rfl,rfl,rfl,rfl⟩:=he;assumption)
  rw[jnF hs]at h';exact h'
 .exact h
noncomputable section
variable(E:Env){R:Type}
def run1(p:W)(σ:St)(act:H (G×W))(o:Æ)(k:St->F R):F R:=pre σ o λσ=>
 match cond E.nz (nilT E σ o) B with
 |some e=>jfG e (k (cond p (σ.put o.dst (.one (.one (.d .bool O)))) (σ.setD o.dst (.one (.one (.d .bool O)))))) (k (cond p (σ.put o.dst (.one (.one (.d .bool I)))) (σ.setD o.dst (.one (.one (.d .bool I))))))
 |none=>
 match j4j E σ.ev σ.bx act o with
 |none=>B
 |some (.val chk s u)=>cond chk (k (cond p ((σ.upd u).put o.dst s) ((σ.upd u).setD o.dst s))) B
 |some (.call f args mk)=>E.C f args R λret=>match mk ret with
  |some (s,u)=>k (cond p ((σ.upd u).put o.dst s) ((σ.upd u).setD o.dst s))
  |none=>B
def gval(σ:St)(s:G):F Bool:=
 match σ.sl s with
 |.one (.one (.d .bool v))=>D v
 |.cnd _ _ (.one (.d .bool v))=>D v
 |_=>B
def jnG(r:H (G×W))(σ:St)(s:G):F Bool:=
 match σ.sl s with
 |.one (.one (.d .bool v))=>D v
 |.cnd s' w' (.one (.d .bool v))=>if r.contains (s',w') then D v else B
 |_=>B
def actB(σ:St):H (G×W)->F W
 |[]=>D O
 |(s,w)::r=>match gval σ s with
  |some v=>match r with
   |[]=>D (cond w v (!v))
   |r=>match actB σ r with
    |some b=>D (b&&cond w v (!v))
    |none=>B
  |none=>B
def jeY:H (G×W)->St->(St->W->F R)->F R
 |[],σ,k=>k σ O
 |(s,w)::r,σ,k=>jeY r σ λσ1 a=>match a with
  |true=>match jnG r σ1 s with
   |some v=>cond v (k (σ1.setS s (.one (.one (.d .bool O)))) w) (k (σ1.setS s (.one (.one (.d .bool I)))) (!w))
   |none=>B
  |false=>k σ1 I
def jnH(ops:Ê Æ)(σ:St)(o:Æ)(k:St->F R):F R:=
 match j7m ops o with
 |none=>match o.guard with
  |none=>run1 E O σ [] o k
  |some _=>B
 |some g=>
  let ch:=σ.chain 40 g
  let slow:=jeY ch σ λσ' a=>match a with
   |true=>run1 E O σ' ch o k
   |false=>k (σ'.put o.dst (.one (.one .dead)))
  match j4j E σ.ev σ.bx ch o with
  |some (.val chk (.one c) [])=>match actB σ ch with
   |some ab=>cond (chk || !ab) (k (σ.put o.dst (.cnd g.1 g.2 c))) B
   |none=>slow
  |_=>slow
def j86:H Æ->St->(St->F R)->F R
 |[],σ,k=>k σ
 |o::os,σ,k=>if jgR E.N o then run1 E I σ [] o λσ'=>j86 os σ' k else B
def jhf(ops:Ê Æ):H Æ->St->(St->F R)->F R
 |[],σ,k=>k σ.clear
 |o::os,σ,k=>if jgR E.N o then jnH E ops σ o λσ'=>jhf ops os σ' k else B
def bare(ops:Ê Æ):Bool:=ops.toList.all λo=>o.guard.isNone
def j87(ops:Ê Æ)(σ:St)(k:St->F R):F R:=
 if bare ops then j86 E ops.toList σ k else jhf E ops ops.toList σ k
end
noncomputable section
variable(E:Env){R:Type}
end
def j9O(o:Æ):H Nat:=o.after.toList.filterMap λe=>if Region.binds .any e then D e.on else B
def jbv(o:Æ):Bool:=match o.op with
 |.nilCheck _|.fieldAddr _ _ _|.indexAddr _ _ _=>O
 |_=>I
def jai(o:Æ):Bool:=match o.op with
 |.store _ _ _=>O
 |_=>I
def jtA(cls:H G)(o:Æ):Nat:=(j9O o).foldl (λm j=>m|||(2^j|||cls.getD j 0)) 0
def jnI:H Æ->H G->H G
 |[],cls=>cls
 |o::os,cls=>jnI os (cls++[jtA cls o])
def jj3(cl:H G)(i j:G):Bool:=i==j||(cl.getD i 0).testBit j||(cl.getD j 0).testBit i
def juC(a b:H G):Bool:=a.all λk=> !b.contains k
def jlM(ops:Ê Æ)(cl:H G)(A:H (H G))(i:G)(oi:Æ)(j:G)(oj:Æ):Bool:=
 (match oj.dst with
 |some t=>i==j||(oi.dst != D t&&(!(oi.looksAt ops).contains t||jj3 cl i j))
 |none=>O)&&(A.isEmpty||jj3 cl i j||juC (A.getD i []) (A.getD j []))
def jrc(ops:Ê Æ)(cl:H G)(A:H (H G)):Bool:=
 ops.toList.zipIdx.all λx=>(j9O x.1).all (λj=>X (j<x.2))&&(A.isEmpty || !jbv x.1||(A.getD x.2 []).isEmpty)&&ops.toList.zipIdx.all λy=>jlM ops cl A x.2 x.1 y.2 y.1
def jhW(ops:Ê Æ)(cl:H G)(A:H (H G))(i:G)(oi:Æ):H Nat:=
 if A.isEmpty then [] else ops.toList.zipIdx.flatMap λx=>if jj3 cl i x.2||(jbv oi&&jai x.1) then [] else A.getD x.2 []
def j9a(M:H G)(rd:G->BS)(k:G):BS:=if M.contains k then .gone else rd k
noncomputable section
variable(E:Env){R:Type}
def runD(M Ai:H G)(σ:St)(o:Æ)(k:St->F R):F R:=pre σ o λσ=>
 match j4j E σ.ev (j9a M σ.bx) [] o with
 |none=>B
 |some (.val chk s u)=>if u.all (λe=>Ai.contains e.1) then cond chk (k ((σ.upd u).setD o.dst s)) B else B
 |some (.call f args mk)=>E.C f args R λret=>match mk ret with
  |some (s,u)=>if u.all (λe=>Ai.contains e.1) then k ((σ.upd u).setD o.dst s) else B
  |none=>B
def js2(σ:St)(o:Æ)(k:St->F R):F R:=k (σ.setD o.dst .und)
def jj4(ops:Ê Æ)(M Ai:H G)(σ:St)(o:Æ)(k:St->F R):F R:=
 match o.guard with
 |none=>runD E M Ai σ o k
 |some _=>match j7m ops o with
  |some (s,wn)=>match σ.sl s with
   |.one (.one (.d .bool v))=>
    cond v (cond wn (runD E M Ai (σ.setS s (.one (.one (.d .bool O)))) o k) (js2 (σ.setS s (.one (.one (.d .bool O)))) o k))
     (cond wn (js2 (σ.setS s (.one (.one (.d .bool I)))) o k) (runD E M Ai (σ.setS s (.one (.one (.d .bool I)))) o k))
   |.und=>js2 σ o k
   |_=>B
  |none=>B
def jmK(ops:Ê Æ)(cl:H G)(A:H (H G)):H Æ->G->St->(St->F R)->F R
 |[],_,σ,k=>k σ
 |o::os,i,σ,k=>if jgR E.N o then jj4 E ops (jhW ops cl A i o) (A.getD i []) σ o λσ'=>jmK ops cl A os (i+1) σ' k else B
def jdl(ops:Ê Æ)(A:H (H G))(σ:St)(k:St->F R):F R:=
 if jrc ops (jnI ops.toList []) A then jmK E ops (jnI ops.toList []) A ops.toList 0 σ k else B
end
def jeZ(σ:St):Loc->Leaf
 |.slot i=>match σ.sl i with
  |.one (.one x)=>x
  |_=> .dead
 |.cell k c=>match σ.bx k with
  |.live (.cell ls I)=>ls.getD c .dead
  |.live (.row _ _ _ ls)=>ls.getD c .dead
  |_=> .dead
def jj5(K:Keep)(l:Loc):F Nat:=(K.lists.find? λx=>x.locs.contains l).map (·.name)
def jdm(K:Keep)(loc:F Loc):Leaf->Leaf
 |.dead=> .dead
 |.nil=>match loc.bind (jj5 K) with
  |some n=> .ol n
  |none=> .nil
 |.d t v=> .d t v
 |.ol k=>if K.boxes.contains k then .ol k else match loc.bind (jj5 K) with
  |some n=> .ol n
  |none=> .dead
 |.bp k c=>if K.boxes.contains k then .bp k c else .dead
 |.ep k i c=>if K.boxes.contains k&&ë (k%64) 1 then .ep k i c else .dead
 |.tl k i=>if K.boxes.contains k then .tl k i else .dead
 |.hd k i=>if K.boxes.contains k then .hd k i else .dead
 |.ip ls=> .ip ls
 |.clo f caps=> .clo f caps
def jq9(K:Keep)(i:G):Slot->Cel
 |.one (.one x)=> .one (jdm K (D (.slot i)) x)
 |.one (.st ls)=> .st (ls.map (jdm K B))
 |.one (.av n a xs)=> .av n a xs
 |_=> .one .dead
def jj6(K:Keep)(k:G):BS->BS
 |.live (.cell ls frz)=> .live (.cell (ls.zipIdx.map λx=>jdm K (if frz then B else D (.cell k x.2)) x.1) frz)
 |.live (.arr n a xs)=> .live (.arr n a xs)
 |.live (.lst e a xs frz)=> .live (.lst e a xs frz)
 |.live (.row e a n ls)=> .live (.row e a n (ls.zipIdx.map λx=>jdm K (D (.cell k x.2)) x.1))
 |_=> .gone
def jhg(σ:St)(e:G)(a:Ty)(l:Loc):F (F G×H a.den×W):=
 match jeZ σ l with
 |.nil=>if isM e then B else D (B,[],I)
 |.ol k=>match σ.bx k with
  |.live (.lst e' a' xs frz)=>match (TV.mk (.list a') xs).to (.list a) with
   |some xs'=>if e'=e then D (D k,xs',frz) else B
   |none=>B
  |_=>B
 |_=>B
def jcK(σ:St)(e:G)(a:Ty):H Loc->F (F G×H a.den×W)
 |[]=>B
 |[l]=>jhg σ e a l
 |l::ls=>match jhg σ e a l,jcK σ e a ls with
  |some (k,xs,f),D (k',_,_)=>if k=k' then D (k,xs,f) else B
  |_,_=>B
def j9P(np:G)(σ:St)(bs:H G):H jef->F (H Item×H G)
 |[]=>D ([],[])
 |x::r=>match jcK σ x.e x.a x.locs,j9P np σ bs r with
  |some (k,xs,f),D (is,ks)=>match k with
   |none=>D (.b (.live (.lst x.e x.a xs x.frz))::is,ks)
   |some k=>if ks.contains k||bs.contains k||parK np k then B else D (.b (.live (.lst x.e x.a xs f))::is,k::ks)
  |_,_=>B
def jbw(np:G):H jef->St->F St
 |[],σ=>D σ
 |x::r,σ=>if x.frz then match x.locs with
   |l::_=>match jeZ σ l with
    |.ol k=>match σ.bx k with
     |.live (.lst e a xs _)=>if parK np k||isM e then B else jbw np r (σ.setB k (.live (.lst e a xs O)))
     |_=>B
    |_=>jbw np r σ
   |[]=>jbw np r σ
  else jbw np r σ
def Keep.ok(np:G)(K:Keep):Bool:=j9N (K.lists.map (·.name))&&K.lists.all λx=> !K.boxes.contains x.name && !parK np x.name
def jkF(np:G)(K:Keep)(σ:St):F Snap:=
 match j9P np σ K.boxes K.lists with
 |some (is,_)=>if K.ok np then D ((K.slots.map λi=> .s (jq9 K i (σ.sl i)))++((K.boxes.map λk=> .b (jj6 K k (σ.bx k)))++is)) else B
 |none=>B
def j6D(np:G)(K:Keep)(σ:St):F Snap:=
 match jbw np K.lists σ with
 |some σ2=>jkF np K σ2
 |none=>B
def jkG:F Item->Slot
 |some (.s c)=> .one c
 |_=> .one (.one .dead)
def jj7:F Item->BS
 |some (.b b)=>b
 |_=> .gone
def j1i(np:G)(K:Keep)(s:Snap):St where
 sl:=λi=>match K.slots.idxOf? i with
  |some j=>jkG s[j]?
  |none=> .one (.one .dead)
 bx:=λn=>match K.boxes.idxOf? n with
  |some j=>jj7 s[K.slots.length+j]?
  |none=>match (K.lists.map (·.name)).idxOf? n with
   |some j=>jj7 s[K.slots.length+K.boxes.length+j]?
   |none=>if parK np n then .gone else .free
def rowL(a:Ty)(m:G)(xs:H a.den):H Leaf:=(Ñ m).flatMap λi=>(scat a (É xs i a.dflt)).map TV.leaf
def jmL(rd:G->BS)(a:Ty):G->H Leaf->F (H a.den×Ups)
 |0,[]=>D ([],[])
 |0,_::_=>B
 |n+1,ls=>match gath rd a ls with
  |some (x,r,u)=>match jmL rd a n r with
   |some (xs,v)=>D (x::xs,u++v)
   |none=>B
  |none=>B
def jqa(np:G)(σ:St):Gh->F (W×St)
 |.ex k c n m=>match σ.bx k with
  |.live (.cell ls I)=>match ls.getD c .dead with
   |.ol b=>match σ.bx b with
    |.live (.lst e a xs I)=>if isM e||parK np b||b==n||b==k || !j5X (σ.bx n) then B else
     D (ë xs.length m,(((σ.setB b .gone).setB n (.live (.row e a m (rowL a m xs)))).setB k (.live (.cell (ls.set c (.ol n)) I))))
    |_=>B
   |_=>B
  |_=>B
 |.rl k=>match σ.bx k with
  |.live (.row e a n ls)=>match jmL (λj=>if parK np j then .gone else mskM σ.bx j) a n ls with
   |some (xs,u)=>if u.any (λy=>y.1==k) then B else D (O,σ.upd (u++[(k,.live (.lst e a xs I))]))
   |none=>B
  |_=>D (O,σ)
def jfH{R:Type}(np:G):H Gh->St->(St->F R)->F R
 |[],σ,k=>k σ
 |g::gs,σ,k=>match jqa np σ g with
  |some (b,σ')=>cond b (jfH np gs σ' k) B
  |none=>B
def jf0{R:Type}(f:G->St->(Ex->St->F R)->F R):G->G->St->(Ex->St->F R)->F R
 |0,_,_,_=>B
 |n+1,i,σ,k=>f i σ λe σ'=>match e with
  |.normal=>jf0 f n (i+1) σ' k
  |e=>k e σ'
def j1l:G->Þ->H (G×Þ)
 |b,.seq x y=>j1l b x++j1l b y
 |b,.cond _ x y=>j1l b x++j1l b y
 |_,.block id c=>j1l id c
 |b,.loop c=>(b,c)::j1l b c
 |b,.rangeFunc g ps x y=>[(b,.rangeFunc g ps x y)]
 |b,.scope c=>j1l b c
 |_,_=>[]
def St.know(f:W)(σ:St)(c:Ì)(v:W):St:=match f,c with
 |true,.tmp s=>σ.setS s (.one (.one (.d .bool v)))
 |_,_=>σ
theorem jnJ{f:W}{σ:St}{c:Ì}{v:W}(h:σ.ev c = .one (.one (.d .bool v))):σ.know f c v=σ:=by
 unfold St.know;split
 .rename_i s;have h:σ.sl s = .one (.one (.d .bool v)):=h
  have e:(λj=>if j=s then Slot.one (.one (.d .bool v)) else σ.sl j)=σ.sl:=by
   funext j
   by_cases hj:j=s
   .subst hj;rw[if_pos rfl,h]
   .rw[if_neg hj]
  show { σ with sl:=_ }=σ;rw[e]
 .rfl
def jrd(o:Æ):Bool:=
 match o.op with
 |.defer _=>I
 |_=>O
def j1z:Þ->W
 |.skip=>O
 |.region _ ops _=>ops.toList.all jrd
 |.seq x y=>j1z x&&j1z y
 |.cond _ x y=>j1z x&&j1z y
 |.block _ c=>j1z c
 |.scope c=>j1z c
 |.label _=>O
 |.exit _=>O
 |.ret=>O
 |_=>I
def jf1:Þ->H G
 |.region _ ops _=>ops.toList.filterMap (·.dst)
 |.seq x y=>jf1 x++jf1 y
 |.cond _ x y=>jf1 x++jf1 y
 |.block _ c=>jf1 c
 |.scope c=>jf1 c
 |_=>[]
def jmM(ps:Ê G)(x y:Þ)(i:G):Bool:= !(ps.toList.contains i) && !((jf1 x++jf1 y).contains i)
def pinK(ps:Ê G)(x y:Þ)(K:Keep):Bool:=K.slots.all (jmM ps x y)
def Env.rnd(E:Env)(ps:Ê G)(x y:Þ):Env:={ E with N:=⟨E.N.n,jmM ps x y⟩ }
def isRf:Þ->W
 |.rangeFunc .. => O
 |_=>I
def jfI(kd:W)(n:G):Int:=cond kd 1 (Ï n)
def js3(kd:W)(n:G)(c:Ç):Bool:=cond kd (X (Ï n<=c)) (X (c<=0))
def itOk(kd:W)(n:G)(c:Ç):Bool:=cond kd (X (1<=c)) (X (c<=Ï n))
def jj8(kd:W)(c:Ç):Int:=cond kd (c+1) (c-1)
def chgV:(t:Ty)->H t.den->Ç->H TV
 |.pair (.int .i64) (.pair (.int .i64) (.int .i64)),xs,c=>[⟨.pair (.int .i64) (.pair (.int .i64) (.int .i64)),
  ((É xs c.toNat (0,0,0)).1,(É xs (c-1).toNat (0,0,0)).2.2,(É xs c.toNat (0,0,0)).2.2)⟩]
 |_,_,_=>[]
def jj9(kd:W)(t:Ty)(xs:H t.den)(c:Ç):H TV:=cond kd (chgV t xs c) [⟨.int .i64,c-1⟩,⟨t,É xs (c-1).toNat t.dflt⟩]
def setL(l:H (G×TV))(σ:St):St:=l.foldl (λσ q=>σ.setS q.1 (.one (jb4 q.2.t q.2.v))) σ
def jbx:H G->W
 |[]=>O
 |x::r=> !(r.contains x)&&jbx r
abbrev segT:Ty:= .pair (.int .i64) (.pair (.int .i64) (.int .i64))
def rfK(E:Env)(b f:G)(t:Ty)(ps:Ê G)(x y:Þ):F Bool:=match E.bw f with
 |some q=>cond (X (q.2=t)&&(cond q.1 (X (t=segT)) O&&(X (ps.toList.length=cond q.1 1 2)&&(jbx ps.toList&&(ps.toList.all (λp=>X (p<E.N.n))&&(j1z x&&(j1z y&&pinK ps x y (E.keep b)))))))) (D q.1) B
 |none=>B
noncomputable section
variable(E:Env){R:Type}
end
def Env.lk(E:Env)(b:G):Nat:=b+65536*E.off
def j0S{R:Type}:Env->G->Þ->St->(Ex->St->F R)->F R
 |E,_,.skip,σ,k=>k .normal σ
 |E,_,.region id ops I,σ,k=>jfH E.np (E.pre id) σ λσ=>j87 E ops σ λσ'=>k .normal σ'
 |E,_,.region id ops O,σ,k=>jfH E.np (E.pre id) σ λσ=>jdl E ops (E.dw id) σ λσ'=>k .normal σ'
 |E,b,.seq x y,σ,k=>j0S E b x σ λe σ'=>match e with
  |.normal=>j0S E b y σ' k
  |e=>k e σ'
 |E,b,.cond c x y,σ,k=>match σ.ev c with
  |.one (.one (.d .bool v))=>cond v (j0S E b x (σ.know E.sc c O) k) (j0S E b y (σ.know E.sc c I) k)
  |_=>B
 |E,_,.block id c,σ,k=>j0S E id c σ λe σ'=>match e with
  |.exit i=>if i=id then k .normal σ' else k (.exit i) σ'
  |e=>k e σ'
 |E,b,.loop c,σ,k=>cond (isRf c) B (cond (Nat.blt 0 (E.un b)) (jf0 (λi σ k=>j0S (E.offR i) b c σ k) (E.un b) 0 σ k) (match j6D E.np (E.keep (E.lk b)) σ with
  |some s=>E.L (E.lk b) s R λe s'=>k e (j1i E.np (E.keepX (E.lk b) e) s')
  |none=>B))
 |E,b,.rangeFunc g ps x y,σ,k=>match σ.ev g with
  |.one (.one (.clo f [.p [⟨.list t,xs⟩]]))=>match rfK E b f t ps x y with
   |some kd=>match j6D E.np (E.keep b) σ with
    |some s=>E.L b (.s (.one (.d (.int .i64) (jfI kd (È xs))))::s) R λe s'=>k e (j1i E.np (E.keepX b e) s')
    |none=>B
   |none=>B
  |_=>B
 |E,b,.scope c,σ,k=>j0S E b c σ k
 |E,_,.label _,σ,k=>k .normal σ
 |E,_,.exit i,σ,k=>k (.exit i) σ
 |E,_,.ret,σ,k=>k .ret σ
 |_,_,_,_,_=>B
noncomputable section
variable(E:Env){R:Type}
def jaj(q b:G)(c:Þ)(s:Snap):F (Snap ⊕ Ex×Snap):=
 j0S E b c (j1i E.np (E.keep q) s) λe σ=>match e with
  |.normal=>match j6D E.np (E.keep q) σ with
   |some s'=>D (.inl s')
   |none=>B
  |e=>match j6D E.np (E.keepX q e) σ with
   |some s'=>D (.inr (e,s'))
   |none=>B
def jfJ(b:G)(g:Ì)(ps:Ê G)(x y:Þ)(s:Snap)(K:F (H Item)->Ex->St->F R):F R:=
 match s with
 |.s (.one (.d (.int .i64) n))::s0=>match (j1i E.np (E.keep b) s0).ev g with
  |.one (.one (.clo f [.p [⟨.list t,xs⟩]]))=>match rfK E b f t ps x y with
   |some kd=>cond (js3 kd (È xs) n) (K B .normal (j1i E.np (E.keep b) s0)) (cond (itOk kd (È xs) n)
    (j0S (E.rnd ps x y) 0 x (setL (ps.toList.zip (jj9 kd t xs n)) (j1i E.np (E.keep b) s0)) λe σ=>match e with
     |.normal=>j0S (E.rnd ps x y) 0 y σ (K (D [.s (.one (.d (.int .i64) (jj8 kd n)))]))
     |_=>B) B)
   |none=>B
  |_=>B
 |_=>B
def jf2(b:G)(g:Ì)(ps:Ê G)(x y:Þ)(s:Snap):F (Snap ⊕ Ex×Snap):=
 jfJ E b g ps x y s λp e σ=>match p,e with
  |some q,.normal=>match j6D E.np (E.keep b) σ with
   |some s'=>D (.inl (q++s'))
   |none=>B
  |_,e=>cond (pinK ps x y (E.keepX b e)) (match j6D E.np (E.keepX b e) σ with
   |some s'=>D (.inr (e,s'))
   |none=>B) B
def jja(q b:G):Þ->Snap->F (Snap ⊕ Ex×Snap)
 |.rangeFunc g ps x y,s=>jf2 E.off0 q g ps x y s
 |c,s=>jaj E.off0 q b c s
end
def loopN{α β:Type}(f:α->F (α ⊕ β)):G->α->F β
 |0,_=>B
 |n+1,s=>match f s with
  |some (.inl s')=>loopN f n s'
  |some (.inr x)=>D x
  |none=>B
def jhX(i:G):Arg->Cel
 |.v x=>jb4 x.t x.v
 |.ref _=> .one (.bp (i*64) 0)
 |.rl _ _=> .one (.ol (i*64))
 |.ip ls=> .one (.ip ls)
 |.clo f caps=> .one (.clo f caps)
 |.mv _ _=> .one (.ol (i*64+63))
def j8m:F Arg->BS
 |some (.ref ls)=> .live (.cell (ls.map TV.leaf) I)
 |some (.rl e ⟨.list a,xs⟩)=> .live (.lst e a xs I)
 |_=> .free
def jhY:F Arg->BS
 |some (.mv e ⟨.list a,xs⟩)=> .live (.lst e a xs I)
 |_=> .free
def St.init(args:H Arg):St where
 sl:=λi=>match args[i]? with
  |some a=> .one (jhX i a)
  |none=> .one (.one .dead)
 bx:=λn=>if n%64=0 then j8m args[n/64]? else if n%64=63 then jhY args[n/64]? else .free
def soOf(rd:G->BS):H SoK->H Leaf->F (H RL×H G×Ups)
 |[],[]=>D ([],[],[])
 |.d t::ks,l::ls=>match jdh rd t l,soOf rd ks ls with
  |some (x,u),D (r,n,v)=>cond t.leafy (D (.d ⟨t,x⟩::r,n,u++v)) B
  |_,_=>B
 |.own e a::ks,.nil::ls=>match soOf rd ks ls with
  |some (r,n,v)=>cond (isM e) B (D (.own e ⟨.list a,[]⟩::r,n,v))
  |none=>B
 |.own e _::ks,.ol k::ls=>match rd k with
  |.live (.lst e' b xs I)=>cond (ë e' e) (match soOf rd ks ls with
   |some (r,n,v)=>D (.own e' ⟨.list b,xs⟩::r,k::n,v)
   |none=>B) B
  |_=>B
 |_,_=>B
def rvOf(E:Env)(rd:G->BS)(own:W)(t:G)(c:Cel):F (RV×H G×Ups):=
 match c with
 |.one (.bp k 0)=>match rd k with
  |.live (.cell ls I)=>match tvs rd ls with
   |some (xs,u)=>D (.box xs,[k],u)
   |none=>B
  |_=>B
 |.one (.clo f caps)=>D (.clo f caps,[],[])
 |c=>match E.T t with
  |some ti=>match ti.ty with
   |some ty=>match own with
    |true=>match c,ty with
     |.st ls,_=>match soOf rd E.so ls with
      |some (r,n,v)=>D (.so r,n,v)
      |none=>B
     |.one .nil,.list a=>D (.own ti.elem ⟨.list a,[]⟩,[],[])
     |.one (.ol k),_=>match rd k with
      |.live (.lst e a xs I)=>D (.own e ⟨.list a,xs⟩,[k],[])
      |_=>B
     |_,_=>B
    |false=>match jb3 rd ty c with
     |some (x,u)=>D (.v ⟨ty,x⟩,[],u)
     |none=>B
   |none=>B
  |none=>B
def jfK(E:Env)(σ:St):è->F Cel
 |.tmp t=>match σ.sl t with
  |.one c=>D c
  |_=>B
 |.cell a t=>match E.T t,σ.sl a with
  |some ti,.one (.one x)=>jeg (mskM σ.bx) ti x
  |_,_=>B
def j88(E:Env)(σ:St):H W->H è->H G->F (H RV×H G×Ups)
 |_,[],_=>D ([],[],[])
 |os,r::rs,ts=>match jfK E σ r with
  |some c=>match rvOf E (λk=>if parK E.np k then .gone else mskM σ.bx k) (os.headD I) (ts.headD 0) c with
   |some (v,ks,u)=>match j88 E σ os.tail rs ts.tail with
    |some (vs,ks',u')=>D (v::vs,ks++ks',u++u')
    |none=>B
   |none=>B
  |none=>B
def outs(np:G)(σ:St):G->H Arg->F (H Out×Ups)
 |_,[]=>D ([],[])
 |i,a::as=>match outs np σ (i+1) as with
  |some (os,u)=>match a with
   |.ref _=>match σ.bx (i*64) with
    |.live (.cell ls I)=>match tvs (λk=>if parK np k then .gone else mskM σ.bx k) ls with
     |some (xs,u')=>D (.ref xs::os,u'++u)
     |none=>B
    |_=>B
   |.rl e x=>match σ.bx (i*64) with
    |.live (.lst e' a xs I)=>if e'=e/\x.t = .list a then D (.rl ⟨.list a,xs⟩::os,u) else B
    |_=>B
   |_=>D (os,u)
  |none=>B
def hdOf(σ:St):Leaf->F G
 |.ol 0=>match σ.bx 0 with
  |.live (.lst e _ xs I)=>if isM e then B else D xs.length
  |_=>B
 |.hd 0 i=>match σ.bx 0 with
  |.live (.lst _ _ _ I)=>D i
  |_=>B
 |_=>B
def jtB(E:Env)(fn:Func)(args:H Arg)(σ:St):F Ret:=
 match args,fn.results.toList with
 |.rl _ _::_,[r]=>match jfK E σ r,outs E.np σ 0 args with
  |some (.one l),D (os,_)=>match hdOf σ l with
   |some m=>D ⟨[.hd m],os⟩
   |none=>B
  |_,_=>B
 |_,_=>B
def nilV(E:Env)(σ:St)(rs:H è)(vs:H RV):F (H RV):=
 if E.ns.isEmpty then D vs else match rs,vs with
  |[r],[.v x]=>match jfK E σ r with
   |some (.st ls)=>if E.ns.all (λi=>match ls[i]? with|some .nil=>O|_=>I) then D [.vn x E.ns] else B
   |_=>B
  |_,_=>B
def jak(ns:H G):Leaf->W
 |.dead|.nil|.d _ _=>O
 |.ol k|.bp k _=>ns.contains k
 |_=>I
def jkH(ns:H G):Cel->W
 |.one l=>jak ns l
 |.st ls=>ls.all (jak ns)
 |.av _ _ _=>O
def js4(ns:H G):BS->W
 |.live (.cell ls _)=>ls.all (jak ns)
 |.live (.lst _ _ _ _)=>O
 |.live (.arr _ _ _)=>O
 |.live (.row _ _ _ ls)=>ls.all (jak ns)
 |_=>O
def jfL(E:Env)(σ:St):H è->F (H Cel)
 |[]=>D []
 |r::rs=>match jfK E σ r,jfL E σ rs with
  |some c,D cs=>D (c::cs)
  |_,_=>B
def jnK:Arg->W
 |.ref _=>O
 |.mv _ _=>O
 |.rl _ _=>O
 |_=>I
def jre(E:Env)(fn:Func)(args:H Arg)(σ:St):F Ret:=
 match jfL E σ fn.results.toList with
 |some cs=>if j9N E.rn&&(E.rn.all (λk=> !parK E.np k&&js4 E.rn (σ.bx k))&&(cs.all (jkH E.rn)&&args.all (λa=> !jnK a))) then
  D ⟨[.raw E.rn (cs.map .s++E.rn.map λk=> .b (σ.bx k))],[]⟩ else B
 |none=>B
def jhZ(E:Env)(fn:Func)(args:H Arg)(σ:St):F Ret:=
 if E.rw then jre E fn args σ else
 if E.hd then jtB E fn args σ else
 match j88 E σ E.ro fn.results.toList fn.resultTypes.toList,outs E.np σ 0 args with
 |some (vs,ks,u),D (os,u')=>
  if j9N ks&&(u++u').all (λe=> !ks.contains e.1) then match nilV E σ fn.results.toList vs with
   |some vs'=>D ⟨vs',os⟩
   |none=>B
  else B
 |_,_=>B
def jdn(E:Env){R:Type}(fn:Func)(args:H Arg)(k:Ret->F R):F R:=
 if args.length=E.np then match fn.body with
 |some c=>j0S E 0 c (St.init args) λe σ=>match e with
  |.exit _=>B
  |_=>match jhZ E fn args σ with
   |some r=>k r
   |none=>B
 |none=>B
 else B
def All2{α β:Type}(R:α->β->Prop):H α->H β->Prop
 |[],[]=>True
 |a::as,b::bs=>R a b/\All2 R as bs
 |_,_=>Ù
section All2
variable{α β γ:Type}{R R':α->β->Prop}
theorem All2.length:∀{as:H α}{bs:H β},All2 R as bs->as.length=bs.length
 |[],[],_=>rfl
 |_::_,_::_,h=>by simp[All2.length h.2]
 |[],_::_,h=>h.elim
 |_::_,[],h=>h.elim
theorem All2.mono(hr:∀a b,R a b->R' a b):∀{as:H α}{bs:H β},All2 R as bs->All2 R' as bs
 |[],[],_=>trivial
 |_::_,_::_,h=>⟨hr _ _ h.1,All2.mono hr h.2⟩
 |[],_::_,h=>h.elim
 |_::_,[],h=>h.elim
theorem All2.get:∀{as:H α}{bs:H β},All2 R as bs->∀(i:G)(a:α),as[i]? = D a->∃b,bs[i]? = D b/\R a b
 |[],[],_,i,a,h=>by simp at h
 |a::as,b::bs,h,0,a',he=>by simp at he;subst he;exact⟨b,smp_,h.1⟩
 |a::as,b::bs,h,i+1,a',he=>by
  obtain⟨b',hb,hr⟩:=All2.get h.2 i a' (by simpa using he)
  simp_all
 |[],_::_,h,_,_,_=>h.elim
 |_::_,[],h,_,_,_=>h.elim
theorem All2.append:∀{as:H α}{bs:H β}{as':H α}{bs':H β},All2 R as bs->All2 R as' bs'->All2 R (as++as') (bs++bs')
 |[],[],_,_,_,h'=>h'
 |_::_,_::_,_,_,h,h'=>⟨h.1,All2.append h.2 h'⟩
 |[],_::_,_,_,h,_=>h.elim
 |_::_,[],_,_,h,_=>h.elim
theorem All2.take:∀{as:H α}{bs:H β},All2 R as bs->∀n,All2 R (as.take n) (bs.take n)
 |[],[],_,n=>by simp[All2]
 |_::_,_::_,_,0=>by simp[All2]
 |_::_,_::_,h,n+1=>⟨h.1,All2.take h.2 n⟩
 |[],_::_,h,_=>h.elim
 |_::_,[],h,_=>h.elim
theorem All2.drop:∀{as:H α}{bs:H β},All2 R as bs->∀n,All2 R (as.drop n) (bs.drop n)
 |[],[],_,n=>by simp[All2]
 |_::_,_::_,h,0=>h
 |_::_,_::_,h,n+1=>All2.drop h.2 n
 |[],_::_,h,_=>h.elim
 |_::_,[],h,_=>h.elim
theorem All2.set:∀{as:H α}{bs:H β},All2 R as bs->∀i a b,R a b->All2 R (as.set i a) (bs.set i b)
 |[],[],_,i,_,_,_=>by simp[All2]
 |_::_,_::_,h,0,_,_,hr=>⟨hr,h.2⟩
 |_::_,_::_,h,i+1,_,_,hr=>⟨h.1,All2.set h.2 i _ _ hr⟩
 |[],_::_,h,_,_,_,_=>h.elim
 |_::_,[],h,_,_,_,_=>h.elim
theorem All2.map_left{f:γ->α}:∀{cs:H γ}{bs:H β},All2 R (cs.map f) bs↔All2 (λc b=>R (f c) b) cs bs
 |[],[]=>Iff.rfl
 |_::_,_::_=>and_congr_right λ_=>All2.map_left
 |[],_::_=>Iff.rfl
 |_::_,[]=>Iff.rfl
theorem All2.mem_right:∀{as:H α}{bs:H β},All2 R as bs->∀b∈bs,∃a∈as,R a b
 |[],[],_,b,hb=>by simp at hb
 |a::as,b::bs,h,b',hb=>by
  rcases List.mem_cons.1 hb with rfl|hb
  .exact⟨a,smp_,h.1⟩
  .obtain⟨a',ha,hr⟩:=All2.mem_right h.2 b' hb;grind
 |[],_::_,h,_,_=>h.elim
 |_::_,[],h,_,_=>h.elim
end All2
theorem jfp{α β γ:Type}{R:α->β->Prop}{R':γ->β->Prop}{ls:H α}{xs:H γ}{l:H β}(h:All2 R ls (l.take ls.length))(h':All2 R' xs (l.take ls.length)):xs.length=ls.length:=
 h'.length.trans h.length.symm
def One(u:J):Prop:=u.oneCell'=O
abbrev j0e:=G->G->Prop
def Lies(S:j0e)(w:Z)(g o:G)(cs:H J):Prop:=
 ∀j v,cs[j]? = D v->S g (o+j)/\w.cell? ⟨g,o+j,B⟩=D v
def Rep(S:j0e)(w:Z):(t:Ty)->t.den->H J->Prop
 |.int k,n,cs=>cs=[.int k n]
 |.bool,b,cs=>cs=[.bool b]
 |.str,s,cs=>cs=[.string s]
 |.unit,_,cs=>cs=[]
 |.wrap a,v,cs=>Rep S w a v cs
 |.pair a b,v,cs=>∃c1 c2,cs=c1++c2/\Rep S w a v.1 c1/\Rep S w b v.2 c2
 |.list a,xs,cs=>∃ad cap,cs=[.slice ad (È xs) cap]/\È xs<=cap/\cap<=maxLen/\(ad=B->cap=0)/\
  ∀b,ad=D b->(xs≠[]->b.spot=B)/\∃css,All2 (λx c=>Rep S w a x c) xs css/\Lies S w b.block b.off css.flatten
 |.arr n a,xs,cs=>È xs=n/\∃css,All2 (λx c=>Rep S w a x c) xs css/\cs=css.flatten
def j3g(S:j0e)(w:Z)(S':j0e)(w':Z):Prop:=
 ∀g o,S g o->S' g o/\w'.cell? ⟨g,o,B⟩=w.cell? ⟨g,o,B⟩
theorem j3g.refl(S:j0e)(w:Z):j3g S w S w:=λ_ _ h=>⟨h,rfl⟩
theorem j3g.trans{S S' S'':j0e}{w w' w'':Z}(h:j3g S w S' w')(h':j3g S' w' S'' w''):j3g S w S'' w'':=
 λg o hs=>⟨(h' g o (h g o hs).1).1,((h' g o (h g o hs).1).2).trans (h g o hs).2⟩
theorem Lies.keep{S S':j0e}{w w':Z}(h:j3g S w S' w'){g o:G}{cs:H J}(hl:Lies S w g o cs):Lies S' w' g o cs:=
 λj v hv=>let ⟨hs,hc⟩:=hl j v hv;⟨(h _ _ hs).1,(h _ _ hs).2.trans hc⟩
theorem Rep.keep{S S':j0e}{w w':Z}(h:j3g S w S' w'):∀(t:Ty)(v:t.den)(cs:H J),Rep S w t v cs->Rep S' w' t v cs
 |.int _,_,_,hr=>hr
 |.bool,_,_,hr=>hr
 |.str,_,_,hr=>hr
 |.unit,_,_,hr=>hr
 |.wrap a,v,cs,hr=>Rep.keep h a v cs hr
 |.pair a b,_,_,⟨c1,c2,e,h1,h2⟩=>⟨c1,c2,e,Rep.keep h a _ _ h1,Rep.keep h b _ _ h2⟩
 |.list a,_,_,⟨ad,cap,e,h1,h2,h3,h4⟩=>⟨ad,cap,e,h1,h2,h3,λb hb=>by
  obtain⟨hs,css,ha,hl⟩:=h4 b hb;exact⟨hs,css,ha.mono (λx c hx=>Rep.keep h a x c hx),hl.keep h⟩⟩
 |.arr _ a,_,_,⟨hn,css,ha,e⟩=>⟨hn,css,ha.mono (λx c hx=>Rep.keep h a x c hx),e⟩
theorem All2.flatten_length{α:Type}{R:α->H J->Prop}{n:G}(hr:∀x c,R x c->c.length=n) :
  ∀{xs:H α}{css:H (H J)},All2 R xs css->css.flatten.length=xs.length*n
 |[],[],_=>smp_
 |_::xs,c::css,h=>by
  have:=All2.flatten_length hr h.2;simp only[List.flatten_cons,Õ,hr _ _ h.1,this,ì,Nat.add_mul];omega
 |[],_::_,h=>h.elim
 |_::_,[],h=>h.elim
theorem Rep.length{S:j0e}{w:Z}:∀(t:Ty)(v:t.den)(cs:H J),Rep S w t v cs->cs.length=t.size
 |.int _,_,_,hr=>by rw[hr];rfl
 |.bool,_,_,hr=>by rw[hr];rfl
 |.str,_,_,hr=>by rw[hr];rfl
 |.unit,_,_,hr=>by rw[hr];rfl
 |.wrap a,v,cs,hr=>Rep.length a v cs hr
 |.pair a b,_,_,⟨c1,c2,e,h1,h2⟩=>by rw[e,Õ,Rep.length a _ _ h1,Rep.length b _ _ h2];rfl
 |.list _,_,_,⟨ad,cap,e,_⟩=>by rw[e];rfl
 |.arr n a,xs,cs,⟨hn,css,ha,e⟩=>by
  rw[e,All2.flatten_length (λx c hx=>Rep.length a x c hx) ha,hn];rfl
theorem Rep.one{S:j0e}{w:Z}:∀(t:Ty)(v:t.den)(cs:H J),Rep S w t v cs->∀u∈cs,One u
 |.int _,_,_,hr=>by rw[hr];intro u hu;simp at hu;subst hu;rfl
 |.bool,_,_,hr=>by rw[hr];intro u hu;simp at hu;subst hu;rfl
 |.str,_,_,hr=>by rw[hr];intro u hu;simp at hu;subst hu;rfl
 |.unit,_,_,hr=>by rw[hr];intro u hu;simp at hu
 |.wrap a,v,cs,hr=>Rep.one a v cs hr
 |.pair a b,_,_,⟨c1,c2,e,h1,h2⟩=>by
  rw[e];intro u hu;rcases List.mem_append.1 hu with hu|hu
  .exact Rep.one a _ _ h1 u hu
  .exact Rep.one b _ _ h2 u hu
 |.list _,_,_,⟨ad,cap,e,_⟩=>by rw[e];intro u hu;simp at hu;subst hu;rfl
 |.arr n a,xs,cs,⟨hn,css,ha,e⟩=>by
  rw[e];intro u hu;obtain⟨c,hc,huc⟩:=List.mem_flatten.1 hu;obtain⟨x,_,hx⟩:=ha.mem_right c hc;exact Rep.one a x c hx u huc
def j5Y(S:j0e)(w:Z):Cap->J->Prop
 |.v x,u=>x.t.leafy=O/\Rep S w x.t x.v [u]
 |.p ls,u=>∃g o cs,u = .pointer (D ⟨g,o,B⟩)/\All2 (λx z=>Rep S w x.t x.v [z]) ls cs/\Lies S w g o cs
def j09(S:j0e)(w:Z)(γ:G->J)(bx:G->BS):Leaf->J->Prop
 |.dead,_=>True
 |.nil,u=>u = .slice B 0 0
 |.d t v,u=>Rep S w t v [u]
 |.ol k,u=>bx k ≠ .free/\One u/\∀b,bx k = .live b->u=γ k
 |.bp k c,u=>bx k ≠ .free/\One u/\∀b,bx k = .live b->∃g,γ k = .pointer (D ⟨g,0,B⟩)/\u = .pointer (D ⟨g,c,B⟩)
 |.ep k i c,u=>bx k ≠ .free/\One u/\∀b,bx k = .live b->match b with
  |.lst e a xs _=>isM e=I/\i<xs.length/\∃g cap,γ k = .slice (D ⟨g,0,B⟩) xs.length cap/\u = .pointer (D ⟨g,i*a.size+c,B⟩)
  |.arr n a _=>i<n/\∃g,γ k = .pointer (D ⟨g,0,B⟩)/\u = .pointer (D ⟨g,i*a.size+c,B⟩)
  |.row e a n _=>isM e=I/\i<n/\∃g cap,γ k = .slice (D ⟨g,0,B⟩) n cap/\u = .pointer (D ⟨g,i*a.size+c,B⟩)
  |.cell _ _=>Ù
 |.tl k i,u=>bx k ≠ .free/\One u/\∀b,bx k = .live b->match b with
  |.lst e a xs _=>isM e=I/\i<=xs.length/\∃ad cap,γ k = .slice ad xs.length cap/\u = .slice (if cap=i then ad else ad.map (·.add (i*a.size))) (xs.length-i) (cap-i)
  |.arr _ _ _=>Ù
  |.row _ _ _ _=>Ù
  |.cell _ _=>Ù
 |.hd k i,u=>bx k ≠ .free/\One u/\∀b,bx k = .live b->match b with
  |.lst e _ xs _=>isM e=I/\i<=xs.length/\∃ad cap,γ k = .slice ad xs.length cap/\u = .slice ad i cap
  |.arr _ _ _=>Ù
  |.row _ _ _ _=>Ù
  |.cell _ _=>Ù
 |.ip ls,u=>∃g o cs,u = .pointer (D ⟨g,o,B⟩)/\All2 (λx z=>Rep S w x.t x.v [z]) ls cs/\Lies S w g o cs
 |.clo f caps,u=>∃cv:Ê J,u = .func (.func f) #[] cv/\All2 (j5Y S w) caps cv.toList
def j0l(S:j0e)(w:Z)(γ:G->J)(bx:G->BS):Cel->J->Prop
 |.one x,u=>j09 S w γ bx x u/\(x ≠ .dead->One u)
 |.st ls,u=>∃cs:Ê J,u = .agg cs/\All2 (j09 S w γ bx) ls cs.toList/\∀x∈cs.toList,One x
 |.av n a xs,u=>∃cs:Ê J,u = .agg cs/\Rep S w (.arr n a) xs cs.toList
def j3w(S:j0e)(w:Z)(γ:G->J)(bx:G->BS)(tm:G->J):Slot->J->Prop
 |.one c,u=>j0l S w γ bx c u
 |.tup l,u=>∃vs:Ê J,u = .tuple vs/\All2 (j0l S w γ bx) l vs.toList
 |.cnd s b c,u=>(tm s = .bool b/\j0l S w γ bx c u)\/(tm s ≠ .bool b/\u=undef)
 |.und,u=>u=undef
def blk:J->F G
 |.pointer (D a)=>D a.block
 |.slice (D a) _ _=>D a.block
 |.map (D g)=>D g
 |_=>B
def j9b:Ty->W
 |.arr _ _=>O
 |t=>t.agg
def VRep(S:j0e)(w:Z)(x:TV)(u:J):Prop:=
 Rep S w x.t x.v u.cells.toList/\(j9b x.t=O->∃cs,u = .agg cs)/\(j9b x.t=I->One u)
theorem VRep.keep{S S':j0e}{w w':Z}(h:j3g S w S' w'){x:TV}{u:J}(hv:VRep S w x u):VRep S' w' x u:=
 ⟨Rep.keep h _ _ _ hv.1,hv.2⟩
def jnL(es:Ê MapEntry)(clock:G):Prop:=MapKept.Stamped es clock/\es.toList.map (·.born)=Ñ clock
def jlN(S:j0e)(w:Z):(a:Ty)->H a.den->J->Prop
 |.pair k b,xs,u=>∃g es clock,u = .map (D g)/\w.heap[g]? = D (.map es clock)/\All2 (λ(x:k.den×b.den)(e:MapEntry)=>Rep S w k x.1 [e.key]/\VRep S w ⟨b,x.2⟩ e.val) xs es.toList/\jnL es clock
 |_,_,_=>Ù
def jby(S:j0e)(w:Z)(e:G)(a:Ty)(xs:H a.den)(u:J):Prop:=
 (isM e=I/\∃css,w.ownsRow 0 e a.size u xs.length css.flatten/\All2 (λx c=>Rep S w a x c) xs css)\/(isM e=O/\jlN S w a xs u)
theorem jlN.keep{S S':j0e}{w w':Z}(h:j3g S w S' w'):∀{a:Ty}{xs:H a.den}{u:J},(∀g,blk u=D g->w'.heap[g]? = w.heap[g]?)->jlN S w a xs u->jlN S' w' a xs u
 |.pair k b,xs,u,hg,⟨g,es,clock,hu,hh,ha,hq⟩=>⟨g,es,clock,hu,(hg g (by rw[hu];rfl)).trans hh,ha.mono λx e hx=>⟨Rep.keep h _ _ _ hx.1,VRep.keep h hx.2⟩,hq⟩
theorem jby.keep{S S':j0e}{w w':Z}(h:j3g S w S' w'){e:G}{a:Ty}{xs:H a.den}{u:J}(hg:∀g,blk u=D g->w'.heap[g]? = w.heap[g]?)(hl:jby S w e a xs u):jby S' w' e a xs u:=by
 rcases hl with⟨hm,css,h1,h2⟩|⟨hm,h1⟩
 .refine .inl ⟨hm,css,⟨h1.1,?_⟩,h2.mono (λx c hx=>Rep.keep h _ _ _ hx)⟩;rcases h1.2 with hn|⟨g,cap,cur,hv,hb0,hh,rest⟩
  .exact .inl hn
  .exact .inr ⟨g,cap,cur,hv,hb0,(hg g (by rw[hv];rfl)).trans hh,rest⟩
 .exact .inr ⟨hm,h1.keep h hg⟩
theorem jby.lt{S:j0e}{w:Z}{e:G}{a:Ty}{xs:H a.den}{u:J}(hl:jby S w e a xs u){g:G}(hg:blk u=D g):g<w.heap.size:=by
 rcases hl with⟨hm,css,h1,h2⟩|⟨hm,h1⟩
 .rcases h1.2 with⟨hn,_⟩|⟨g',cap,cur,hv,hb0,hh,rest⟩;all_goals grind[blk]
 .revert h1
  cases a with
  |pair k b=>
   rintro⟨g',es,clock,hu,hh,ha⟩
   grind[blk]
  |_=>exactλh=>h.elim
theorem jby.one{S:j0e}{w:Z}{e:G}{a:Ty}{xs:H a.den}{u:J}(hl:jby S w e a xs u):One u:=by
 rcases hl with⟨hm,css,h1,h2⟩|⟨hm,h1⟩
 .rcases h1.2 with⟨hn,_⟩|⟨g',cap,cur,hv,_⟩
  .rw[hn];rfl
  .rw[hv];rfl
 .revert h1
  cases a with
  |pair k b=>rintro⟨g',es,clock,hu,_⟩;rw[hu];rfl
  |_=>exactλh=>h.elim
def j1T(S:j0e)(w:Z)(γ:G->J)(bx:G->BS)(k:G):Bx->Prop
 |.cell ls frz=>∃g cur e,γ k = .pointer (D ⟨g,0,B⟩)/\w.heap[g]? = D (.cells cur e (0,0))/\All2 (j09 S w γ bx) ls (cur.toList.take ls.length)/\
  (∀u∈cur.toList.take ls.length,One u)/\(frz=I->∀o,¬S g o)/\(frz=O->∀o,o<cur.size->S g o)
 |.lst e a xs frz=>jby S w e a xs (γ k)/\
  ∀g,blk (γ k)=D g->(frz=I->∀o,¬S g o)/\(frz=O->∀o,S g o↔o<xs.length*a.size)
 |.arr n a xs=>∃g cur e,γ k = .pointer (D ⟨g,0,B⟩)/\w.heap[g]? = D (.cells cur e (0,0))/\Rep S w (.arr n a) xs cur.toList/\∀o,¬S g o
 |.row e a n ls=>isM e=I/\(∃cs,w.ownsRow 0 e a.size (γ k) n cs/\All2 (j09 S w γ bx) ls cs/\∀u∈cs,One u)/\∀g,blk (γ k)=D g->∀o,¬S g o
theorem j5f{S:j0e}{w:Z}{γ:G->J}{bx:G->BS}{k e:G}{a:Ty}{xs:H a.den}{frz:W}(hm:isM e=I)(h:j1T S w γ bx k (.lst e a xs frz)) :
  ∃css,w.ownsRow 0 e a.size (γ k) xs.length css.flatten/\All2 (λx c=>Rep S w a x c) xs css/\
   ∀g,blk (γ k)=D g->(frz=I->∀o,¬S g o)/\(frz=O->∀o,S g o↔o<xs.length*a.size):=by
 obtain⟨h1,h2⟩:=h;rcases h1 with⟨_,css,h3,h4⟩|⟨h3,_⟩;all_goals grind
theorem jlO{S:j0e}{w:Z}{γ:G->J}{bx:G->BS}{k e:G}{a:Ty}{xs:H a.den}{frz:W}{ad:F Addr}{n c:G}(hs:γ k = .slice ad n c)(h:j1T S w γ bx k (.lst e a xs frz)) :
  ∃css,w.ownsRow 0 e a.size (γ k) xs.length css.flatten/\All2 (λx c=>Rep S w a x c) xs css/\
   ∀g,blk (γ k)=D g->(frz=I->∀o,¬S g o)/\(frz=O->∀o,S g o↔o<xs.length*a.size):=by
 obtain⟨h1,h2⟩:=h;rcases h1 with⟨_,css,h3,h4⟩|⟨_,h3⟩
 .grind
 .revert h3
  rw[hs];cases a with
  |pair k b=>rintro⟨g',es,clock,hu,_⟩;simp at hu
  |_=>exactλh=>h.elim
theorem jtC{S:j0e}{w:Z}{γ:G->J}{bx:G->BS}{k e:G}{a:Ty}{xs:H a.den}{frz:W}{ad:F Addr}{n c:G}(hs:γ k = .slice ad n c)(h:j1T S w γ bx k (.lst e a xs frz)):isM e=false:=by
 rcases h.1 with⟨h1,_⟩|⟨_,h3⟩
 .exact h1
 .revert h3
  rw[hs];cases a with
  |pair k b=>rintro⟨g',es,clock,hu,_⟩;simp at hu
  |_=>exactλh=>h.elim
theorem jeh{S:j0e}{w:Z}{γ:G->J}{bx:G->BS}{k e:G}{a:Ty}{xs:H a.den}{frz:W}(hm:isM e=I) (h:∃css,w.ownsRow 0 e a.size (γ k) xs.length css.flatten/\All2 (λx c=>Rep S w a x c) xs css/\
  ∀g,blk (γ k)=D g->(frz=I->∀o,¬S g o)/\(frz=O->∀o,S g o↔o<xs.length*a.size)):j1T S w γ bx k (.lst e a xs frz):=by
 obtain⟨css,h1,h2,h3⟩:=h;exact⟨.inl ⟨hm,css,h1,h2⟩,h3⟩
def j1A:Bx->Bx->Prop
 |.cell _ _,.cell _ _=>True
 |.lst e a xs _,.lst e' a' xs' _=>e=e'/\a=a'/\(isM e=I->xs.length=xs'.length)
 |.arr n a _,.arr n' a' _=>n=n'/\a=a'
 |.row e a n _,.row e' a' n' _=>e=e'/\a=a'/\n=n'
 |.row e a n _,.lst e' a' xs' _=>e=e'/\a=a'/\isM e=I/\n=xs'.length
 |_,_=>Ù
theorem j1A.refl(b:Bx):j1A b b:=by cases b<;>simp[j1A]
theorem j1A.trans{a b c:Bx}(h:j1A a b)(h':j1A b c):j1A a c:=by
 cases a<;>cases b<;>cases c<;>simp only[j1A]at h h' ⊢ <;> first
  |exact h.elim
  |exact h'.elim
  |(obtain⟨rfl,rfl,rfl⟩:=h;exact h')
  |(obtain⟨rfl,rfl,h3,h4⟩:=h;obtain⟨rfl,rfl,h5⟩:=h';exact⟨rfl,rfl,h3,h4.trans (h5 h3)⟩)
  |(obtain⟨rfl,rfl,h3⟩:=h;obtain⟨rfl,rfl,h4⟩:=h';exact⟨rfl,rfl,λhm=>(h3 hm).trans (h4 hm)⟩)
  |exact⟨h.1.trans h'.1,h.2.trans h'.2⟩
def BxLe(γ:G->J)(bx:G->BS)(γ':G->J)(bx':G->BS):Prop:=
 ∀k,bx k ≠ .free->bx' k ≠ .free/\γ' k=γ k/\∀b',bx' k = .live b'->∃b,bx k = .live b/\j1A b b'
theorem BxLe.refl(γ:G->J)(bx:G->BS):BxLe γ bx γ bx:=λ_ h=>⟨h,rfl,λb hb=>⟨b,hb,.refl b⟩⟩
section keeps
variable{S S':j0e}{w w':Z}{γ γ':G->J}{bx bx':G->BS}(hk:j3g S w S' w')(hb:BxLe γ bx γ' bx')
include hk
theorem j5Y.keep{x:Cap}{u:J}(h:j5Y S w x u):j5Y S' w' x u:=by
 cases x with
 |v x=>exact⟨h.1,Rep.keep hk _ _ _ h.2⟩
 |p ls=>obtain⟨g,o,cs,hu,ha,hl⟩:=h;exact⟨g,o,cs,hu,ha.mono (λx z hx=>Rep.keep hk _ _ _ hx),hl.keep hk⟩
include hb
theorem j09.keep{x:Leaf}{u:J}(h:j09 S w γ bx x u):j09 S' w' γ' bx' x u:=by
 cases x with
 |dead=>trivial
 |nil=>exact h
 |d t v=>exact Rep.keep hk _ _ _ h
 |ol k=>obtain⟨h1,h2,h3⟩:=h;obtain⟨b1,b2,b3⟩:=hb k h1;exact⟨b1,h2,λb hb'=>by grind⟩
 |bp k c=>obtain⟨h1,h2,h3⟩:=h;obtain⟨b1,b2,b3⟩:=hb k h1;exact⟨b1,h2,λb hb'=>by grind⟩
 |ep k i c=>obtain⟨h1,h2,h3⟩:=h;obtain⟨b1,b2,b3⟩:=hb k h1;refine⟨b1,h2,λb hb'=>?_⟩;obtain⟨b0,hb0,hs⟩:=b3 b hb';grind[j1A]
 |tl k i=>obtain⟨h1,h2,h3⟩:=h;obtain⟨b1,b2,b3⟩:=hb k h1;refine⟨b1,h2,λb hb'=>?_⟩;grind[j1A]
 |hd k i=>obtain⟨h1,h2,h3⟩:=h;obtain⟨b1,b2,b3⟩:=hb k h1;refine⟨b1,h2,λb hb'=>?_⟩;grind[j1A]
 |ip ls=>obtain⟨g,o,cs,hu,ha,hl⟩:=h;exact⟨g,o,cs,hu,ha.mono (λx z hx=>Rep.keep hk _ _ _ hx),hl.keep hk⟩
 |clo f caps=>obtain⟨cv,hu,ha⟩:=h;exact⟨cv,hu,ha.mono (λx z hx=>j5Y.keep hk hx)⟩
theorem j0l.keep{x:Cel}{u:J}(h:j0l S w γ bx x u):j0l S' w' γ' bx' x u:=by
 cases x with
 |one x=>exact⟨j09.keep hk hb h.1,h.2⟩
 |st ls=>obtain⟨cs,hu,ha,h1⟩:=h;exact⟨cs,hu,ha.mono (λx z hx=>j09.keep hk hb hx),h1⟩
 |av n a xs=>obtain⟨cs,hu,ha⟩:=h;exact⟨cs,hu,Rep.keep hk _ _ _ ha⟩
theorem j3w.keep{tm:G->J}{x:Slot}{u:J}(h:j3w S w γ bx tm x u):j3w S' w' γ' bx' tm x u:=by
 cases x with
 |one c=>exact j0l.keep hk hb h
 |tup l=>obtain⟨vs,hu,ha⟩:=h;exact⟨vs,hu,ha.mono (λx z hx=>j0l.keep hk hb hx)⟩
 |cnd s b c=>exact h.imp (λh=>⟨h.1,j0l.keep hk hb h.2⟩) id
 |und=>exact h
end keeps
structure Refs where
 blks:H G
 val:G->F J
 ds:H Deferred:=[]
 kw:G->F Obj:=λ_=>B
 fix:G->F Value:=λ_=>B
 mv:H Nat:=[]
instance:Membership G Refs:=⟨λr g=>g∈r.blks⟩
def Own(w0:Z)(refs:Refs)(g:G):Prop:=w0.heap.size<=g\/(g∈refs.mv/\g∈refs)
theorem Own.nil{w0:Z}{refs:Refs}{g:G}(h:Own w0 refs g)(hm:refs.mv=[]):w0.heap.size<=g:=h.elim id λh=>by simp_all
theorem Own.swap{w0:Z}{refs refs':Refs}{g:G}(h:Own w0 refs g)(hb:refs'.blks=refs.blks)(hm:refs'.mv=refs.mv):Own w0 refs' g:=h.imp id λh=>⟨hm▸h.1,by show g∈refs'.blks;rw[hb];exact h.2⟩
theorem Own.no{w0:Z}{refs:Refs}{g:G}(h:Own w0 refs g)(h1:g<w0.heap.size)(h2:g∉refs):False:=h.elim (λh=>omg_) λh=>h2 h.2
structure Rel(N:NT)(np:G)(S0:j0e)(w0:Z)(refs:Refs)(σ:St)(a:í)(w:Z)(S:j0e)(γ:G->J):Prop where
 size:a.tmps.size=N.n
 defers:a.defers=refs.ds
 slot:∀i,j3w S w γ σ.bx (λj=>a.tmps.getD j undef) (σ.sl i) (a.tmps.getD i undef)
 box:∀k b,σ.bx k = .live b->j1T S w γ σ.bx k b
 own:∀k b g,σ.bx k = .live b->blk (γ k)=D g->Own w0 refs g\/(g∈refs/\parK np k=O)
 apart:∀k k' b b' g,k≠k'->σ.bx k = .live b->σ.bx k' = .live b'->blk (γ k)=D g->blk (γ k')≠D g
 ext:∀g o,S0 g o->S g o
 new:∀g o,S g o->S0 g o\/Own w0 refs g
 here:∀g o,S g o->g<w.heap.size
 below:∀g,g<w0.heap.size->g∉refs->w.heap[g]? = w0.heap[g]?
 grow:w0.heap.size<=w.heap.size
 os:w.os=w0.os
 tape:w.tape=w0.tape
 output:w.output=w0.output
 par:∀k v,refs.val k=D v->parK np k=O/\σ.bx k ≠ .free/\γ k=v
 kept:∀g o,refs.kw g=D o->w.heap[g]? = D o/\∀k b,σ.bx k = .live b->blk (γ k)≠D g
 fix:∀i v,refs.fix i=D v->N.pin i=O/\a.tmps.getD i undef=v
section
variable{N:NT}{np:G}{S0:j0e}{w0:Z}{refs:Refs}{σ:St}{a:í}{w:Z}{S:j0e}{γ:G->J}
theorem Rel.kw_live(hR:Rel N np S0 w0 refs σ a w S γ){k:G}{b:Bx}{g:G}(hk:σ.bx k = .live b)(hg:blk (γ k)=D g):refs.kw g=none:=by
 cases h:refs.kw g with
 |none=>rfl
 |some o=>exact absurd hg ((hR.kept g o h).2 k b hk)
theorem Rel.kw_new(hR:Rel N np S0 w0 refs σ a w S γ){g:G}(hg:w.heap.size<=g):refs.kw g=none:=by
 cases h:refs.kw g with
 |none=>rfl
 |some o=>have:=(Array.getElem?_eq_some_iff.1 (hR.kept g o h).1).1;omega
def j9Q:Ty->H J
 |.int k=>[.int k 0]
 |.bool=>[.bool I]
 |.str=>[.string ByteArray.empty]
 |.unit=>[]
 |.wrap a=>j9Q a
 |.pair a b=>j9Q a++j9Q b
 |.list _=>[.slice B 0 0]
 |.arr n a=>(Ä n (j9Q a)).flatten
def js5:J->J->W
 |.int k n,.int k' n'=>X (k=k')&&X (n=n')
 |.bool b,.bool b'=>b==b'
 |.string s,.string s'=>X (s.data.toList=s'.data.toList)
 |.slice B 0 0,.slice B 0 0=>O
 |_,_=>I
def jhh:H J->H J->W
 |[],[]=>O
 |a::l,b::l'=>js5 a b&&jhh l l'
 |_,_=>I
theorem jqb{a b:J}(h:js5 a b=O):a=b:=by
 unfold js5 at h;split at h<;>simp_all;rename_i s s';cases s;cases s';simp_all
theorem jjb:∀{l l':H J},jhh l l'=O->l=l'
 |[],[],_=>rfl
 |a::l,b::l',h=>by
  simp only[jhh,Á]at h;rw[jqb h.1,jjb h.2]
 |[],_::_,h=>by simp[jhh]at h
 |_::_,[],h=>by simp[jhh]at h
def aggD:Ö->W
 |.struct _|.array _ _=>O
 |_=>I
def jlP(T:G->F TyI)(e:G)(a:Ty):Bool:=
 match T e with
 |some te=>X (te.ty=D a)
 |none=>I
def j6E(T:G->F TyI)(ti:TyI)(t:Ty):Ö->W
 |.int k=>X (t = .int k)
 |.bool=>X (t = .bool)
 |.string=>X (t = .str)
 |.slice e=>match t with
  |.list a=>X (e=ti.elem)&&jlP T e a&&X (0<a.size)
  |_=>I
 |.array n e=>match t with
  |.arr n' a=>X (n=n')&&X (e=ti.elem)&&jlP T e a&&X (0<a.size)
  |_=>I
 |.struct _=>t.agg
 |_=>I
def jjc(T:G->F TyI)(ti:TyI):Ö->W
 |.struct fs=>X (fs.toList.map (λf=>(f.offset,f.type))=ti.flds)&&fs.toList.all (λf=>match T f.type with|some tf=>X (0<tf.size)|none=>I)
 |_=>ti.flds.isEmpty
def j9R(P:À)(f:Å->F (H Ty)):G->H Field->F (H Ty)
 |_,[]=>D []
 | n, x :: xs => if x.name != "_" && X (x.offset = n) then
   match f x.type with
   |some ks=>if (P.info? x.type).map (·.size)=D ks.length then match j9R P f (n+ks.length) xs with
     |some r=>D (ks++r)
     |none=>B
    else B
   |none=>B
  else B
def j7F(P:À):G->Å->F (H Ty)
 |0,_=>B
 |d+1,t=>match P.underlying t with
  |some (.int k)=>D [.int k]
  |some .bool=>D [.bool]
  |some .string=>D [.str]
  |some (.struct fs)=>if P.stoodInHeld t then B else j9R P (j7F P d) 0 fs.toList
  |_=>B
def js6(P:À)(t:Å)(ks:H Ty):Bool:=
 X (j7F P 12 t=D ks) && !P.eqGuardType P.depth t&&(match P.underlying t with|some (.struct _)=>O|_=>I)
def mpOk(ti:TyI)(d:Ö):Bool:=match ti.mp with
 |none=>O
 |some (k,v)=>match d with
  |.map k' v'=>X (k=k')&&X (v=v')
  |_=>I
def zOk(i:ô)(d:Ö):Bool:=match i.zero with
 |some (.agg _)=>aggD d
 |some (.tuple _)=>I
 |_=> !aggD d
def tyOk(P:À)(T:G->F TyI)(n:G)(ti:TyI):Bool:=
 match P.info? n,P.underlying n with
 |some i,D d=>X (i.size=ti.size)&&X (i.bytes<=32768)&&X (ti.agg=aggD d)&&jjc T ti d&&(((ti.cmp.isEmpty||js6 P n ti.cmp)&&mpOk ti d)&&(zOk i d && !isM ti.elem)) &&
  match ti.ty with
  |none=>O
  |some t=>X (t.size=ti.size)&&(match i.zero with|some z=>jhh z.cells.toList (j9Q t)|none=>I)&&j6E T ti t d
 |_,_=>I
def j1J(P:À)(T:G->F TyI):Prop:=∀n ti,T n=D ti->tyOk P T n ti=O
def tab(l:H (F TyI))(n:G):F TyI:=l.getD n B
theorem jqc(P:À)(l:H (F TyI))(h:(l.zipIdx.all λx=>match x.1 with|some ti=>tyOk P (tab l) x.2 ti|none=>O)=O):j1J P (tab l):=by
 intro n ti hn;rw[List.all_eq_true]at h
 have hm:(D ti,n)∈l.zipIdx:=by
  rw[List.mem_zipIdx_iff_getElem?];unfold tab at hn;rw[List.getD_eq_getElem?_getD]at hn;cases hl:l[n]? with
  |none=>simp[hl]at hn
  |some x=>simp[hl]at hn;simp[hn]
 exact h _ hm
section
variable{P:À}{T:G->F TyI}(hT:j1J P T){n:G}{ti:TyI}(hn:T n=D ti)
include hT hn
theorem js7(hc:ti.cmp.isEmpty=I):js6 P n ti.cmp=true:=by
 have h:=hT n ti hn;unfold tyOk at h;split at h
 .simp only[Á,hc,Bool.false_or]at h;exact h.1.2.1.1
 .simp at h
theorem js8{k v:G}(hm:ti.mp=D (k,v)):P.underlying n=D (.map k v):=by
 have h:=hT n ti hn;unfold tyOk at h;split at h
 .rename_i i d hi hd;simp only[Á]at h;have h2:=h.1.2.1.2;simp only[mpOk,hm]at h2;split at h2
  .simp only[Á,decide_eq_true_eq]at h2;rw[hd,h2.1,h2.2]
  .simp at h2
 .simp at h
theorem j4o:∃i d,P.info? n=D i/\P.underlying n=D d/\i.size=ti.size/\i.bytes<=32768/\ti.agg=aggD d/\jjc T ti d=O/\
  ∀t,ti.ty=D t->t.size=ti.size/\(∃z,i.zero=D z/\z.cells.toList=j9Q t)/\j6E T ti t d=true:=by
 have h:=hT n ti hn;unfold tyOk at h;split at h
 .rename_i i d hi hd;simp only[Á,decide_eq_true_eq]at h;obtain⟨⟨⟨⟨⟨h1,h2⟩,h3⟩,h4⟩,_⟩,h5⟩:=h;refine⟨i,d,hi,hd,h1,h2,h3,h4,λt ht=>?_⟩;simp only[ht,Á,decide_eq_true_eq]at h5;obtain⟨⟨h6,h7⟩,h8⟩:=h5;refine⟨h6,?_,h8⟩;split at h7
  .rename_i z hz;exact⟨z,hz,jjb h7⟩
  .simp at h7
 .simp at h
theorem j2f(w:Z):(sizeOf n).run P w = .ok ti.size w:=by
 obtain⟨i,d,hi,hd,hs,_⟩:=j4o hT hn;simp[sizeOf,typeInfo,hi,hs]
theorem jei(w:Z):(isAgg n).run P w = .ok ti.agg w:=by
 obtain⟨i,d,hi,hd,hs,_,ha,_⟩:=j4o hT hn;simp only[isAgg,Y,run_underlying hd,U];rw[ha];cases d<;>rfl
theorem jal(w:Z){t:Ty}(ht:ti.ty=D t):∃z,(zeroValue n).run P w = .ok z w/\z.cells.toList=j9Q t:=by
 obtain⟨i,d,hi,hd,hs,_,ha,_,h⟩:=j4o hT hn;obtain⟨_,⟨z,hz,hc⟩,_⟩:=h t ht;exact⟨z,by simp[zeroValue,typeInfo,hi,hz],hc⟩
theorem jqd{i:ô}{d:Ö}(hi:P.info? n=D i)(hd:P.underlying n=D d):zOk i d=true:=by
 have h:=hT n ti hn;unfold tyOk at h;rw[hi,hd]at h;simp only[Á]at h;exact h.1.2.2.1
theorem ji0:isM ti.elem=false:=by
 have h:=hT n ti hn;unfold tyOk at h;split at h
 .simp only[Á]at h;simpa using h.1.2.2.2
 .simp at h
theorem j8n{t:Ty}(ht:ti.ty=D t):t.size=ti.size:=by
 obtain⟨i,d,hi,hd,hs,_,ha,_,h⟩:=j4o hT hn;exact(h t ht).1
theorem jkI{k:Î}(ht:ti.ty=D (.int k)):P.underlying n=D (.int k):=by
 obtain⟨i,d,hi,hd,hs,_,ha,_,h⟩:=j4o hT hn;have:=(h _ ht).2.2;cases d<;>simp_all[j6E,Ty.agg]
theorem j4C{a:Ty}(ht:ti.ty=D (.list a)):P.underlying n=D (.slice ti.elem)/\0<a.size/\∃te,T ti.elem=D te/\te.ty=D a:=by
 obtain⟨i,d,hi,hd,hs,_,ha,_,h⟩:=j4o hT hn;have hd':=(h _ ht).2.2;cases d with
 |slice e=>
  simp only[j6E,Á,decide_eq_true_eq]at hd';obtain⟨⟨rfl,h2⟩,h3⟩:=hd';refine⟨hd,h3,?_⟩;unfold jlP at h2;split at h2
  .rename_i te hte;exact⟨te,hte,by simpa using h2⟩
  .simp at h2
 |_=>simp_all[j6E,Ty.agg]
theorem jej{m:G}{a:Ty}(ht:ti.ty=D (.arr m a)):P.underlying n=D (.array m ti.elem)/\0<a.size/\∃te,T ti.elem=D te/\te.ty=D a:=by
 obtain⟨i,d,hi,hd,hs,_,ha,_,h⟩:=j4o hT hn;have hd':=(h _ ht).2.2;cases d with
 |array m' e=>
  simp only[j6E,Á,decide_eq_true_eq]at hd';obtain⟨⟨⟨rfl,rfl⟩,h2⟩,h3⟩:=hd';refine⟨hd,h3,?_⟩;unfold jlP at h2;split at h2
  .rename_i te hte;exact⟨te,hte,by simpa using h2⟩
  .simp at h2
 |_=>simp_all[j6E,Ty.agg]
theorem jnM{j:G}{f:G×G}(hf:ti.flds[j]? = D f) :
  ∃fs,P.underlying n=D (.struct fs)/\∃fl,fs[j]? = D fl/\fl.offset=f.1/\fl.type=f.2/\∃tf,T f.2=D tf/\0<tf.size:=by
 obtain⟨i,d,hi,hd,_,_,hag,hfl,_⟩:=j4o hT hn;cases d with
 |struct fs=>
  simp only[jjc,Á,decide_eq_true_eq]at hfl;obtain⟨h1,h2⟩:=hfl;rw[<-h1]at hf;rw[List.getElem?_map]at hf;cases hq:fs.toList[j]? with
  |none=>simp[hq]at hf
  |some fl=>
   simp only[hq,ß,j3]at hf;subst hf;refine⟨fs,hd,fl,by simpa using hq,rfl,rfl,?_⟩;have:=List.all_eq_true.1 h2 fl (List.mem_of_getElem? hq);split at this
   .rename_i tf htf;exact⟨tf,htf,by simpa using this⟩
   .simp at this
 |_=>
  have:ti.flds=[]:=by simpa[jjc]using hfl
  simp[this]at hf
end
def tm(a:í)(j:G):Value:=a.tmps.getD j undef
def juD(P:À)(o:Æ)(a:í)(w:Z)(v:J)(w':Z):Prop:=
 (execOp a.eval o).run P w = .ok (.value v) w'\/((execOp a.eval o).run P w = .ok .skip w'/\v=undef)
def jnN(P:À)(N:NT)(np:G)(S0:j0e)(w0:Z)(refs:Refs)(o:Æ)(σ:St)(a:í)(w:Z)(S:j0e)(γ:G->J)(s:Slot)(u:Ups):Prop:=
 ∃v w' S' γ',juD P o a w v w'/\Rel N np S0 w0 refs (σ.upd u) a w' S' γ'/\j3w S' w' γ' (σ.upd u).bx (tm a) s v
theorem j2g{P:À}{o:Æ}{s:Slot}{v:J}(hR:Rel N np S0 w0 refs σ a w S γ)(hr:(execOp a.eval o).run P w = .ok (.value v) w)
  (hs:j3w S w γ σ.bx (tm a) s v):jnN P N np S0 w0 refs o σ a w S γ s []:=
 ⟨v,w,S,γ,.inl hr,hR,hs⟩
theorem jkJ(v:J)(bx:G->BS):j0l S w γ bx (.one (jkA v)) v:=by
 unfold jkA
 split<;>first
  |exact⟨rfl,λ_=>rfl⟩
  |exact⟨trivial,λh=>absurd rfl h⟩
theorem jbz(hR:Rel N np S0 w0 refs σ a w S γ)(x:Ì):j3w S w γ σ.bx (tm a) (σ.ev x) (a.eval x):=by
 cases x with
 |tmp t=>exact hR.slot t
 |const v=>exact jkJ v _
 |global g=>exact⟨trivial,λh=>absurd rfl h⟩
 |func f=>exact⟨⟨#[],rfl,trivial⟩,λ_=>rfl⟩
def jfM(tm:G->J)(act:H (G×W)):Prop:=∀g∈act,tm g.1 = .bool g.2
theorem jkK{bx:G->BS}{t:G->J}{act:H (G×W)}(hact:jfM t act){s:Slot}{u:J}(h:j3w S w γ bx t s u):j0l S w γ bx (s.cel act) u:=by
 cases s with
 |one c=>exact h
 |tup l=>exact⟨trivial,λh=>absurd rfl h⟩
 |und=>exact⟨trivial,λh=>absurd rfl h⟩
 |cnd s b c=>
  simp only[Slot.cel];split
  .rename_i hc;have hm:(s,b)∈act:=by simpa using hc
   have:=hact _ hm;rcases h with h|h
   .exact h.2
   .exact absurd this h.1
  .exact⟨trivial,λh=>absurd rfl h⟩
theorem j0Z(hR:Rel N np S0 w0 refs σ a w S γ){act:H (G×W)}(hact:jfM (tm a) act)(x:Ì) :
 j0l S w γ σ.bx ((σ.ev x).cel act) (a.eval x):=jkK hact (jbz hR x)
theorem j4A{bx:G->BS}{c:Cel}{u:J}(h:j0l S w γ bx c u):j09 S w γ bx (lf c) u:=by
 cases c with
 |one x=>exact h.1
 |st ls=>trivial
 |av n a xs=>trivial
theorem j7n{k:Î}{n:(Ty.int k).den}{u:J}(h:Rep S w (.int k) n [u]):u = .int k n:=by simpa[Rep]using h
theorem ji1{n:Ty.bool.den}{u:J}(h:Rep S w .bool n [u]):u = .bool n:=by simpa[Rep]using h
theorem jfN{n:Ty.str.den}{u:J}(h:Rep S w .str n [u]):u = .string n:=by simpa[Rep]using h
theorem jcL{t:Ty}{x:TV}{v:t.den}(h:x.to t=D v):x=⟨t,v⟩:=by
 unfold TV.to at h;split at h
 .rename_i e;obtain⟨t',v'⟩:=x;subst e;simp at h;rw[h]
 .simp at h
theorem jbA{P:À}(op:ç)(t:Å)(x y:Ì)(k k':Î)(p q:Ç) :
  (eqGuard op t x y (.int k p) (.int k' q)).run P w = .ok () w:=by
 unfold eqGuard;cases op<;>simp
theorem jb8{P:À}(op:ç)(t:Å)(x y:Ì)(p q:W):(eqGuard op t x y (.bool p) (.bool q)).run P w = .ok () w:=by
 unfold eqGuard;cases op<;>simp
theorem jbB{P:À}(op:ç)(t:Å)(x y:Ì)(p q:Ë):(eqGuard op t x y (.string p) (.string q)).run P w = .ok () w:=by
 unfold eqGuard;cases op<;>simp
theorem jnO{P:À}(t:Å){k k':Î}{x y:Ç}(h:0<=y) :
  (binOp .shr t (.int k x) (.int k' y)).run P w = .ok (.int k (ó x (2^min (Â y) k.bits))) w:=by
 have h':¬y<0:=omg_;simp[binOp,Op.shift,h']
theorem jqe{P:À}{op:ç}{k:Î}{x y:Ç}{l:Leaf}{bx:G->BS}(t:Å)(h:binI op k x y=D (O,l)) :
  ∃u,(binOp op t (.int k x) (.int k y)).run P w = .ok u w/\j09 S w γ bx l u/\One u:=by
 cases op with
 |add=>simp[binI]at h;subst h;exact⟨_,by simp[binOp,à],rfl,rfl⟩
 |sub=>simp[binI]at h;subst h;exact⟨_,by simp[binOp,à],rfl,rfl⟩
 |mul=>simp[binI]at h;subst h;exact⟨_,by simp[binOp,à],rfl,rfl⟩
 |quo=>simp only[binI,j3,j7,Ú,beq_eq_false_iff_ne]at h;obtain⟨h0,rfl⟩:=h;exact⟨_,by simp[binOp,ý,h0],rfl,rfl⟩
 |rem=>simp only[binI,j3,j7,Ú,beq_eq_false_iff_ne]at h;obtain⟨h0,rfl⟩:=h;exact⟨_,by simp[binOp,ý,h0],rfl,rfl⟩
 |shr=>
  simp only[binI]at h;split at h
  .rename_i h0;simp only[j3,j7,true_and]at h;subst h;exact⟨_,jnO t (by simpa using h0),rfl,rfl⟩
  .simp at h
 |and=>simp[binI]at h
 |or=>simp[binI]at h
 |xor=>simp[binI]at h
 |andNot=>simp[binI]at h
 |shl=>simp[binI]at h
 |eql=>simp[binI,cmpI]at h;subst h;exact⟨_,by simp[binOp,Û],rfl,rfl⟩
 |neq=>simp[binI,cmpI]at h;subst h;exact⟨_,by simp[binOp,Û],rfl,rfl⟩
 |lss=>simp[binI,cmpI]at h;subst h;exact⟨_,by simp[binOp,Û],rfl,rfl⟩
 |leq=>simp[binI,cmpI]at h;subst h;exact⟨_,by simp[binOp,Û],rfl,rfl⟩
 |gtr=>simp[binI,cmpI]at h;subst h;exact⟨_,by simp[binOp,Û],rfl,rfl⟩
 |geq=>simp[binI,cmpI]at h;subst h;exact⟨_,by simp[binOp,Û],rfl,rfl⟩
def jnP:Ty->J->J->W->Prop
 |.int k,u,v,b=>∃x y:Ç,u = .int k x/\v = .int k y/\b=(x==y)
 |.bool,u,v,b=>∃x y:W,u = .bool x/\v = .bool y/\b=(x==y)
 |.str,u,v,b=>∃x y:Ë,u = .string x/\v = .string y/\b=(x.toList==y.toList)
 |_,_,_,_=>Ù
def j3h:H Ty->H J->H J->W->Prop
 |[],[],[],b=>b=O
 |k::ks,u::us,v::vs,b=>∃b1 b2,jnP k u v b1/\j3h ks us vs b2/\b=(b1&&b2)
 |_,_,_,_=>Ù
theorem j3h.length:∀{ks:H Ty}{us vs:H J}{b:W},j3h ks us vs b->us.length=ks.length/\vs.length=ks.length
 |[],[],[],_,_=>⟨rfl,rfl⟩
 |_::_,_::_,_::_,_,⟨_,_,_,h,_⟩=>by have:=j3h.length h;simp[this.1,this.2]
 |[],_::_,_,_,h=>by simp[j3h]at h
 |[],[],_::_,_,h=>by simp[j3h]at h
 |_::_,[],_,_,h=>by simp[j3h]at h
 |_::_,_::_,[],_,h=>by simp[j3h]at h
theorem j3h.split:∀{k1 k2:H Ty}{us vs:H J}{b:W},j3h (k1++k2) us vs b->
  ∃b1 b2,j3h k1 (us.take k1.length) (vs.take k1.length) b1/\j3h k2 (us.drop k1.length) (vs.drop k1.length) b2/\b=(b1&&b2)
 |[],k2,us,vs,b,h=>⟨O,b,by simp[j3h],by simpa using h,smp_⟩
 |k::k1,k2,u::us,v::vs,b,⟨b1,b2,h1,h2,hb⟩=>by
  obtain⟨c1,c2,h3,h4,hc⟩:=j3h.split h2;exact⟨b1&&c1,c2,⟨b1,c1,h1,h3,rfl⟩,h4,by rw[hb,hc,Bool.and_assoc]⟩
 |_::_,_,[],_,_,h=>by simp[j3h]at h
 |_::_,_,_::_,[],_,h=>by simp[j3h]at h
theorem j3h.single{k:Ty}{us vs:H J}{b:W}(h:j3h [k] us vs b):∃u v,us=[u]/\vs=[v]/\jnP k u v b:=by
 have hl:=h.length;match us,vs,hl with
 |[u],[v],_=>obtain⟨b1,b2,h1,h2,hb⟩:=h;simp only[j3h]at h2;subst h2;rw[Bool.and_true]at hb;exact⟨u,v,rfl,rfl,hb▸h1⟩
def jfi(P:À)(t:Å)(us:H J):Value:=
 match P.underlying t with
 |some (.struct _)=> .agg us.toArray
 |_=>us.headD undef
theorem jlQ{P:À}{w:Z}{t:Å}{us:H J}{o n:G}{i:ô}{d:Ö}(hi:P.info? t=D i)(hn:i.size=n)
  (hd:P.underlying t=D d)(hl:o+n<=us.length)(h1:(∃fs,d = .struct fs)\/((∀fs,d ≠ .struct fs)/\(∀m e,d ≠ .array m e)/\n=1)) :
  (part t us.toArray o).run P w = .ok (jfi P t ((us.drop o).take n)) w:=by
 rcases h1 with⟨fs,rfl⟩|⟨h1,h2,rfl⟩
 .simp[part,isAgg,run_underlying hd,sizeOf,typeInfo,hi,hn,jfi,hd,List.take_drop]
 .have hv:jfi P t ((us.drop o).take 1)=us[o]:=by
   have:(us.drop o).take 1=[us[o]]:=by rw[List.drop_eq_getElem_cons omg_];rfl
   unfold jfi;rw[this,hd];cases d<;>first|rfl|exact absurd rfl (h1 _)
  have ha:(isAgg t).run P w = .ok I w:=by simp only[isAgg,Y,run_underlying hd,U];cases d<;>first|rfl|exact absurd rfl (h1 _)|exact absurd rfl (h2 _ _)
  rw[hv];simp only[part,Y,ha,U,æ,if_false];rw[show us.toArray[o]? = D us[o] by simp];rfl
theorem jbC(P:À)(w:Z):∀(k:G)(t:Å)(ks:H Ty),j7F P k t=D ks->∀d,k<=d->∀us vs b,j3h ks us vs b->
  (û d t (jfi P t us) (jfi P t vs)).run P w = .ok b w
 |0,_,_,h,_,_,_,_,_,_=>by simp[j7F]at h
 |k+1,t,ks,h,d,hd,us,vs,b,he=>by
  obtain⟨d,rfl⟩:∃d',d=d'+1:=⟨d-1,omg_⟩;unfold j7F at h;split at h
  .rename_i kk hu;simp at h;subst h;obtain⟨u,v,rfl,rfl,hc⟩:=he.single;obtain⟨x,y,rfl,rfl,hb⟩:=hc;simp[jfi,hu,run_equalIn_int w d t _ _ _ _ hu,hb]
  .rename_i hu;simp at h;subst h;obtain⟨u,v,rfl,rfl,hc⟩:=he.single;obtain⟨x,y,rfl,rfl,hb⟩:=hc;simp[jfi,hu,run_equalIn_bool' w d t _ _ hu,hb]
  .rename_i hu;simp at h;subst h;obtain⟨u,v,rfl,rfl,hc⟩:=he.single;obtain⟨x,y,rfl,rfl,hb⟩:=hc;simp[jfi,hu,run_equalIn_string w d t _ _ hu,hb]
  .rename_i fs hu;split at h
   .simp at h
   rename_i hst;have hf:P.fieldsOf t=fs:=by simp[Program.fieldsOf,hu]
   have hval:∀us:H J,jfi P t us = .agg us.toArray:=λus=>by simp[jfi,hu]
   rw[hval,hval,run_equalIn_agg w d t _ _ (by rw[hf];exact hu) (by simpa using hst),hf]
   have key:∀(fl:H Field)(n:G)(ks:H Ty),j9R P (j7F P k) n fl=D ks->∀b,n<=us.length->n<=vs.length->j3h ks (us.drop n) (vs.drop n) b->
     (ö d us.toArray vs.toArray fl).run P w = .ok b w:=by
    intro fl;induction fl with
    |nil=>intro n ks hk b hnu hnv hc;simp[j9R]at hk;subst hk;have hl:=hc.length;have:us.drop n=[]:=Ó hl.1;have h':vs.drop n=[]:=Ó hl.2;rw[this,h']at hc;simp[j3h]at hc;subst hc;rfl
    |cons x fl ih=>
     intro n ks hk b hnu hnv hc;simp only[j9R,Á,bne_iff_ne,ne_eq,decide_eq_true_eq]at hk;split at hk
     .rename_i hx;split at hk
      .rename_i k1 hk1;split at hk
       .rename_i hsz;split at hk
        .rename_i k2 hk2;simp at hk;subst hk;obtain⟨b1,b2,hc1,hc2,hb⟩:=hc.split;have hlen:=hc.length;simp only[List.length_drop,Õ]at hlen;cases hi:P.info? x.type with
         |none=>simp[hi]at hsz
         |some i=>
          simp only[hi,ß,j3]at hsz
          have hshape:∃dd,P.underlying x.type=D dd/\((∃fs,dd = .struct fs)\/((∀fs,dd ≠ .struct fs)/\(∀m e,dd ≠ .array m e)/\k1.length=1)):=by
           cases k with
           |zero=>simp[j7F]at hk1
           |succ k=>
            unfold j7F at hk1;split at hk1
            .rename_i hu';simp at hk1;subst hk1;exact⟨_,hu',.inr ⟨smp_,smp_,rfl⟩⟩
            .rename_i hu';simp at hk1;subst hk1;exact⟨_,hu',.inr ⟨smp_,smp_,rfl⟩⟩
            .rename_i hu';simp at hk1;subst hk1;exact⟨_,hu',.inr ⟨smp_,smp_,rfl⟩⟩
            .rename_i hu';exact⟨_,hu',.inl ⟨_,rfl⟩⟩
            .simp at hk1
          obtain⟨dd,hdd,hsh⟩:=hshape;have hp1:=jlQ (P:=P) (w:=w) (us:=us) (o:=n) hi hsz hdd omg_ hsh;have hp2:=jlQ (P:=P) (w:=w) (us:=vs) (o:=n) hi hsz hdd omg_ hsh;have hrec:=jbC P w k x.type k1 hk1 d omg_ _ _ b1 hc1;simp only[ö];rw[if_pos hx.1];simp only[Y,hx.2,hp1,U,hp2,hrec,á];cases b1
          .simp[hb]
          .simp only[Bool.not_true,æ,if_false];rw[hb,Bool.true_and];refine ih (n+k1.length) k2 hk2 b2 omg_ omg_ ?_;rw[<-ã,<-ã];exact hc2
        .simp at hk
       .simp at hk
      .simp at hk
     .simp at hk
   exact key fs.toList 0 ks h b omg_ omg_ (by simpa using he)
  .simp at h
termination_by k=>k
section
variable{S:j0e}{w:Z}{γ:G->J}{bx:G->BS}
theorem js9{t t':Ty}{x:t.den}{y:t'.den}{b:W}{u v:J}(h:eqT ⟨t,x⟩ ⟨t',y⟩=D b)(hx:Rep S w t x [u])(hy:Rep S w t' y [v])(ht:t'=t):jnP t u v b:=by
 subst ht;cases t' with
 |int k=>simp[eqT]at h;exact⟨x,y,j7n hx,j7n hy,h.symm⟩
 |bool=>simp[eqT]at h;exact⟨x,y,ji1 hx,ji1 hy,h.symm⟩
 |str=>simp[eqT]at h;exact⟨x,y,jfN hx,jfN hy,h.symm⟩
 |_=>simp[eqT]at h
theorem jsa(ks:H Ty):∀{l l':H Leaf}{b:W}{us vs:H J},eqL ks l l'=D b->All2 (j09 S w γ bx) l us->All2 (j09 S w γ bx) l' vs->j3h ks us vs b:=by
 induction ks with
 |nil=>
  intro l l' b us vs h h1 h2;cases l with
  |cons _ _=>simp[eqL]at h
  |nil=>
   cases l' with
   |cons _ _=>simp[eqL]at h
   |nil=>
    cases us with
    |cons _ _=>exact h1.elim
    |nil=>cases vs with
     |cons _ _=>exact h2.elim
     |nil=>simp[eqL]at h;simp[j3h,h]
 |cons k ks ih=>
  intro l l' b us vs h h1 h2;cases l with
  |nil=>simp[eqL]at h
  |cons l0 l=>
   cases l' with
   |nil=>cases l0<;>simp[eqL]at h
   |cons m0 l'=>
    cases us with
    |nil=>exact h1.elim
    |cons u us=>
     cases vs with
     |nil=>exact h2.elim
     |cons v vs=>
      cases l0 with
      |d t x=>
       cases m0 with
       |d t' y=>
        simp only[eqL]at h;split at h
        .rename_i hk;obtain⟨rfl,rfl⟩:=hk;split at h
         .rename_i b1 hb1;have hc:=js9 hb1 h1.1 h2.1 rfl;split at h
          .split at h
           .simp at h;subst h;cases us with
            |nil=>cases vs with
             |nil=>exact⟨b1,O,hc,by simp[j3h],smp_⟩
             |cons _ _=>exact h2.2.elim
            |cons _ _=>exact h1.2.elim
           .simp at h
          .split at h
           .rename_i b2 hb2;simp at h;subst h;exact⟨b1,b2,hc,ih hb2 h1.2 h2.2,rfl⟩
           .simp at h
         .simp at h
        .simp at h
       |_=>simp[eqL]at h
      |_=>simp[eqL]at h
theorem jjd{P:À}{T:G->F TyI}(hT:j1J P T){t:Å}{l l':H Leaf}{b:W}{us vs:Ê J}
  (hne:(jj0 (T t)).isEmpty=I)(h:eqL (jj0 (T t)) l l'=D b)(h1:All2 (j09 S w γ bx) l us.toList)(h2:All2 (j09 S w γ bx) l' vs.toList) :
  P.eqGuardType P.depth t=I/\(û 10000 t (.agg us) (.agg vs)).run P w = .ok b w:=by
 cases ht:T t with
 |none=>simp[jj0,ht]at hne
 |some ti=>
  simp only[jj0,ht]at hne h;have hc:=js7 hT ht hne;simp only[js6,Á,decide_eq_true_eq,Ú]at hc;obtain⟨⟨hk,hg⟩,hs⟩:=hc;refine⟨hg,?_⟩;have he:=jbC P w 12 t _ hk 10000 omg_ us.toList vs.toList b (jsa _ h h1 h2);split at hs
  .rename_i fs hu;simpa[jfi,hu]using he
  .simp at hs
end
section
variable{N:NT}{np:G}{S0:j0e}{w0:Z}{refs:Refs}{σ:St}{a:í}{w:Z}{S:j0e}{γ:G->J}{bx:G->BS}
theorem jbD{k:Î}{n:(Ty.int k).den}{u:J}(h:j0l S w γ bx (.one (.d (.int k) n)) u):u = .int k n:=j7n (S:=S) (w:=w) h.1
theorem j7y{n:Ty.bool.den}{u:J}(h:j0l S w γ bx (.one (.d .bool n)) u):u = .bool n:=ji1 (S:=S) (w:=w) h.1
theorem jnQ{n:Ty.str.den}{u:J}(h:j0l S w γ bx (.one (.d .str n)) u):u = .string n:=jfN (S:=S) (w:=w) h.1
theorem jqf{P:À}{T:G->F TyI}(hT:j1J P T){op:ç}{t:Å}{x y:Ì}{c c':Cel}{l:Leaf}{u v:J}
  (h:binC (T t) op c c'=D (O,l))(hc:j0l S w γ bx c u)(hc':j0l S w γ bx c' v) :
  ∃z,(do eqGuard op t x y u v;binOp op t u v:Sem J).run P w = .ok z w/\j09 S w γ bx l z/\One z:=by
 unfold binC at h;split at h
 .rename_i k p k' q;have hu:=jbD hc;have hv:=jbD hc';subst hu hv;split at h
  .rename_i hk;subst hk;obtain⟨z,hz,hl,h1⟩:=jqe (P:=P) (w:=w) (S:=S) (γ:=γ) (bx:=bx) t h;exact⟨z,by simp only[Y,jbA,U,hz],hl,h1⟩
  .split at h
   .split at h
    .rename_i h0;simp only[j3,j7,true_and]at h;subst h;exact⟨_,by simp only[Y,jbA,U,jnO t (by simpa using h0)],rfl,rfl⟩
    .simp at h
   .simp at h
 .rename_i p q;have hu:=j7y hc;have hv:=j7y hc';subst hu hv;split at h
  .rename_i hb
   have hub:P.underlying t=D .bool:=by
    unfold jrb at hb;split at hb
    .rename_i ti hti;obtain⟨i,d,hi,hd,_,_,_,_,hh⟩:=j4o hT hti;have:=(hh _ (by simpa using hb)).2.2;cases d<;>simp_all[j6E,Ty.agg]
    .simp at hb
   split at h
   .simp only[j3,j7,true_and]at h;subst h;refine⟨.bool (p==q),?_,rfl,rfl⟩;simp only[Y,jb8,U,binOp];simp only[Op.equal,ø,run_equalIn_bool' w 9999 t p q hub,U,Ã]
   .simp only[j3,j7,true_and]at h;subst h;refine⟨.bool (!(p==q)),?_,rfl,rfl⟩;simp only[Y,jb8,U,binOp];simp only[Op.equal,ø,run_equalIn_bool' w 9999 t p q hub,U,Ã]
   .simp at h
  .simp at h
 .rename_i p q;have hu:=jnQ hc;have hv:=jnQ hc';subst hu hv;split at h
  .simp only[j3,j7,true_and]at h;subst h;exact⟨_,by simp only[Y,jbB,U,binOp,ù,Ã],rfl,rfl⟩
  .simp only[j3,j7,true_and]at h;subst h;exact⟨_,by simp only[Y,jbB,U,binOp,ù,Ã],rfl,rfl⟩
  .simp at h
 .rename_i p q;obtain⟨us,rfl,h1,_⟩:=hc;obtain⟨vs,rfl,h2,_⟩:=hc';split at h
  .simp at h
  rename_i hne;have hne:(jj0 (T t)).isEmpty=false:=by simpa using hne
  split at h
  .split at h
   .rename_i b hb;simp only[j3,j7,true_and]at h;subst h;obtain⟨hg,he⟩:=jjd hT hne hb h1 h2;exact⟨_,by simp only[Y,run_eqGuard_agg w .eql t x y us vs hg,U,run_eql_struct,he],rfl,rfl⟩
   .simp at h
  .split at h
   .rename_i b hb;simp only[j3,j7,true_and]at h;subst h;obtain⟨hg,he⟩:=jjd hT hne hb h1 h2;exact⟨_,by simp only[Y,run_eqGuard_agg w .neq t x y us vs hg,U,run_neq_struct,he],rfl,rfl⟩
   .simp at h
  .simp at h
 .simp at h
theorem jsb{P:À}{op:UnOp}{c:Cel}{l:Leaf}{u:J}(h:unC op c=D l)(hc:j0l S w γ bx c u) :
  ∃z,(õ op u).run P w = .ok z w/\j09 S w γ bx l z/\One z:=by
 unfold unC at h;split at h
 .have hu:=j7y hc;subst hu;split at h
  .simp at h;subst h;exact⟨_,by simp[õ],rfl,rfl⟩
  .simp at h
 .have hu:=jbD hc;subst hu;split at h
  .simp at h;subst h;exact⟨_,by simp[õ,à],rfl,rfl⟩
  .simp at h
 .simp at h
theorem jsc{P:À}{cs:H Cel}{l:Leaf}{us:H J}{ts:Ê Å}{ty:Å}(h:minC cs=D l)(hc:All2 (j0l S w γ bx) cs us) :
  ∃z,(ð ts ty us.toArray).run P w = .ok z w/\j09 S w γ bx l z/\One z:=by
 unfold minC at h;split at h
 .rename_i k p k' q;match us,hc with
  |[u,v],⟨h1,h2,_⟩=>
   have hu:=jbD h1;have hv:=jbD h2;subst hu hv;split at h
   .simp at h;subst h;exact⟨_,by simp[ð,Builtin.min2],rfl,rfl⟩
   .simp at h
 .simp at h
theorem jsd{P:À}{cs:H Cel}{l:Leaf}{us:H J}{ts:Ê Å}{ty:Å}(h:maxC cs=D l)(hc:All2 (j0l S w γ bx) cs us) :
  ∃z,(ñ ts ty us.toArray).run P w = .ok z w/\j09 S w γ bx l z/\One z:=by
 unfold maxC at h;split at h
 .rename_i k p k' q;match us,hc with
  |[u,v],⟨h1,h2,_⟩=>
   have hu:=jbD h1;have hv:=jbD h2;subst hu hv;split at h
   .simp at h;subst h;exact⟨_,by simp[ñ,Builtin.max2],rfl,rfl⟩
   .simp at h
 .simp at h
theorem j5L:∀(t:Ty)(v:t.den)(cs:H J),Rep S w t v cs->All2 (λx z=>Rep S w x.t x.v [z]) (scat t v) cs
 |.int k,v,cs,h=>by rw[h];exact⟨rfl,trivial⟩
 |.bool,v,cs,h=>by rw[h];exact⟨rfl,trivial⟩
 |.str,v,cs,h=>by rw[h];exact⟨rfl,trivial⟩
 |.unit,v,cs,h=>by rw[h];exact trivial
 |.wrap a,v,cs,h=>j5L a v cs h
 |.pair a b,v,cs,⟨c1,c2,e,h1,h2⟩=>by rw[e];exact(j5L a v.1 c1 h1).append (j5L b v.2 c2 h2)
 |.list a,v,cs,h=>by
  obtain⟨ad,cap,e,h'⟩:=h;subst e;exact⟨⟨ad,cap,rfl,h'⟩,trivial⟩
 |.arr n a,v,cs,⟨hn,css,ha,e⟩=>by
  have key:∀(xs:H a.den)(css:H (H J)),All2 (λx c=>Rep S w a x c) xs css->
    All2 (λx z=>Rep S w x.t x.v [z]) (xs.flatMap (scat a)) css.flatten:=by
   intro xs;induction xs with
   |nil=>intro css h;cases css with|nil=>exact trivial|cons _ _=>exact h.elim
   |cons x xs ih=>
    intro css h;cases css with
    |nil=>exact h.elim
    |cons c css=>exact(j5L a x c h.1).append (ih css h.2)
  have hw:∀l:H a.den,(Ñ l.length).flatMap (λi=>scat a (l.getD i a.dflt))=l.flatMap (scat a):=by
   intro l;induction l with
   |nil=>rfl
   |cons x l ih=>rw[ì,List.range_succ_eq_map,é,List.flatMap_map];simp only[é];congr 1
  have hm:∀(l:H a.den)(m:G),l.length=m->(Ñ m).flatMap (λi=>scat a (l.getD i a.dflt))=l.flatMap (scat a):=by intro l m hl;subst hl;exact hw l
  have he:scat (.arr n a) v=List.flatMap (scat a) v:=hm v n hn;rw[e,he];exact key v css ha
theorem j6F:∀{xs:H TV}{cs:H J},All2 (λx z=>Rep S w x.t x.v [z]) xs cs->All2 (j09 S w γ bx) (xs.map TV.leaf) cs:=
 λh=>All2.map_left.2 h
theorem jek(t:Ty)(v:t.den)(cs:H J)(u:J)(h:Rep S w t v cs)(hu:(t.agg=O\/∃n a,t = .arr n a)->u = .agg cs.toArray)(hu':t.agg=I->(∀n a,t ≠ .arr n a)->cs=[u]) :
  j0l S w γ bx (jb4 t v) u:=by
 cases t with
 |int k=>have:=hu' rfl smp_;subst this;exact⟨h,λ_=>Rep.one _ _ _ h u smp_⟩
 |bool=>have:=hu' rfl smp_;subst this;exact⟨h,λ_=>Rep.one _ _ _ h u smp_⟩
 |str=>have:=hu' rfl smp_;subst this;exact⟨h,λ_=>Rep.one _ _ _ h u smp_⟩
 |list a=>have:=hu' rfl smp_;subst this;exact⟨h,λ_=>Rep.one _ _ _ h u smp_⟩
 |unit=>have:=hu (.inl rfl);subst this;exact⟨_,rfl,by simpa using j6F (j5L _ v cs h),by simpa using Rep.one _ _ _ h⟩
 |wrap a=>have:=hu (.inl rfl);subst this;exact⟨_,rfl,by simpa using j6F (j5L _ v cs h),by simpa using Rep.one _ _ _ h⟩
 |pair a b=>have:=hu (.inl rfl);subst this;exact⟨_,rfl,by simpa using j6F (j5L _ v cs h),by simpa using Rep.one _ _ _ h⟩
 |arr n a=>have:=hu (.inr ⟨n,a,rfl⟩);subst this;exact⟨_,rfl,by simpa using h⟩
theorem jje{g o:G}{cs:H J}(h:∀j v,cs[j]? = D v->w.cell? ⟨g,o+j,B⟩=D v)(P:À) :
  (loadCells ⟨g,o,B⟩ cs.length).run P w = .ok cs.toArray w:=
 run_loadCells_list (P:=P) w ⟨g,o,B⟩ cs (λj v hv=>by rw[Í];exact h j v hv)
theorem jmN{P:À}{T:G->F TyI}(hT:j1J P T){t:Å}{ti:TyI}(ht:T t=D ti){ls:H Leaf}{c:Cel}(h:jgQ ti ls=D c)
  {g o:G}{cs:H J}(hr:All2 (j09 S w γ bx) ls cs)(h1:∀u∈cs,One u)(hl:∀j v,cs[j]? = D v->w.cell? ⟨g,o+j,B⟩=D v) :
  ∃u,(loadVar t ⟨g,o,B⟩).run P w = .ok u w/\j0l S w γ bx c u:=by
 unfold jgQ at h;split at h
 .rename_i ha;split at h
  .rename_i hlen;simp at h;subst h;refine⟨.agg cs.toArray,?_,cs.toArray,rfl,by simpa using hr,by simpa using h1⟩;have hs:=jje (w:=w) hl P;rw[<-hr.length,hlen]at hs;simp only[loadVar,Y,jei hT ht,ha,U,if_true,j2f hT ht,hs,Ã]
  .simp at h
 .rename_i ha;split at h
  .simp at h;subst h;match cs,hr with
   |[u],⟨hr,_⟩=>refine⟨u,?_,hr,λ_=>h1 u smp_⟩;have hcell:=hl 0 u rfl;simp only[loadVar,Y,jei hT ht,U,if_neg ha,run_load];rw[Nat.add_zero]at hcell;simp[hcell]
  .simp at h
end
theorem jcM{α:Type}{R:α->H J->Prop}{m:G}(hm:∀x c,R x c->c.length=m) :
  ∀{xs:H α}{css:H (H J)},All2 R xs css->∀(i:G)(d:α),i<xs.length->
   ∃c,css[i]? = D c/\R (xs.getD i d) c/\∀(j:G)(v:J),c[j]? = D v->css.flatten[i*m+j]? = D v
 |[],_,_,i,d,hi=>by simp at hi
 |x::xs,c::css,h,0,d,_=>⟨c,smp_,by simpa using h.1,λj v hv=>by
  grind⟩
 |x::xs,c::css,h,i+1,d,hi=>by
  obtain⟨c',h1,h2,h3⟩:=jcM hm h.2 i d (by simpa using hi);refine⟨c',by simpa using h1,by simpa using h2,λj v hv=>?_⟩;have hl:=hm _ _ h.1;grind
 |_::_,[],h,_,_,_=>h.elim
def RdR(σ:St)(rd:G->BS):Prop:=∀k,rd k=σ.bx k\/rd k = .gone
theorem RdR.live{rd:G->BS}(h:RdR σ rd){k:G}{b:Bx}(hk:rd k = .live b):σ.bx k = .live b:=by
 rcases h k with h|h;all_goals simp_all
theorem RdR.free{rd:G->BS}(h:RdR σ rd){k:G}(hk:j5X (rd k)=O):σ.bx k = .free:=by
 rcases h k with h|h;all_goals grind[j5X]
def NoM(rd:G->BS):Prop:=∀(k e:G)(a:Ty)(xs:H a.den)(f:W),rd k = .live (.lst e a xs f)->isM e=I
def RdOk(σ:St)(rd:G->BS):Prop:=RdR σ rd/\NoM rd
theorem RdOk.live{rd:G->BS}(h:RdOk σ rd){k:G}{b:Bx}(hk:rd k = .live b):σ.bx k = .live b:=h.1.live hk
theorem RdOk.free{rd:G->BS}(h:RdOk σ rd){k:G}(hk:j5X (rd k)=O):σ.bx k = .free:=h.1.free hk
theorem RdOk.nm{rd:G->BS}(h:RdOk σ rd){k e:G}{a:Ty}{xs:H a.den}{f:W}(hk:rd k = .live (.lst e a xs f)):isM e=false:=h.2 k e a xs f hk
theorem jnR{rd:G->BS}{k:G}{b:Bx}(h:mskM rd k = .live b):rd k = .live b/\∀(e:G)(a:Ty)(xs:H a.den)(f:W),b = .lst e a xs f->isM e=false:=by
 grind[mskM]
theorem jnS{rd:G->BS}(k:G):mskM rd k=rd k\/mskM rd k = .gone:=by
 grind[mskM]
theorem jse(rd:G->BS):NoM (mskM rd):=λk e a xs f h=>(jnR h).2 e a xs f rfl
theorem RdR.msk{rd:G->BS}(h:RdR σ rd):RdOk σ (mskM rd):=
 ⟨λk=>(jnS (rd:=rd) k).elim (λe=>(h k).imp (e.trans ·) (e.trans ·)) .inr,jse rd⟩
theorem jqg(hR:Rel N np S0 w0 refs σ a w S γ){k e:G}{t:Ty}{xs:H t.den}{frz:W}(hk:σ.bx k = .live (.lst e t xs frz))
  {g cap:G}(hg:γ k = .slice (D ⟨g,0,B⟩) xs.length cap){i:G}(hi:i<xs.length) :
  ∃cs,Rep S w t (xs.getD i t.dflt) cs/\∀(j:G)(v:J),cs[j]? = D v->w.cell? ⟨g,i*t.size+j,B⟩=D v:=by
 obtain⟨css,hown,ha,_⟩:=jlO hg (hR.box k _ hk);obtain⟨c,h1,h2,h3⟩:=jcM (λx c hx=>Rep.length t x c hx) ha i t.dflt hi;refine⟨c,h2,λj v hv=>?_⟩;have:=hown.cells (g:=g) (by rw[hg];rfl) (i*t.size+j) v (h3 j v hv);grind[Í]
theorem jqh(hR:Rel N np S0 w0 refs σ a w S γ){k n:G}{t:Ty}{xs:H t.den}(hk:σ.bx k = .live (.arr n t xs))
  {g:G}(hg:γ k = .pointer (D ⟨g,0,B⟩)){i:G}(hi:i<n) :
  ∃cs,Rep S w t (xs.getD i t.dflt) cs/\∀(j:G)(v:J),cs[j]? = D v->w.cell? ⟨g,i*t.size+j,B⟩=D v:=by
 obtain⟨g',cur,e,hg',hh,⟨hn,css,ha,he⟩,_⟩:=hR.box k _ hk;rw[hg]at hg';simp at hg';subst hg';obtain⟨c,h1,h2,h3⟩:=jcM (λx c hx=>Rep.length t x c hx) ha i t.dflt (by rw[hn];exact hi);grind[cell_of_row]
theorem ji2{l:H J}{c n j:G}{v:J}(h:((l.drop c).take n)[j]? = D v):l[c+j]? = D v:=by
 grind
theorem j8o{l:H J}{c n:G}{P:J->Prop}(h:∀u∈l,P u):∀u∈(l.drop c).take n,P u:=
 λu hu=>h u (List.mem_of_mem_drop (ä hu))
theorem jjf{P:À}{E:Env}(hT:j1J P E.T)(hR:Rel N np S0 w0 refs σ a w S γ){rd:G->BS}(hrd:RdOk σ rd){t:Å}{ti:TyI}(ht:E.T t=D ti)
  {x:Leaf}{c:Cel}{u:J}(h:jeg rd ti x=D c)(hx:j09 S w γ σ.bx x u) :
  ∃z,(Ü t u).run P w = .ok z w/\j0l S w γ σ.bx c z:=by
 have fin:∀(g o:G)(ls:H Leaf)(cs:H J),u = .pointer (D ⟨g,o,B⟩)->jgQ ti ls=D c->All2 (j09 S w γ σ.bx) ls cs->(∀u∈cs,One u)->
   (∀(j:G)(v:J),cs[j]? = D v->w.cell? ⟨g,o+j,B⟩=D v)->∃z,(Ü t u).run P w = .ok z w/\j0l S w γ σ.bx c z:=by
  intro g o ls cs hu hm hr h1 hl;obtain⟨z,hz,hc⟩:=jmN (P:=P) hT ht hm hr h1 hl;grind[Ü,Ô]
 cases x with
 |bp k o=>
  obtain⟨_,_,hb⟩:=hx;simp only[jeg]at h;split at h
  .rename_i ls frz hk;have hk:=hrd.live hk;obtain⟨g,hg,hu⟩:=hb _ hk;obtain⟨g',cur,e,hg',hh,ha,h1,_⟩:=hR.box k _ hk;rw[hg]at hg';simp at hg';subst hg';refine fin g o _ (((cur.toList.take ls.length).drop o).take ti.size) hu h ((ha.drop o).take ti.size) (j8o h1) (λj v hv=>?_);grind[cell_of_row]
  .rename_i n el xs hk;split at h
   .rename_i hc;obtain⟨rfl,hty⟩:=hc;simp at h;subst h;have hk:=hrd.live hk;obtain⟨g,hg,hu⟩:=hb _ hk;obtain⟨g',cur,e,hg',hh,hrep,_⟩:=hR.box k _ hk;rw[hg]at hg';simp at hg';subst hg';obtain⟨hud,_,_⟩:=jej hT ht hty;obtain⟨i,d,hi,hd,hs,_,hag,_,hh'⟩:=j4o hT ht
    have hsz:cur.size=ti.size:=by
     have:=Rep.length _ _ _ hrep
     simp_all
    refine⟨.agg cur,?_,cur,rfl,hrep⟩;grind[run_loadVar_row,Ü,Ô]
   .simp at h
  .simp at h
 |ep k i o=>
  obtain⟨_,_,hb⟩:=hx;simp only[jeg]at h;split at h
  .rename_i e el xs frz hk;have hk:=hrd.live hk;obtain⟨_,hi,g,cap,hg,hu⟩:=hb _ hk;obtain⟨cs,hrep,hcell⟩:=jqg hR hk hg hi;refine fin g _ _ ((cs.drop o).take ti.size) hu h (((j6F (j5L el _ cs hrep)).drop o).take ti.size) (j8o (Rep.one _ _ _ hrep)) (λj v hv=>?_);grind
  .rename_i n el xs hk;have hk:=hrd.live hk;obtain⟨hi,g,hg,hu⟩:=hb _ hk;obtain⟨cs,hrep,hcell⟩:=jqh hR hk hg hi;refine fin g _ _ ((cs.drop o).take ti.size) hu h (((j6F (j5L el _ cs hrep)).drop o).take ti.size) (j8o (Rep.one _ _ _ hrep)) (λj v hv=>?_);grind
  .rename_i e el n ls hk;split at h
   .have hk:=hrd.live hk;obtain⟨_,hi,g,cap,hg,hu⟩:=hb _ hk;obtain⟨_,⟨cs,hown,ha,h1⟩,_⟩:=hR.box k _ hk;refine fin g _ _ ((cs.drop (i*el.size+o)).take ti.size) hu h ((ha.drop _).take ti.size) (j8o h1) (λj v hv=>?_);have:=hown.cells (g:=g) (by rw[hg];rfl) _ v (ji2 hv);grind[Í]
   .simp at h
  .simp at h
 |ip ls=>
  obtain⟨g,o,cs,hu,ha,hl⟩:=hx;simp only[jeg]at h;refine fin g o _ (cs.take ti.size) hu h ((j6F ha).take ti.size) (λu hu=>?_) (λj v hv=>?_)
  .obtain⟨x,_,hx⟩:=ha.mem_right u (ä hu);grind[Rep.one]
  .rw[List.getElem?_take]at hv;split at hv
   .exact(hl j v hv).2
   .simp at hv
 |_=>simp[jeg]at h
theorem jgS{P:À}{T:G->F TyI}(hT:j1J P T){f:Field}{tf:TyI}(hf:T f.type=D tf)(hs:0<tf.size)(g o:G) :
  (fieldPlace ⟨g,o,B⟩ f).run P w = .ok ⟨g,o+f.offset,B⟩ w:=by
 grind[fieldPlace,Y,j2f,U,Ã,Í]
theorem j9S{rd:G->BS}{k:G}(h:isLive (rd k)=O):∃b,rd k = .live b:=by
 revert h
 cases rd k<;>simp[isLive]
theorem jmO{P:À}{E:Env}(hT:j1J P E.T){rd:G->BS}(hrd:RdOk σ rd){t:Å}{ti:TyI}(ht:E.T t=D ti){i:G}{x l:Leaf}{u:J}
  (h:jb5 rd ti i x=D l)(hx:j09 S w γ σ.bx x u) :
  ∃z,(å t u i).run P w = .ok z w/\j09 S w γ σ.bx l z/\One z:=by
 have fin:∀(g o:G)(f:G×G),u = .pointer (D ⟨g,o,B⟩)->ti.flds[i]? = D f->
   (å t u i).run P w = .ok (.pointer (D ⟨g,o+f.1,B⟩)) w:=by
  intro g o f hu hf;obtain⟨fs,hd,fl,hfl,hoff,hty,tf,htf,hs⟩:=jnM hT ht hf;subst hu;simp only[å,Y,run_underlying hd,U,hfl,Ô,Ã,jgS hT (hty▸htf) hs,hoff]
 cases x with
 |bp k o=>
  obtain⟨hfr,_,hb⟩:=hx;simp only[jb5]at h;split at h
  .rename_i f hf;split at h
   .rename_i hl;simp at h;subst h;obtain⟨b,hk⟩:=j9S hl;obtain⟨g,hg,hu⟩:=hb b (hrd.live hk);exact⟨_,fin g o f hu hf,⟨hfr,rfl,λb' hb'=>by simp_all⟩,rfl⟩
   .simp at h
  .simp at h
 |ep k j o=>
  obtain⟨hfr,_,hb⟩:=hx;simp only[jb5]at h;split at h
  .rename_i f hf;split at h
   .rename_i hl;simp at h;subst h;obtain⟨b,hk⟩:=j9S hl;have h0:=hb b (hrd.live hk);have hbk:=hrd.live hk;cases b with
    |cell _ _=>exact h0.elim
    |lst e el xs frz=>obtain⟨hnm,hi,g,cap,hg,hu⟩:=h0;refine⟨_,fin g _ f hu hf,⟨hfr,rfl,λb' hb'=>?_⟩,rfl⟩;grind
    |arr n el xs=>obtain⟨hi,g,hg,hu⟩:=h0;refine⟨_,fin g _ f hu hf,⟨hfr,rfl,λb' hb'=>?_⟩,rfl⟩;grind
    |row e el n ls=>obtain⟨hnm,hi,g,cap,hg,hu⟩:=h0;refine⟨_,fin g _ f hu hf,⟨hfr,rfl,λb' hb'=>?_⟩,rfl⟩;grind
   .simp at h
  .simp at h
 |ip ls=>
  obtain⟨g,o,cs,hu,ha,hl⟩:=hx;simp only[jb5]at h;split at h
  .rename_i f hf;simp at h;subst h;refine⟨_,fin g o f hu hf,⟨g,o+f.1,cs.drop f.1,rfl,ha.drop f.1,λj v hv=>?_⟩,rfl⟩;rw[List.getElem?_drop]at hv;have:=hl _ v hv;grind
  .simp at h
 |_=>simp[jb5]at h
theorem jbE{i:Ç}{n:G}:inR i n=O↔0<=i/\i<n:=by simp[inR]
theorem jam{P:À}{T:G->F TyI}(hT:j1J P T){t:Å}{ti:TyI}(ht:T t=D ti){a':Ty}{k:Î}{i:Ç}{len cap g o:G}(hty:ti.ty=D (.list a'))(hi:0<=i/\i<len) :
  (Ò t (.slice (D ⟨g,o,B⟩) len cap) (.int k i)).run P w = .ok (.pointer (D ⟨g,o+i.toNat*a'.size,B⟩)) w:=by
 obtain⟨hd,_,te,hte,htea⟩:=j4C hT ht hty;have hs:=j8n hT hte htea;simp only[Ò,asIntOf,Y,Ã,U,run_underlying hd,á,if_pos hi,j2f hT hte,hs,Í]
theorem jf3{P:À}{T:G->F TyI}(hT:j1J P T){t:Å}{ti:TyI}(ht:T t=D ti){n:G}{a':Ty}{k:Î}{i:Ç}{g o:G}(hty:ti.ty=D (.arr n a'))(hi:0<=i/\i<n) :
  (Ò t (.pointer (D ⟨g,o,B⟩)) (.int k i)).run P w = .ok (.pointer (D ⟨g,o+i.toNat*a'.size,B⟩)) w:=by
 obtain⟨hd,_,te,hte,htea⟩:=jej hT ht hty;have hs:=j8n hT hte htea;simp only[Ò,asIntOf,Y,Ã,U,run_underlying hd,Ô,á,if_pos hi,j2f hT hte,hs,Í]
theorem jel{t:F Ty}(h:j9i t=O):∃a,t=D (.list a):=by
 unfold j9i at h;grind
theorem jmP{P:À}{E:Env}(hT:j1J P E.T)(hR:Rel N np S0 w0 refs σ a w S γ){rd:G->BS}(hrd:RdOk σ rd){t:Å}{ti:TyI}(ht:E.T t=D ti)
  {x y l:Leaf}{u v:J}(h:jdj rd ti x y=D (O,l))(hx:j09 S w γ σ.bx x u)(hy:j09 S w γ σ.bx y v) :
  ∃z,(Ò t u v).run P w = .ok z w/\j09 S w γ σ.bx l z/\One z:=by
 unfold jdj at h;split at h
 .rename_i k kd i;have hv:v = .int kd i:=j7n (S:=S) (w:=w) hy;subst hv;split at h
  .rename_i e el xs frz hk;split at h
   .rename_i hty;simp only[j3,j7]at h;obtain⟨hi,rfl⟩:=h;have hi':=jbE.1 hi;have hnm:=hrd.nm hk;have hk:=hrd.live hk;have hu:=hx.2.2 _ hk;obtain⟨css,hown,_⟩:=j5f hnm (hR.box k _ hk);rcases hown.2 with⟨_,hz⟩|⟨g,cap,cur,hg,_,hh,_⟩
    .omega
    .rw[hu,hg];refine⟨_,jam hT ht hty hi',⟨hx.1,rfl,λb hb=>?_⟩,rfl⟩
     simp_all
   .simp at h
  .rename_i e el n ls hk;split at h
   .rename_i hty;simp only[j3,j7]at h;obtain⟨hi,rfl⟩:=h;have hi':=jbE.1 hi;have hk:=hrd.live hk;have hu:=hx.2.2 _ hk;obtain⟨hnm,⟨cs,hown,_,_⟩,_⟩:=hR.box k _ hk;rcases hown.2 with⟨_,hz⟩|⟨g,cap,cur,hg,_,hh,_⟩
    .omega
    .have hj:cond (ë n 1) 0 (Â i)=i.toNat:=by grind[Nat.eq_of_beq_eq_true]
     rw[hu,hg,hj];refine⟨_,jam hT ht hty hi',⟨hx.1,rfl,λb hb=>?_⟩,rfl⟩
     simp_all
   .simp at h
  .simp at h
 .rename_i el xs kd i;have hv:v = .int kd i:=j7n (S:=S) (w:=w) hy;subst hv;split at h
  .rename_i hty;simp only[j3,j7]at h;obtain⟨hi,rfl⟩:=h;have hi':=jbE.1 hi;obtain⟨ad,cap,hu,hle,hcm,hn,hb⟩:=hx;simp at hu;subst hu;cases ad with
   |none=>have:=hn rfl;omega
   |some b=>obtain⟨hsp,css,ha,hl⟩:=hb b rfl;obtain⟨g,o,sp⟩:=b;have hsp:=hsp (λe=>by grind);simp at hsp;subst hsp;refine⟨_,jam hT ht hty hi',?_,rfl⟩;obtain⟨c,h1,h2,h3⟩:=jcM (λx c hx=>Rep.length el x c hx) ha i.toNat el.dflt omg_;exact⟨g,_,c,rfl,j5L el _ c h2,λj v hv=>by rw[Nat.add_assoc];exact hl _ v (h3 j v hv)⟩
  .simp at h
 .rename_i k kd i;have hv:v = .int kd i:=j7n (S:=S) (w:=w) hy;subst hv;split at h
  .rename_i n el xs hk;split at h
   .rename_i hty;simp only[j3,j7]at h;obtain⟨hi,rfl⟩:=h;have hi':=jbE.1 hi;have hk:=hrd.live hk;obtain⟨g,hg,hu⟩:=hx.2.2 _ hk;subst hu;refine⟨_,jf3 hT ht hty hi',⟨hx.1,rfl,λb hb=>?_⟩,rfl⟩
    simp_all
   .simp at h
  .rename_i ls frz hk;split at h
   .rename_i n el hty;split at h
    .rename_i hil;simp only[j3,j7]at h;obtain⟨hi,rfl⟩:=h;have hi':=jbE.1 hi;have hk:=hrd.live hk;obtain⟨g,hg,hu⟩:=hx.2.2 _ hk;subst hu;obtain⟨a',ha'⟩:=jel hil;cases ha';refine⟨_,jf3 hT ht hty hi',⟨hx.1,rfl,λb hb=>?_⟩,rfl⟩;grind[Ty.size]
    .simp at h
   .simp at h
  .simp at h
 .rename_i k j kd i;have hv:v = .int kd i:=j7n (S:=S) (w:=w) hy;subst hv;split at h
  .rename_i e el xs frz hk;split at h
   .rename_i hty;simp only[j3,j7]at h;obtain⟨hi,rfl⟩:=h;have hi':=jbE.1 hi;have hnm:=hrd.nm hk;have hk:=hrd.live hk;obtain⟨_,hj,ad,cap',hg',hu⟩:=hx.2.2 _ hk;obtain⟨css,hown,_⟩:=j5f hnm (hR.box k _ hk);rcases hown.2 with⟨_,hz⟩|⟨g,cap,cur,hg,_,hh,hnc,_⟩
    .omega
    .rw[hg]at hg';simp only[Value.slice.injEq,true_and]at hg';obtain⟨rfl,rfl⟩:=hg';rw[if_neg (show¬cap=j by omega)]at hu;simp only[ß,Í,ò]at hu;subst hu;refine⟨_,jam hT ht hty hi',⟨hx.1,rfl,λb hb=>?_⟩,rfl⟩;grind
   .simp at h
  .simp at h
 .simp at h
theorem jkL{P:À}{T:G->F TyI}(hT:j1J P T){n:G}{ti:TyI}(hn:T n=D ti)(ht:ti.ty=D .str):P.underlying n=D .string:=by
 obtain⟨i,d,hi,hd,hs,_,ha,_,h⟩:=j4o hT hn;have:=(h _ ht).2.2;cases d<;>simp_all[j6E,Ty.agg]
theorem jnT{P:À}{E:Env}(hT:j1J P E.T){t:G}{ti:TyI}(ht:E.T t=D ti)(hty:ti.ty=D .str)(s:Ë)(kd:Î)(j:Ç)(hj:inR j s.size=O) :
  (â t (.string s) (.int kd j)).run P w = .ok (.int .u8 (j6l s j)) w:=by
 have hd:=jkL hT ht hty;have hi:=jbE.1 hj;have hlt:j.toNat<s.size:=omg_;have hlt':j.toNat<s.data.size:=hlt;have hg:s[j.toNat]? = D s[j.toNat]:=by simp[hlt]
 simp only[â,Y,asIntOf,Ã,U,run_underlying hd];rw[if_pos hi.1,hg];simp only[Ã];congr 2;unfold j6l;have:s.data.getD j.toNat 0=s.data[j.toNat]:=by simp_all
 rw[this];rfl
theorem jqi{P:À}{E:Env}(hT:j1J P E.T){bx:G->BS}{t:Å}{ti:TyI}(ht:E.T t=D ti)
  {c c':Cel}{y:Leaf}{u v:J}(h:idxV ti c y=D (O,c'))(hc:j0l S w γ bx c u)(hy:j09 S w γ bx y v) :
  ∃z,(â t u v).run P w = .ok z w/\j0l S w γ bx c' z:=by
 unfold idxV at h;split at h
 .rename_i n el xs kd i;have hv:v = .int kd i:=j7n (S:=S) (w:=w) hy;subst hv;split at h
  .rename_i hty;simp only[j3,j7]at h;obtain⟨hi,rfl⟩:=h;have hi':=jbE.1 hi;obtain⟨cs,rfl,hn,css,ha,he⟩:=hc;obtain⟨hd,hpos,te,hte,htea⟩:=jej hT ht hty;have hsz:=j8n hT hte htea;obtain⟨c,h1,h2,h3⟩:=jcM (λx c hx=>Rep.length el x c hx) ha i.toNat el.dflt omg_;have hcl:=Rep.length el _ c h2
   have hex:∀j,j<te.size->cs.toList[i.toNat*el.size+j]? = c[j]? := by
    simp_all
   obtain⟨ii,dd,hii,hdd,_,_,hag,_,hd'⟩:=j4o hT hte
   have hpart:∃z,(part ti.elem cs (i.toNat*te.size)).run P w = .ok z w/\j0l S w γ bx (jb4 el (xs.getD i.toNat el.dflt)) z:=by
    have hdesc:=(hd' _ htea).2.2;rw[<-hsz];by_cases hagg:te.agg=O
    .refine⟨.agg (cs.extract (i.toNat*el.size) (i.toNat*el.size+te.size)),?_,?_⟩
     .grind[part,Y,jei,U,j2f,Ã]
     .have hcc:(cs.extract (i.toNat*el.size) (i.toNat*el.size+te.size))=c.toArray:=by apply Array.ext';simp only[Array.toList_extract,List.extract_eq_take_drop];apply List.ext_getElem?;grind
      rw[hcc];refine jek el _ c _ h2 (λ_=>rfl) (λhf hna=>?_);exfalso;rw[hagg]at hag;cases dd with
      |struct fs=>grind[j6E]
      |array m e=>cases el<;>simp[j6E]at hdesc;exact hna _ _ rfl
      |_=>simp[aggD]at hag
    .have hf:te.agg=false:=by simpa using hagg
     have hel:el.agg=I/\∀n a,el ≠ .arr n a:=by
      rw[hf]at hag;cases dd with
      |struct fs=>simp[aggD]at hag
      |array m e=>simp[aggD]at hag
      |int k=>simp[j6E]at hdesc;subst hdesc;exact⟨rfl,smp_⟩
      |bool=>simp[j6E]at hdesc;subst hdesc;exact⟨rfl,smp_⟩
      |string=>simp[j6E]at hdesc;subst hdesc;exact⟨rfl,smp_⟩
      |slice e=>cases el<;>simp[j6E]at hdesc;exact⟨rfl,smp_⟩
      |_=>simp[j6E]at hdesc
     have hone:∃z,c=[z]:=by
      have:el.size=1:=by cases el<;>first|rfl|(exfalso;simp[Ty.agg]at hel)
      grind[List.length_eq_one_iff]
     obtain⟨z,rfl⟩:=hone;have hz:cs[i.toNat*el.size]? = D z:=by grind
     refine⟨z,?_,jek el _ [z] z h2 (λho=>?_) (λ_ _=>rfl)⟩;all_goals grind[part,Y,jei,U,Ã]
   obtain⟨z,hz,hcz⟩:=hpart;refine⟨z,?_,hcz⟩;simp only[â,asIntOf,Y,Ã,U,run_underlying hd,á,if_pos hi',j2f hT hte,hz]
  .simp at h
 .rename_i s kd i;have hv:v = .int kd i:=j7n (S:=S) (w:=w) hy;subst hv;split at h
  .rename_i hty;simp only[j3,j7]at h;obtain⟨hi,rfl⟩:=h;have hu:u = .string s:=jfN (S:=S) (w:=w) hc.1;subst hu;exact⟨_,jnT hT ht hty s kd i hi,rfl,λ_=>rfl⟩
  .simp at h
 .simp at h
theorem jqj{P:À}{E:Env}(hT:j1J P E.T)(hR:Rel N np S0 w0 refs σ a w S γ){rd:G->BS}(hrd:RdOk σ rd){t ty:Å}{ti:TyI}(ht:E.T t=D ti){x l:Leaf}{u:J}
  (h:lenC rd ti.ty x=D l)(hx:j09 S w γ σ.bx x u):∃z,(Ý #[t] ty #[u]).run P w = .ok z w/\j09 S w γ σ.bx l z/\One z:=by
 have sl:∀(ad:F Addr)(n c:G),j9i ti.ty=O->(Ý #[t] ty #[.slice ad n c]).run P w = .ok (.int .i64 n) w:=by intro ad n c hl;obtain⟨a',hty⟩:=jel hl;obtain⟨hd,_⟩:=j4C hT ht hty;simp[Ý,run_underlying hd,goInt]
 unfold lenC at h;split at h
 .split at h
  .rename_i hl;simp at h;subst h;have hu:u = .slice B 0 0:=hx;subst hu;exact⟨_,sl B 0 0 hl,rfl,rfl⟩
  .simp at h
 .rename_i k;split at h
  .rename_i e el xs frz hk;split at h
   .rename_i hl;simp at h;subst h;have hnm:=hrd.nm hk;have hk:=hrd.live hk;have hu:=hx.2.2 _ hk;obtain⟨css,hown,_⟩:=j5f hnm (hR.box k _ hk);rcases hown.2 with⟨hg,hz⟩|⟨g,cap,cur,hg,_⟩
    .rw[hu,hg,hz];exact⟨_,sl _ _ _ hl,rfl,rfl⟩
    .rw[hu,hg];exact⟨_,sl _ _ _ hl,rfl,rfl⟩
   .simp at h
  .rename_i e el n ls hk;split at h
   .rename_i hl;simp at h;subst h;have hk:=hrd.live hk;have hu:=hx.2.2 _ hk;obtain⟨hnm,⟨cs,hown,_,_⟩,_⟩:=hR.box k _ hk;rcases hown.2 with⟨hg,hz⟩|⟨g,cap,cur,hg,_⟩
    .rw[hu,hg,hz];exact⟨_,sl _ _ _ hl,rfl,rfl⟩
    .rw[hu,hg];exact⟨_,sl _ _ _ hl,rfl,rfl⟩
   .simp at h
  .simp at h
 .rename_i el xs;split at h
  .rename_i hl;simp at h;subst h;obtain⟨ad,cap,hu,_⟩:=hx;simp at hu;subst hu;exact⟨_,sl _ _ _ hl,rfl,rfl⟩
  .simp at h
 .rename_i s;split at h
  .rename_i hty;simp at h;subst h;have hu:u = .string s:=jfN (S:=S) (w:=w) hx;subst hu;have hd:=jkL hT ht hty;exact⟨_,by simp[Ý,run_underlying hd,goInt],rfl,rfl⟩
  .simp at h
 .rename_i k j;split at h
  .rename_i e el xs frz hk;split at h
   .rename_i hl;simp at h;subst h;have hk:=hrd.live hk;obtain⟨_,hj,ad,cap',hg',hu⟩:=hx.2.2 _ hk;rw[hu];refine⟨_,sl _ _ _ hl,?_,rfl⟩;show [Value.int .i64 _]=[Value.int .i64 _];congr 2
   .simp at h
  .simp at h
 .rename_i k j;split at h
  .rename_i e el xs frz hk;split at h
   .rename_i hl;simp at h;subst h;have hk:=hrd.live hk;obtain⟨_,hj,ad,cap',hg',hu⟩:=hx.2.2 _ hk;rw[hu];exact⟨_,sl _ _ _ hl,rfl,rfl⟩
   .simp at h
  .simp at h
 .simp at h
theorem Rel.step(hR:Rel N np S0 w0 refs σ a w S γ){bx':G->BS}{w':Z}{S':j0e}{γ':G->J}(hk:j3g S w S' w')(hb:BxLe γ σ.bx γ' bx')
   (box:∀k b,bx' k = .live b->j1T S' w' γ' bx' k b)(own:∀k b g,bx' k = .live b->blk (γ' k)=D g->Own w0 refs g\/(g∈refs/\parK np k=O))
   (apart:∀k k' b b' g,k≠k'->bx' k = .live b->bx' k' = .live b'->blk (γ' k)=D g->blk (γ' k')≠D g)
   (new:∀g o,S' g o->S0 g o\/Own w0 refs g)(here:∀g o,S' g o->g<w'.heap.size)(below:∀g,g<w0.heap.size->g∉refs->w'.heap[g]? = w0.heap[g]?)
   (grow:w0.heap.size<=w'.heap.size)(os:w'.os=w0.os)(tape:w'.tape=w0.tape)(output:w'.output=w0.output)
   (kept:∀g,g<w.heap.size->refs.kw g≠B->(∀k b,σ.bx k = .live b->blk (γ k)≠D g)->w'.heap[g]? = w.heap[g]? /\ ∀k b,bx' k = .live b->blk (γ' k)≠D g) :
   Rel N np S0 w0 refs { σ with bx:=bx' } a w' S' γ':=
 ⟨hR.size,hR.defers,λi=>j3w.keep hk hb (hR.slot i),box,own,apart,λg o h=>(hk g o (hR.ext g o h)).1,new,here,below,grow,os,tape,output,λk v h=>⟨(hR.par k v h).1,(hb k (hR.par k v h).2.1).1,(hb k (hR.par k v h).2.1).2.1.trans (hR.par k v h).2.2⟩,
  λg o h=>by
   grind[kept],hR.fix⟩
theorem j1T.keep{S':j0e}{w':Z}{γ':G->J}{bx bx':G->BS}(hk:j3g S w S' w')(hb:BxLe γ bx γ' bx'){k:G}{b:Bx}(hg:γ' k=γ k)
  (hblk:∀g,blk (γ k)=D g->w'.heap[g]? = w.heap[g]? /\ ∀o,S' g o↔S g o)(h:j1T S w γ bx k b):j1T S' w' γ' bx' k b:=by
 cases b with
 |cell ls frz=>obtain⟨g,cur,e,h1,h2,h3,h4,h5,h6⟩:=h;obtain⟨e1,e2⟩:=hblk g (by rw[h1];rfl);exact⟨g,cur,e,hg.trans h1,e1.trans h2,h3.mono (λx u hx=>j09.keep hk hb hx),h4,λhf o hs=>h5 hf o ((e2 o).1 hs),λhf o ho=>(e2 o).2 (h6 hf o ho)⟩
 |lst e t xs frz=>
  obtain⟨h1,h3⟩:=h;refine⟨?_,λg hg'=>?_⟩
  .rw[hg];exact h1.keep hk λg hg'=>(hblk g hg').1
  simp_all
 |arr n t xs=>obtain⟨g,cur,e,h1,h2,h3,h4⟩:=h;obtain⟨e1,e2⟩:=hblk g (by rw[h1];rfl);exact⟨g,cur,e,hg.trans h1,e1.trans h2,Rep.keep hk _ _ _ h3,λo hs=>h4 o ((e2 o).1 hs)⟩
 |row e t n ls=>
  obtain⟨hm,⟨cs,h1,h2,h3⟩,h4⟩:=h;refine⟨hm,⟨cs,⟨h1.1,?_⟩,h2.mono (λx u hx=>j09.keep hk hb hx),h3⟩,λg hg' o hs=>?_⟩
  .rw[hg];rcases h1.2 with hn|⟨g,cap,cur,hv,hb0,hh,rest⟩
   .exact .inl hn
   .exact .inr ⟨g,cap,cur,hv,hb0,(hblk g (by rw[hv];rfl)).1.trans hh,rest⟩
  simp_all
theorem j0y(σ:St)(k:G)(b:BS):(σ.setB k b).bx k=b:=by simp[St.setB]
theorem j07(σ:St){k k':G}(b:BS)(h:k'≠k):(σ.setB k b).bx k'=σ.bx k':=by simp[St.setB,h]
theorem jqk(hR:Rel N np S0 w0 refs σ a w S γ){k e:G}{t:Ty}{xs:H t.den}{f:W}(hm:isM e=I)(hk:σ.bx k = .live (.lst e t xs f)){S':j0e}{w':Z}(hst:j3g S w S' w')
  (hs:∀g o,blk (γ k)=D g->o<xs.length*t.size->S' g o/\w'.cell? ⟨g,o,B⟩=w.cell? ⟨g,o,B⟩):Rep S' w' (.list t) xs [γ k]:=by
 obtain⟨css,hown,ha,_⟩:=j5f hm (hR.box k _ hk);rcases hown.2 with⟨hg,hz⟩|⟨g,cap,cur,hg,_,hh,hle,hcm,hcs,htake⟩
 .refine⟨B,0,?_,?_,?_,λ_=>rfl,λb hb=>by simp at hb⟩;all_goals simp_all
 .refine⟨D ⟨g,0,B⟩,cap,by rw[hg],hle,hcm,smp_,λb hb=>?_⟩;simp at hb;subst hb;refine⟨λ_=>rfl,css,ha.mono (λx c hx=>Rep.keep hst _ _ _ hx),λj v hv=>?_⟩;have hlen:=All2.flatten_length (λx c hx=>Rep.length t x c hx) ha;have hj:j<xs.length*t.size:=by grind
  obtain⟨h1,h2⟩:=hs g j (by rw[hg];rfl) hj;simp only[ò];refine⟨h1,h2.trans ?_⟩;have:=hown.cells (g:=g) (by rw[hg];rfl) j v hv;grind[Í]
theorem jem(hR:Rel N np S0 w0 refs σ a w S γ){k e:G}{t:Ty}{xs:H t.den}{f:W}(hm:isM e=I)(hk:σ.bx k = .live (.lst e t xs f))(hp:parK np k=I) :
  ∃S',Rel N np S0 w0 refs (σ.setB k (.live (.lst e t xs O))) a w S' γ/\j3g S w S' w/\Rep S' w (.list t) xs [γ k]:=by
 let S':j0e:=λg o=>S g o\/(blk (γ k)=D g/\o<xs.length*t.size)
 have hst:j3g S w S' w:=λg o h=>⟨.inl h,rfl⟩;have hdata:Rep S' w (.list t) xs [γ k]:=jqk hR hm hk hst (λg o hb ho=>⟨.inr ⟨hb,ho⟩,rfl⟩)
 have hble:BxLe γ σ.bx γ (σ.setB k (.live (.lst e t xs O))).bx:=by
  intro k' hk';by_cases hkk:k'=k
  .subst hkk;rw[j0y];exact⟨smp_,rfl,λb hb=>by simp at hb;subst hb;exact⟨_,hk,rfl,rfl,λ_=>rfl⟩⟩
  .rw[j07 σ _ hkk];exact⟨hk',rfl,λb hb=>⟨b,hb,.refl b⟩⟩
 have live':∀k' b,(σ.setB k (.live (.lst e t xs O))).bx k' = .live b->∃b',σ.bx k' = .live b':=by grind[j07]
 refine⟨S',?_,hst,hdata⟩
 have hbox:∀k' b,(σ.setB k (.live (.lst e t xs O))).bx k' = .live b->j1T S' w γ (σ.setB k (.live (.lst e t xs O))).bx k' b:=by
  intro k' b hb;by_cases hkk:k'=k
  .subst hkk;rw[j0y]at hb;simp at hb;subst hb;obtain⟨css,hown,ha,hS⟩:=j5f hm (hR.box k' _ hk);refine jeh hm ⟨css,hown,ha.mono (λx c hx=>Rep.keep hst _ _ _ hx),λg hg=>⟨smp_,λ_ o=>?_⟩⟩;grind
  .rw[j07 σ _ hkk]at hb;refine j1T.keep hst hble rfl (λg hg=>⟨rfl,λo=>⟨λhs=>?_,.inl⟩⟩) (hR.box k' b hb);rcases hs with hs|hs
   .exact hs
   .exact absurd hs.1 (hR.apart k' k b _ g hkk hb hk hg)
 refine Rel.step hR hst hble hbox ?_ ?_ ?_ ?_ hR.below hR.grow hR.os hR.tape hR.output (λg _ _ h=>⟨rfl,λk' b' hb'=>by grind⟩)
 .intro k' b g hb hg;obtain⟨b',hb'⟩:=live' k' b hb;exact hR.own k' b' g hb' hg
 .intro k1 k2 b1 b2 g hne h1 h2 hg;obtain⟨b1',h1'⟩:=live' k1 b1 h1;obtain⟨b2',h2'⟩:=live' k2 b2 h2;exact hR.apart k1 k2 b1' b2' g hne h1' h2' hg
 .intro g o hs;rcases hs with hs|hs
  .exact hR.new g o hs
  .rcases hR.own k _ g hk hs.1 with h|h;all_goals simp_all
 .intro g o hs;rcases hs with hs|hs
  .exact hR.here g o hs
  .obtain⟨css,hown,_⟩:=j5f hm (hR.box k _ hk);rcases hown.2 with⟨hn,_⟩|⟨g',cap,cur,hg,_,hh,_⟩;all_goals grind[blk]
def FrzL(np:G)(bx:G->BS)(u:Ups):Prop:=
 ∀x∈u,parK np x.1=I/\∃e t xs f,bx x.1 = .live (.lst e t xs f)/\x.2 = .live (.lst e t xs O)/\isM e=I
def Froz(bx:G->BS)(γ:G->J)(S:j0e)(w:Z)(u:Ups):Prop:=
 ∀x∈u,∀e t xs f,bx x.1 = .live (.lst e t xs f)->Rep S w (.list t) xs [γ x.1]
theorem FrzL.app{bx:G->BS}{u v:Ups}:FrzL np bx (u++v)↔FrzL np bx u/\FrzL np bx v:=by
 simp only[FrzL,ï];grind
theorem Froz.app{bx:G->BS}{u v:Ups}:Froz bx γ S w (u++v)↔Froz bx γ S w u/\Froz bx γ S w v:=by
 simp only[Froz,ï];exact⟨λh=>⟨λx hx=>h x (.inl hx),λx hx=>h x (.inr hx)⟩,λh x hx=>hx.elim (h.1 x) (h.2 x)⟩
theorem FrzL.nil{bx:G->BS}:FrzL np bx []:=λ_ h=>by simp at h
theorem Froz.nil{bx:G->BS}:Froz bx γ S w []:=λ_ h=>by simp at h
theorem Froz.keep{bx:G->BS}{u:Ups}{S':j0e}{w':Z}(hk:j3g S w S' w')(h:Froz bx γ S w u):Froz bx γ S' w' u:=
 λx hx e t xs f hb=>Rep.keep hk _ _ _ (h x hx e t xs f hb)
def jbs(bx bx':G->BS):Prop:=
 ∀k,bx' k=bx k\/∃e t xs f f',bx k = .live (.lst e t xs f)/\bx' k = .live (.lst e t xs f')
theorem jbs.refl(bx:G->BS):jbs bx bx:=λ_=> .inl rfl
theorem jbs.trans{b1 b2 b3:G->BS}(h:jbs b1 b2)(h':jbs b2 b3):jbs b1 b3:=by
 intro k;rcases h k with e|⟨e,t,xs,f,f',h1,h2⟩
 .rcases h' k with e'|⟨e2,t,xs,f,f',h1,h2⟩;all_goals grind
 .rcases h' k with e'|⟨e2,t2,xs2,f2,f2',h3,h4⟩;all_goals grind
theorem jbs.free{b1 b2:G->BS}(h:jbs b1 b2){k:G}(hk:b1 k = .free):b2 k = .free:=by
 rcases h k with e|⟨e,t,xs,f,f',h1,h2⟩;all_goals simp_all
theorem jbs.cell{b1 b2:G->BS}(h:jbs b1 b2){k:G}{ls:H Leaf}{f:W}(hk:b1 k = .live (.cell ls f)):b2 k = .live (.cell ls f):=by
 rcases h k with e|⟨e,t,xs,f,f',h1,h2⟩;all_goals simp_all
theorem jbs.arr{b1 b2:G->BS}(h:jbs b1 b2){k n:G}{t:Ty}{xs:H t.den}(hk:b1 k = .live (.arr n t xs)):b2 k = .live (.arr n t xs):=by
 rcases h k with e|⟨e,t,xs,f,f',h1,h2⟩;all_goals simp_all
theorem jbs.lst{b1 b2:G->BS}(h:jbs b1 b2){k e:G}{t:Ty}{xs:H t.den}{f:W}(hk:b1 k = .live (.lst e t xs f)):∃f',b2 k = .live (.lst e t xs f'):=by
 rcases h k with e|⟨e,t,xs,f,f',h1,h2⟩;all_goals simp_all
theorem jbs.le{b1 b2:G->BS}(h:jbs b1 b2):BxLe γ b1 γ b2:=by
 intro k hk;rcases h k with e|⟨e,t,xs,f,f',h1,h2⟩
 .rw[e];exact⟨hk,rfl,λb hb=>⟨b,hb,.refl b⟩⟩
 .rw[h2];exact⟨smp_,rfl,λb hb=>by simp at hb;subst hb;exact⟨_,h1,rfl,rfl,λ_=>rfl⟩⟩
theorem jjg:∀(u:Ups)(σ:St),(σ.upd u).sl=σ.sl
 |[],_=>rfl
 |e::u,σ=>jjg u (σ.setB e.1 e.2)
theorem j57:∀(u v:Ups)(σ:St),σ.upd (u++v)=(σ.upd u).upd v
 |[],_,_=>rfl
 |e::u,v,σ=>j57 u v (σ.setB e.1 e.2)
theorem j3T:∀(u:Ups)(σ:St)(S:j0e),Rel N np S0 w0 refs σ a w S γ->FrzL np σ.bx u->
  ∃S',Rel N np S0 w0 refs (σ.upd u) a w S' γ/\j3g S w S' w/\Froz σ.bx γ S' w u/\jbs σ.bx (σ.upd u).bx
 |[],σ,S,hR,_=>⟨S,hR,.refl S w,.nil,.refl _⟩
 |x::u,σ,S,hR,hf=>by
  obtain⟨hp,e,t,xs,f,hb,hx,hm⟩:=hf x smp_;obtain⟨S1,hR1,hst1,hd1⟩:=jem hR hm hb hp;rw[<-hx]at hR1
  have hs1:jbs σ.bx (σ.setB x.1 x.2).bx:=by
   intro k;by_cases hk:k=x.1
   .subst hk;exact .inr ⟨e,t,xs,f,O,hb,by rw[j0y,hx]⟩
   .exact .inl (j07 σ _ hk)
  have hf1:FrzL np (σ.setB x.1 x.2).bx u:=by intro y hy;obtain⟨hp',e',t',xs',f',hb',hy'⟩:=hf y (by simp[hy]);obtain⟨f2,h2⟩:=hs1.lst hb';exact⟨hp',e',t',xs',f2,h2,hy'⟩
  obtain⟨S2,hR2,hst2,hd2,hs2⟩:=j3T u _ S1 hR1 hf1;refine⟨S2,hR2,hst1.trans hst2,λy hy e' t' xs' f' hb'=>?_,hs1.trans hs2⟩;rcases List.mem_cons.1 hy with rfl|hy
  .rw[hb]at hb';cases hb';exact Rep.keep hst2 _ _ _ hd1
  .obtain⟨f2,h2⟩:=hs1.lst hb';exact hd2 y hy e' t' xs' f2 h2
def RdF(np:G)(σ:St)(rd:G->BS):Prop:=(∀k,(rd k=σ.bx k/\parK np k=I)\/rd k = .gone)/\NoM rd
theorem RdF.ok{rd:G->BS}(h:RdF np σ rd):RdOk σ rd:=⟨λk=>(h.1 k).imp (·.1) id,h.2⟩
theorem RdF.par{rd:G->BS}(h:RdF np σ rd){k:G}{b:Bx}(hk:rd k = .live b):parK np k=false:=by
 rcases h.1 k with h|h;all_goals simp_all
def jjh(S:j0e)(w:Z)(γ:G->J)(bx:G->BS):Prop:=∀k b,bx k = .live b->j1T S w γ bx k b
theorem jmQ{rd:G->BS}(hrd:RdF np σ rd)(hB:jjh S w γ σ.bx){t:Ty}{l:Leaf}{v:t.den}{u:Ups}{z:J}(h:j9h rd t l=D (v,u))(hl:j09 S w γ σ.bx l z) :
  FrzL np σ.bx u/\∀S' w',j3g S w S' w'->Froz σ.bx γ S' w' u->Rep S' w' t v [z]:=by
 unfold j9h at h;split at h
 .split at h
  .rename_i t' v' v'' hto;simp only[j3,j7]at h;obtain⟨rfl,rfl⟩:=h;have:=jcL hto;cases this;exact⟨.nil,λS' w' hk _=>Rep.keep hk _ _ _ hl⟩
  .simp at h
 .split at h
  .simp only[j3,j7]at h;obtain⟨rfl,rfl⟩:=h;have hz:z = .slice B 0 0:=hl;subst hz;exact⟨.nil,λS' w' _ _=>⟨B,0,rfl,Nat.le_refl _,by simp[maxLen],λ_=>rfl,λb hb=>by simp at hb⟩⟩
  .simp at h
 .rename_i k;split at h
  .rename_i e el xs f hk;split at h
   .rename_i v' hto;simp only[j3,j7]at h;obtain⟨rfl,rfl⟩:=h;have:=jcL hto;cases this;have hk':=hrd.ok.live hk;refine⟨λx hx=>?_,λS' w' _ hf=>?_⟩
    .have hx':=List.mem_singleton.1 hx;subst hx';exact⟨hrd.par hk,e,el,xs,f,hk',rfl,hrd.ok.nm hk⟩
    .have:=hf (k,_) (List.mem_singleton.2 rfl) e el xs f hk';rw[hl.2.2 _ hk'];exact this
   .simp at h
  .simp at h
 .simp at h
theorem jkM{n cap:G}{ad:F Addr}(h1:n<=cap)(h2:cap<=maxLen)(h3:ad=B->cap=0)(h4:∀b,ad=D b->n≠0->b.spot=B){t:Ty}{v:t.den}(hv:hdr t n=D v):Rep S w t v [.slice ad n cap]:=by
 unfold hdr at hv;split at hv
 .simp only[j3]at hv;subst hv;have hl:(Ä n ()).length=n:=List.length_replicate ..;refine⟨ad,cap,by rw[hl],by rw[hl];exact h1,h2,h3,λb hb=>⟨λhne=>h4 b hb (λh0=>hne (by rw[h0];rfl)),Ä n [],?_,?_⟩⟩
  .clear hl h1 h4;induction n with
   |zero=>trivial
   |succ n ih=>exact⟨rfl,ih⟩
  .have:(Ä n ([]:H J)).flatten=[]:=by
    simp_all
   rw[this];intro j v hj;simp at hj
 .simp at hv
theorem jnU{rd:G->BS}(hrd:RdF np σ rd)(hB:jjh S w γ σ.bx){t:Ty}{l:Leaf}{v:t.den}{z:J}(h:jiZ rd t l=D v)(hl:j09 S w γ σ.bx l z):∀S' w',Rep S' w' t v [z]:=by
 intro S' w';unfold jiZ at h;split at h
 case h_2=>simp at h
 rename_i n hn;unfold lenL at hn;split at hn
 .simp at hn
 .simp only[j3]at hn;subst hn;obtain⟨ad,cap,hz,h1,h2,h3,h4⟩:=hl;grind[jkM]
 .split at hn
  .rename_i k _ e a xs f hk;simp only[j3]at hn;subst hn;have hk':=hrd.ok.live hk;obtain⟨css,hown,_,_⟩:=j5f (hrd.ok.nm hk) (hB k _ hk');have hz:z=γ k:=hl.2.2 _ hk';rw[hz];rcases hown.2 with⟨hs,hn0⟩|⟨g,cap,cur,hs,_,hh,hle,hcm,_⟩;all_goals grind[jkM]
  .rename_i k _ e a n' ls hk;simp only[j3]at hn;subst hn;have hk':=hrd.ok.live hk;obtain⟨_,⟨cs,hown,_,_⟩,_⟩:=hB k _ hk';have hz:z=γ k:=hl.2.2 _ hk';rw[hz];rcases hown.2 with⟨hs,hn0⟩|⟨g,cap,cur,hs,_,hh,hle,hcm,_⟩;all_goals grind[jkM]
  .simp at hn
 .simp at hn
theorem j9T{rd:G->BS}(hrd:RdF np σ rd)(hB:jjh S w γ σ.bx){t:Ty}{l:Leaf}{v:t.den}{u:Ups}{z:J}(h:jdh rd t l=D (v,u))(hl:j09 S w γ σ.bx l z) :
  FrzL np σ.bx u/\∀S' w',j3g S w S' w'->Froz σ.bx γ S' w' u->Rep S' w' t v [z]:=by
 unfold jdh at h;split at h
 .rename_i v' hv;simp only[j3,j7]at h;obtain⟨rfl,rfl⟩:=h;exact⟨.nil,λS' w' _ _=>jnU hrd hB hv hl S' w'⟩
 grind[jmQ]
theorem j9j{rd:G->BS}(hrd:RdF np σ rd)(hB:jjh S w γ σ.bx):∀(t:Ty){ls r:H Leaf}{v:t.den}{u:Ups}{zs:H J},gath rd t ls=D (v,r,u)->All2 (j09 S w γ σ.bx) ls zs->
  FrzL np σ.bx u/\r=ls.drop t.size/\∀S' w',j3g S w S' w'->Froz σ.bx γ S' w' u->Rep S' w' t v (zs.take t.size)
 |.unit,ls,r,v,u,zs,h,ha=>by
  simp only[gath,j3,j7]at h;obtain⟨_,rfl,rfl⟩:=h;exact⟨.nil,rfl,λS' w' _ _=>rfl⟩
 |.wrap b,ls,r,v,u,zs,h,ha=>by
  simp only[gath]at h;split at h
  .rename_i x r' u' hx;simp only[j3,j7]at h;obtain⟨rfl,rfl,rfl⟩:=h;exact j9j hrd hB b hx ha
  .simp at h
 |.pair b c,ls,r,v,u,zs,h,ha=>by
  simp only[gath]at h;split at h
  .rename_i x r1 u1 hx;split at h
   .rename_i y r2 u2 hy;simp only[j3,j7]at h;obtain⟨rfl,rfl,rfl⟩:=h;obtain⟨f1,e1,p1⟩:=j9j hrd hB b hx ha;have ha2:All2 (j09 S w γ σ.bx) r1 (zs.drop b.size):=by rw[e1];exact ha.drop _
    obtain⟨f2,e2,p2⟩:=j9j hrd hB c hy ha2;refine⟨FrzL.app.2 ⟨f1,f2⟩,?_,λS' w' hk hf=>?_⟩
    .rw[e2,e1,ã];rfl
    .obtain⟨hf1,hf2⟩:=Froz.app.1 hf;refine⟨zs.take b.size,(zs.drop b.size).take c.size,?_,p1 S' w' hk hf1,p2 S' w' hk hf2⟩;show zs.take (b.size+c.size)=_;rw[List.take_add]
   .simp at h
  .simp at h
 |.arr _ _,_,_,_,_,_,h,_=>by simp[gath]at h
 |.int k,l::ls,r,v,u,z::zs,h,ha=>by
  simp only[gath]at h;split at h
  .rename_i v' u' hv;simp only[j3,j7]at h;obtain⟨rfl,rfl,rfl⟩:=h;obtain⟨f,p⟩:=j9T hrd hB hv ha.1;exact⟨f,rfl,p⟩
  .simp at h
 |.bool,l::ls,r,v,u,z::zs,h,ha=>by
  simp only[gath]at h;split at h
  .rename_i v' u' hv;simp only[j3,j7]at h;obtain⟨rfl,rfl,rfl⟩:=h;obtain⟨f,p⟩:=j9T hrd hB hv ha.1;exact⟨f,rfl,p⟩
  .simp at h
 |.str,l::ls,r,v,u,z::zs,h,ha=>by
  simp only[gath]at h;split at h
  .rename_i v' u' hv;simp only[j3,j7]at h;obtain⟨rfl,rfl,rfl⟩:=h;obtain⟨f,p⟩:=j9T hrd hB hv ha.1;exact⟨f,rfl,p⟩
  .simp at h
 |.list b,l::ls,r,v,u,z::zs,h,ha=>by
  simp only[gath]at h;split at h
  .rename_i v' u' hv;simp only[j3,j7]at h;obtain⟨rfl,rfl,rfl⟩:=h;obtain⟨f,p⟩:=j9T hrd hB hv ha.1;exact⟨f,rfl,p⟩
  .simp at h
 |.int _,[],_,_,_,_,h,_=>by simp[gath]at h
 |.bool,[],_,_,_,_,h,_=>by simp[gath]at h
 |.str,[],_,_,_,_,h,_=>by simp[gath]at h
 |.list _,[],_,_,_,_,h,_=>by simp[gath]at h
 |.int _,_::_,_,_,_,[],_,ha=>ha.elim
 |.bool,_::_,_,_,_,[],_,ha=>ha.elim
 |.str,_::_,_,_,_,[],_,ha=>ha.elim
 |.list _,_::_,_,_,_,[],_,ha=>ha.elim
def cellsOf(u:J):H Value:=u.cells.toList
theorem j9U{u:J}(h:One u):u.cells.toList=[u]:=by
 cases u<;>first|rfl|simp[One,Value.oneCell']at h
theorem jfO(rd:G->BS):∀(t:Ty){ls r:H Leaf}{v:t.den}{u:Ups},gath rd t ls=D (v,r,u)->r.length+t.size=ls.length:=by
 intro t;induction t with
 |unit=>intro ls r v u h;simp only[gath,j3,j7]at h;rw[<-h.2.1];rfl
 |wrap a ih=>
  intro ls r v u h;simp only[gath]at h;split at h
  .rename_i x r' u' hx;simp only[j3,j7]at h;rw[<-h.2.1];exact ih hx
  .simp at h
 |pair a b iha ihb=>grind[gath,Ty.size]
 |arr n a _=>grind[gath]
 |int k=>intro ls r v u h;cases ls<;>simp only[gath]at h;all_goals grind[Ty.size]
 |bool=>intro ls r v u h;cases ls<;>simp only[gath]at h;all_goals grind[Ty.size]
 |str=>intro ls r v u h;cases ls<;>simp only[gath]at h;all_goals grind[Ty.size]
 |list a _=>intro ls r v u h;cases ls<;>simp only[gath]at h;all_goals grind[Ty.size]
theorem jnV(rd:G->BS):∀(t:Ty){ls r:H Leaf}{v:t.den}{u:Ups},gath rd t (.dead::ls)=D (v,r,u)->r = .dead::ls:=by
 intro t;induction t with
 |unit=>grind[gath]
 |wrap a ih=>grind[gath]
 |pair a b iha ihb=>grind[gath]
 |arr n a _=>grind[gath]
 |int k=>grind[gath,jdh,jiZ,lenL,j9h]
 |bool=>grind[gath,jdh,jiZ,lenL,j9h]
 |str=>grind[gath,jdh,jiZ,lenL,j9h]
 |list a _=>grind[gath,jdh,jiZ,lenL,j9h]
theorem jji{t:Ty}(h:t.agg=O):j9b t=true:=by
 revert h;cases t<;>simp[j9b,Ty.agg]
theorem j9V{rd:G->BS}(hrd:RdF np σ rd)(hB:jjh S w γ σ.bx){t:Ty}{c:Cel}{v:t.den}{u:Ups}{z:J}(h:jb3 rd t c=D (v,u))(hc:j0l S w γ σ.bx c z) :
  FrzL np σ.bx u/\(∀S' w',j3g S w S' w'->Froz σ.bx γ S' w' u->VRep S' w' ⟨t,v⟩ z)/\z.cells.toList.length=t.size:=by
 unfold jb3 at h;split at h
 .rename_i l;split at h
  .simp at h
  rename_i hag;split at h
  .rename_i v' u' hv;simp only[j3,j7]at h;obtain⟨rfl,rfl⟩:=h;obtain⟨f,e,p⟩:=j9j hrd hB t hv (zs:=[z]) ⟨hc.1,trivial⟩;have hlen:=jfO rd t hv;simp at hlen;have hd:l ≠ .dead:=by grind[jnV]
   have h1:=j9U (hc.2 hd);refine⟨f,λS' w' hk hf=>⟨?_,λhm=>?_,λ_=>hc.2 hd⟩,by simp[h1,hlen]⟩
   .grind
   .exfalso;cases t<;>simp[j9b,Ty.agg]at hm hag;simp[gath]at hv
  .simp at h
 .rename_i ls;split at h
  .rename_i hag;split at h
   .rename_i v' u' hv;simp only[j3,j7]at h;obtain⟨rfl,rfl⟩:=h;obtain⟨cs,rfl,ha,h1⟩:=hc;obtain⟨f,e,p⟩:=j9j hrd hB t hv ha;have hlen:=jfO rd t hv;have hl:=ha.length;simp at hlen;have hcs:cs.toList.length=t.size:=omg_;refine⟨f,λS' w' hk hf=>⟨?_,λ_=>⟨cs,rfl⟩,λhm=>?_⟩,hcs⟩
    .have:=p S' w' hk hf;rwa[List.take_of_length_le omg_]at this
    grind[jji]
   .simp at h
  .simp at h
 .split at h
  .rename_i v' hto;simp only[j3,j7]at h;obtain⟨rfl,rfl⟩:=h;have:=jcL hto;cases this;obtain⟨cs,rfl,hr⟩:=hc;exact⟨.nil,λS' w' hk _=>⟨Rep.keep hk _ _ _ hr,λ_=>⟨cs,rfl⟩,by simp[j9b]⟩,Rep.length _ _ _ hr⟩
  .simp at h
end
end Go.Lft
