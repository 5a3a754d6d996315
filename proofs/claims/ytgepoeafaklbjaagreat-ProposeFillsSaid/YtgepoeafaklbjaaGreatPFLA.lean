/- A typed evaluator of the model's code, on plain data: definitions. -/
import Derived.WalkKit
import Derived.Orders
import Derived.MapKept
open Option renaming none->B,some->D,map_some->á
open _root_ renaming Option->F,Nat->H,List->I,Bool->X,Int->Æ,Array->Ê,ByteArray->Ì,False->Ü,DecidableEq->í
open Bool renaming false->J,true->U,and_eq_true->Â,not_eq_true'->Ý,false_eq_true->é
open Go renaming Value->O,World->À,Program->Á,Oper->Å,TypeId->È,Operand->Î,IntKind->Ð,Code->Õ,TypeDesc->Ú,BinOp->ê,ResultVar->ë,Act->ï,TypeInfo->ö
open Go.Result renaming andThen_ok->W
open Decidable renaming decide->Y
open Go.Sem renaming run_bind->Z,run_pure->Ä,run_ite->ã
open Int renaming toNat->Ã,ofNat->Ñ,fdiv->õ
open List renaming replicate->Ç,length->É,getD->Ë,take->Ò,range->Ó,eq_nil_of_length_eq_zero->Ö,length_append->Ù,drop->Û,drop_drop->å,mem_of_mem_take->æ,flatMap_cons->ì,length_cons->î,mem_append->ñ
open Nat renaming beq->Í,blt->ç,zero_add->ô
open Go.Addr renaming add_lit->Ï
open Go.Instr renaming indexAt->Ô,sureAddr->Ø,loadAt->ß,index->ä,fieldAt->è
open Go.Op renaming intCmp->Þ,intArith->â,unary->ø,eqFields->ù,maxDepth->ú,stringOp->û,equalIn->ý,intDiv->ÿ
open Go.Builtin renaming len_->à,min_->ò,max_->ó
noncomputable section
theorem j4{α β:Type _}(a:α)(f:α->F β):(D a).bind f=f a:=rfl
theorem j5{α:Type _}(a b:α):(D a=D b)=(a=b):=Option.some.injEq a b
theorem j6{α:Sort _}{a b:α}:cond U a b=a:=rfl
theorem j7{α:Sort _}{a b:α}:cond J a b=b:=rfl
theorem j8(n:H):Ã (n:Æ)=n:=rfl
theorem j9{α β:Type _}(a:α)(b:β)(c:α)(d:β):((a,b)=(c,d))=(a=c/\b=d):=Prod.mk.injEq a b c d
set_option linter.unusedVariables false
namespace Go.Lft
theorem omg_{p:Prop}(h:p:=by omega):p:=h
theorem smp_{p:Prop}(h:p:=by simp):p:=h
theorem sqo_{p:Prop}(h:p:=by (simp;omega)):p:=h
theorem oLn_{α:Type}(l:I α):Ñ l.length=(l.length:Æ):=rfl
inductive Ty where
 |int (k:Ð)
 |bool
 |str
 |unit
 |wrap (a:Ty)
 |pair (a b:Ty)
 |list (a:Ty)
 |arr (n:H) (a:Ty)
 deriving í
@[reducible] def Ty.den:Ty->Type
 |.int _=>Æ
 |.bool=>X
 |.str=>Ì
 |.unit=>Unit
 |.wrap a=>a.den
 |.pair a b=>a.den×b.den
 |.list a=>I a.den
 |.arr _ a=>I a.den
def Ty.dflt:(t:Ty)->t.den
 |.int _=>(0:Æ)
 |.bool=>J
 |.str=>ByteArray.empty
 |.unit=>()
 |.wrap a=>a.dflt
 |.pair a b=>(a.dflt,b.dflt)
 |.list _=>[]
 |.arr n a=>Ç n a.dflt
def Ty.size:Ty->H
 |.int _|.bool|.str|.list _=>1
 |.unit=>0
 |.wrap a=>a.size
 |.pair a b=>a.size+b.size
 |.arr n a=>n*a.size
def Ty.flat:Ty->X
 |.int _|.bool|.str|.unit=>U
 |.wrap a=>a.flat
 |.pair a b=>a.flat&&b.flat
 |.list _=>J
 |.arr _ a=>a.flat
def Ty.leafy:Ty->X
 |.int _|.bool|.str|.list _=>U
 |_=>J
structure TV where
 t:Ty
 v:t.den
def TV.to(t:Ty)(x:TV):F t.den:=if h:x.t=t then D (h▸x.v) else B
inductive Cap where
 |v (x:TV)
 |p (ls:I TV)
inductive Leaf where
 |dead
 |nil
 |d (t:Ty) (v:t.den)
 |ol (k:H)
 |bp (k:H) (c:H)
 |ep (k:H) (i:H) (c:H)
 |tl (k:H) (i:H)
 |hd (k:H) (i:H)
 |ip (ls:I TV)
 |clo (f:H) (caps:I Cap)
inductive Cel where
 |one (x:Leaf)
 |st (ls:I Leaf)
 |av (n:H) (a:Ty) (xs:I a.den)
inductive Slot where
 |one (c:Cel)
 |tup (l:I Cel)
 |cnd (s:H) (want:X) (c:Cel)
 |und
def j38{α β:Type}[BEq α](xs:I (α×β))(k:α):Bool:=xs.any λx=>k==x.1
def j1x{α β:Type}[BEq α](d:β):I (α×β)->α->β
 |[],_=>d
 |x::r,k=>cond (k==x.1) x.2 (j1x d r k)
def j2Y{α β:Type}[BEq α]:I (α×β)->α->β->I (α×β)
 |[],k,v=>[(k,v)]
 |x::r,k,v=>cond (k==x.1) ((k,v)::r) (x::j2Y r k v)
@[reducible] def Ty.keq:(t:Ty)->BEq t.den
 |.int _=>⟨λ(a b:Æ)=>a==b⟩
 |.str=>⟨λ(a b:Ì)=>a==b⟩
 |_=>⟨λ_ _=>J⟩
def Ty.isKey:Ty->X
 |.int _|.str=>U
 |_=>J
def j39(s:Ì)(i:Æ):Int:=(s.data.getD i.toNat 0).toNat
def isM(e:H):Bool:=Nat.ble 4294967296 e
inductive Bx where
 |cell (ls:I Leaf) (frz:X)
 |lst (e:H) (a:Ty) (xs:I a.den) (frz:X)
 |arr (n:H) (a:Ty) (xs:I a.den)
 |row (e:H) (a:Ty) (n:H) (ls:I Leaf)
inductive BS where
 |free|gone|live (b:Bx)
def mskM(rd:H->BS)(k:H):BS:=match rd k with
 |.live (.lst e a xs f)=>if isM e then .gone else .live (.lst e a xs f)
 |b=>b
structure St where
 sl:H->Slot
 bx:H->BS
def St.setS(σ:St)(i:H)(s:Slot):St:={ σ with sl:=λj=>if j=i then s else σ.sl j }
def St.setB(σ:St)(k:H)(b:BS):St:={ σ with bx:=λj=>if j=k then b else σ.bx j }
inductive Item where
 |s (c:Cel)
 |b (x:BS)
abbrev Snap:=I Item
inductive Arg where
 |v (x:TV)
 |ref (ls:I TV)
 |rl (e:H) (x:TV)
 |ip (ls:I TV)
 |clo (f:H) (caps:I Cap)
 |mv (e:H) (x:TV)
inductive RL where
 |d (x:TV)
 |own (e:H) (x:TV)
inductive SoK where
 |d (t:Ty)
 |own (e:H) (a:Ty)
inductive RV where
 |v (x:TV)
 |own (e:H) (x:TV)
 |box (ls:I TV)
 |hd (n:H)
 |vn (x:TV) (ns:I H)
 |clo (f:H) (caps:I Cap)
 |so (ls:I RL)
 |raw (ns:I H) (s:Snap)
inductive Out where
 |ref (ls:I TV)
 |rl (x:TV)
structure Ret where
 vals:I RV
 outs:I Out
inductive Ex where
 |normal|exit (id:H)|ret
 deriving í
inductive Loc where
 |slot (i:H)
 |cell (k c:H)
 deriving í
structure jin where
 name:H
 e:H
 a:Ty
 locs:I Loc
 frz:X
structure Keep where
 slots:I H
 boxes:I H
 lists:I jin
structure TyI where
 size:H
 agg:X
 ty:F Ty
 flds:I (H×H)
 elem:H
 cmp:I Ty:=[]
 mp:F (H×H):=B
def parK(np k:H):Bool:=Y (k%64=0)&&Y (k/64<np)
structure NT where
 n:H
 pin:H->X
instance(n:H):OfNat NT n:=⟨⟨n,λ_=>J⟩⟩
def NT.ok(N:NT)(d:H):Prop:=d<N.n/\N.pin d=J
inductive Gh where
 |ex (k c n m:H)
 |rl (k:H)
 |da (l:I (Loc×Ty))
structure Env where
 N:NT
 np:H
 T:H->F TyI
 C:H->I Arg->(R:Type)->(Ret->F R)->F R
 modes:H->I X
 L:H->Snap->(R:Type)->(Ex->Snap->F R)->F R
 keep:H->Keep
 keepX:H->Ex->Keep
 ro:I X
 dw:H->I (I H):=λ_=>[]
 nz:Bool:=J
 hd:Bool:=J
 ns:I Nat:=[]
 bw:H->F (X×Ty):=λ_=>B
 so:I SoK:=[]
 un:H->Nat:=λ_=>0
 pre:H->I Gh:=λ_=>[]
 rw:Bool:=J
 rn:I Nat:=[]
 b1:I Nat:=[]
 ks:H->Bool:=λ_=>J
 mvf:H->Bool:=λ_=>J
 mr:H->F (H×H):=λ_=>B
 M:H->Snap->(R:Type)->(Snap->F R)->F R:=λ_ _ _ _=>B
 pa:H->F (H×Ty):=λ_=>B
 sc:Bool:=J
 off:Nat:=0
def Env.offR(E:Env)(r:H):Env:={ E with off:=E.off+16*r }
def Env.off0(E:Env):Env:={ E with off:=0 }
def insI(x:Æ):I Æ->I Æ
 |[]=>[x]
 |y::ys=>cond (Y (x<=y)) (x::y::ys) (y::insI x ys)
def jeC:I Æ->I Æ
 |[]=>[]
 |x::xs=>insI x (jeC xs)
def job{β:Type}(xs:I (Æ×β)):Bool:=Nat.ble xs.length 1000000&&xs.all λx=>Y (-9223372036854775808<=x.1)&&Y (x.1<=9223372036854775807)
def jdb{β:Type}(xs:I (Æ×β)):I Int:=jeC (xs.map λx=>x.1)
def jBG:(a:Ty)->I a.den->F (X×I Æ)
 |.pair (.int .i64) _,xs=>D (job xs,jdb xs)
 |_,_=>B
def jpO:O->Leaf
 |.int k n=> .d (.int k) n
 |.bool b=> .d .bool b
 |.string s=> .d .str s
 |.slice B 0 0=> .nil
 |_=> .dead
def St.ev(σ:St):Î->Slot
 |.tmp t=>σ.sl t
 |.const v=> .one (.one (jpO v))
 |.func f=> .one (.one (.clo f []))
 |.global _=> .one (.one .dead)
def ja3(ops:Ê Å)(o:Å):F (H×X):=
 match o.guard with
 |none=>B
 |some (j,w)=>match ops[j]? with
  |some oj=>match oj.dst with
   |some s=>D (s,w)
   |none=>B
  |none=>B
def St.chain(σ:St):H->H×X->I (H×X)
 |0,g=>[g]
 |n+1,g=>match σ.sl g.1 with
  |.cnd s w _=>g::σ.chain n (s,w)
  |_=>[g]
def Slot.cel(act:I (H×X)):Slot->Cel
 |.one c=>c
 |.tup _=> .one .dead
 |.und=> .one .dead
 |.cnd s w c=>if act.contains (s,w) then c else .one .dead
abbrev Ups:=I (H×BS)
def scat:(t:Ty)->t.den->I TV
 |.unit,_=>[]
 |.wrap a,v=>scat a v
 |.pair a b,v=>scat a v.1++scat b v.2
 |.arr n a,v=>(Ó n).flatMap λi=>scat a (Ë v i a.dflt)
 |t,v=>[⟨t,v⟩]
def TV.leaf(x:TV):Leaf:= .d x.t x.v
def jhg:Ty->I Leaf
 |.unit=>[]
 |.wrap a=>jhg a
 |.pair a b=>jhg a++jhg b
 |.arr n a=>(Ó n).flatMap λ_=>jhg a
 |.list _=>[.nil]
 |t=>[.d t t.dflt]
def hdr:(t:Ty)->H->F t.den
 |.list .unit,n=>D (Ç n ())
 |_,_=>B
def lenL(rd:H->BS):Leaf->F H
 |.d (.list .unit) _=>B
 |.d (.list _) xs=>D (É xs)
 |.ol k=>match rd k with
  |.live (.lst _ _ xs _)=>D xs.length
  |.live (.row _ _ n _)=>D n
  |_=>B
 |_=>B
def jlK(rd:H->BS)(t:Ty)(l:Leaf):F t.den:=match lenL rd l with
 |some n=>hdr t n
 |none=>B
def jb5(rd:H->BS)(t:Ty):Leaf->F (t.den×Ups)
 |.d t' v=>match (TV.mk t' v).to t with
  |some v'=>D (v',[])
  |none=>B
 |.nil=>match t with
  |.list _=>D ([],[])
  |_=>B
 |.ol k=>match rd k with
  |.live (.lst e a xs _)=>match (TV.mk (.list a) xs).to t with
   |some v'=>D (v',[(k,.live (.lst e a xs U))])
   |none=>B
  |_=>B
 |_=>B
def jeU(rd:H->BS)(t:Ty)(l:Leaf):F (t.den×Ups):=match jlK rd t l with
 |some v=>D (v,[])
 |none=>jb5 rd t l
def gath(rd:H->BS):(t:Ty)->I Leaf->F (t.den×I Leaf×Ups)
 |.unit,ls=>D ((),ls,[])
 |.wrap a,ls=>match gath rd a ls with
  |some (x,r,u)=>D (x,r,u)
  |none=>B
 |.pair a b,ls=>match gath rd a ls with
  |some (x,r,u)=>match gath rd b r with
   |some (y,r',u')=>D ((x,y),r',u++u')
   |none=>B
  |none=>B
 |.arr _ _,_=>B
 |t,l::ls=>match jeU rd t l with
  |some (v,u)=>D (v,ls,u)
  |none=>B
 |_,[]=>B
def Ty.agg:Ty->X
 |.unit|.wrap _|.pair _ _=>U
 |_=>J
def jeD(rd:H->BS)(t:Ty):Cel->F (t.den×Ups)
 |.one l=>if t.agg then B else match gath rd t [l]with
  |some (v,[],u)=>D (v,u)
  |_=>B
 |.st ls=>if t.agg then match gath rd t ls with
  |some (v,[],u)=>D (v,u)
  |_=>B
  else B
 |.av n a xs=>match (TV.mk (.arr n a) xs).to t with
  |some v=>D (v,[])
  |none=>B
def jcs:(t:Ty)->t.den->Cel
 |.arr n a,v=> .av n a v
 |t,v=>if t.agg then .st ((scat t v).map TV.leaf) else .one (.d t v)
def Cel.leaves:Cel->F (I Leaf)
 |.one .dead=>B
 |.one l=>D [l]
 |.st ls=>D ls
 |.av n (.list b) ys=>D ((Ó n).map λi=> .d (.list b) (Ë ys i []))
 |.av _ _ _=>B
def cmpI(op:ê)(x y:Æ):F Bool:=
 match op with
 |.eql=>D (x==y)
 |.neq=>D (x != y)
 |.lss=>D (Y (x<y))
 |.leq=>D (Y (x<=y))
 |.gtr=>D (Y (x>y))
 |.geq=>D (Y (x>=y))
 |_=>B
def eqT:TV->TV->F X
 |⟨.int k,x⟩,⟨.int k',y⟩=>if k=k' then D ((show Æ from x)==(show Æ from y)) else B
 |⟨.bool,x⟩,⟨.bool,y⟩=>D ((show X from x)==(show X from y))
 |⟨.str,x⟩,⟨.str,y⟩=>D ((show Ì from x).toList==(show Ì from y).toList)
 |_,_=>B
def eqL:I Ty->I Leaf->I Leaf->F X
 |[],[],[]=>D U
 |k::ks,.d t x::l,.d t' y::l'=>if t=k/\t'=k then match eqT ⟨t,x⟩ ⟨t',y⟩with
  |some b=>match ks with
   |[]=>match l,l' with
    |[],[]=>D b
    |_,_=>B
   |ks=>match eqL ks l l' with
    |some b'=>D (b&&b')
    |none=>B
  |none=>B
  else B
 |_,_,_=>B
def binI(op:ê)(k:Ð)(x y:Æ):F (X×Leaf):=
 match op with
 |.add=>D (U,.d (.int k) (k.wrap (x+y)))
 |.sub=>D (U,.d (.int k) (k.wrap (x-y)))
 |.mul=>D (U,.d (.int k) (k.wrap (x*y)))
 |.quo=>D (!(y==0),.d (.int k) (k.wrap (x.tdiv y)))
 |.rem=>D (!(y==0),.d (.int k) (x.tmod y))
 |.shr=>if Y ((0:Æ)<=y) then D (U,.d (.int k) (õ x (2^min (Ã y) k.bits))) else B
 |.and|.or|.xor|.andNot|.shl=>B
 |op=>match cmpI op x y with
  |some b=>D (U,.d .bool b)
  |none=>B
def jz3(ti:F TyI):Bool:=match ti with
 |some t=>Y (t.ty=D .bool)
 |none=>J
def joc(ti:F TyI):I Ty:=match ti with
 |some t=>t.cmp
 |none=>[]
def binC(ti:F TyI)(op:ê):Cel->Cel->F (X×Leaf)
 |.one (.d (.int k) x),.one (.d (.int k') y)=>if k=k' then binI op k x y else
  match op with
  |.shr=>if Y ((0:Æ)<=y) then D (U,.d (.int k) (õ x (2^min (Ã y) k.bits))) else B
  |_=>B
 |.one (.d .bool x),.one (.d .bool y)=>if jz3 ti then match op with
  |.eql=>D (U,.d .bool ((show X from x)==(show X from y)))
  |.neq=>D (U,.d .bool (!((show X from x)==(show X from y))))
  |_=>B
  else B
 |.one (.d .str x),.one (.d .str y)=>match op with
  |.eql=>D (U,.d .bool ((show Ì from x).toList==(show Ì from y).toList))
  |.neq=>D (U,.d .bool (!((show Ì from x).toList==(show Ì from y).toList)))
  |_=>B
 |.st l,.st l'=>if (joc ti).isEmpty then B else match op with
  |.eql=>match eqL (joc ti) l l' with
   |some b=>D (U,.d .bool b)
   |none=>B
  |.neq=>match eqL (joc ti) l l' with
   |some b=>D (U,.d .bool (!b))
   |none=>B
  |_=>B
 |_,_=>B
def unC(op:UnOp):Cel->F Leaf
 |.one (.d .bool x)=>match op with
  |.not=>D (.d .bool (!(show X from x)))
  |_=>B
 |.one (.d (.int k) x)=>match op with
  |.neg=>D (.d (.int k) (k.wrap (0-(show Æ from x))))
  |_=>B
 |_=>B
def jlL(ti:TyI)(ls:I Leaf):F Cel:=
 if ti.agg then (if ls.length=ti.size then D (.st ls) else B)
 else match ls with
  |[l]=>D (.one l)
  |_=>B
def jio(rd:H->BS)(ti:TyI):Leaf->F Cel
 |.bp k c=>match rd k with
  |.live (.cell ls _)=>jlL ti ((ls.drop c).take ti.size)
  |.live (.arr n a xs)=>if c=0/\ti.ty=D (.arr n a) then D (.av n a xs) else B
  |_=>B
 |.ep k i c=>match rd k with
  |.live (.lst e a xs _)=>jlL ti ((((scat a (Ë xs i a.dflt)).map TV.leaf).drop c).take ti.size)
  |.live (.arr _ a xs)=>jlL ti ((((scat a (Ë xs i a.dflt)).map TV.leaf).drop c).take ti.size)
  |.live (.row _ a _ ls)=>if c+ti.size<=a.size then jlL ti ((ls.drop (i*a.size+c)).take ti.size) else B
  |_=>B
 |.ip ls=>jlL ti ((ls.map TV.leaf).take ti.size)
 |_=>B
def jdk(ls:I Leaf)(c:H)(new:I Leaf):I Leaf:=ls.take c++new++ls.drop (c+new.length)
def jje(rd rdf:H->BS)(sz:H)(val:Cel):Leaf->F Ups
 |.bp k c=>match rd k with
  |.live (.cell ls J)=>match val.leaves with
   |some new=>if new.length=sz/\c+new.length<=ls.length then D [(k,.live (.cell (jdk ls c new) J))] else B
   |none=>B
  |.live (.arr n a _)=>if c=0 then match val with
    |.av n' a' ys=>match (TV.mk (.arr n' a') ys).to (.arr n a) with
     |some ys'=>if sz=n*a.size then D [(k,.live (.arr n a ys'))] else B
     |none=>B
    |_=>B
   else B
  |_=>B
 |.ep k i c=>match rd k with
  |.live (.lst el a xs J)=>match val.leaves with
   |some new=>if new.length=sz/\c+new.length<=a.size then match gath rdf a (jdk ((scat a (Ë xs i a.dflt)).map TV.leaf) c new) with
    |some (e,[],u)=>if u.any (λy=>y.1==k) then B else D (u++[(k,.live (.lst el a (List.set xs i e) J))])
    |_=>B
    else B
   |none=>B
  |.live (.arr n a xs)=>match val.leaves with
   |some new=>if new.length=sz/\c+new.length<=a.size then match gath rdf a (jdk ((scat a (Ë xs i a.dflt)).map TV.leaf) c new) with
    |some (e,[],u)=>if u.any (λy=>y.1==k) then B else D (u++[(k,.live (.arr n a (List.set xs i e)))])
    |_=>B
    else B
   |none=>B
  |.live (.row e a n ls)=>match val.leaves with
   |some new=>if new.length=sz/\c+new.length<=a.size then D [(k,.live (.row e a n (jdk ls (i*a.size+c) new)))] else B
   |none=>B
  |_=>B
 |_=>B
def isLive:BS->X
 |.live _=>U
 |_=>J
def jeE(rd:H->BS)(ti:TyI)(i:H):Leaf->F Leaf
 |.bp k c=>match ti.flds[i]? with
  |some f=>if isLive (rd k) then D (.bp k (c+f.1)) else B
  |none=>B
 |.ep k j c=>match ti.flds[i]? with
  |some f=>if isLive (rd k) then D (.ep k j (c+f.1)) else B
  |none=>B
 |.ip ls=>match ti.flds[i]? with
  |some f=>D (.ip (ls.drop f.1))
  |none=>B
 |_=>B
def jct(t:F Ty):Bool:=match t with
 |some (.list _)=>U
 |_=>J
def jmT(rd:H->BS)(a:Ty):I Leaf->F (I a.den×Ups)
 |[]=>D ([],[])
 |l::ls=>match jeU rd a l,jmT rd a ls with
  |some (x,u),D (xs,v)=>D (x::xs,u++v)
  |_,_=>B
def jhh(rd:H->BS)(t:F Ty):Leaf->F (H×Ty×I Leaf)
 |.bp k 0=>match t with
  |some (.arr m a)=>if jct (D a) then match rd k with
   |.live (.cell ls J)=>D (m,a,ls)
   |_=>B
   else B
  |_=>B
 |_=>B
def inR(i:Æ)(n:H):Bool:=Y (0<=i)&&Y (i<(n:Æ))
def jhi(rd:H->BS)(ti:TyI):Leaf->Leaf->F (X×Leaf)
 |.ol k,.d (.int _) i=>match rd k with
  |.live (.lst e a xs _)=>if ti.ty=D (.list a) then D (inR i xs.length,.ep k (Ã i) 0) else B
  |.live (.row _ a n _)=>if ti.ty=D (.list a) then D (inR i n,.ep k (cond (Í n 1) 0 (Ã i)) 0) else B
  |_=>B
 |.d (.list a) xs,.d (.int _) i=>if ti.ty=D (.list a) then D (inR i (É xs),.ip (scat a (Ë xs (Ã i) a.dflt))) else B
 |.bp k 0,.d (.int _) i=>match rd k with
  |.live (.arr n a _)=>if ti.ty=D (.arr n a) then D (inR i n,.ep k (Ã i) 0) else B
  |.live (.cell _ _)=>match ti.ty with
   |some (.arr n a)=>if jct (D a) then D (inR i n,.bp k (Ã i)) else B
   |_=>B
  |_=>B
 |.tl k j,.d (.int _) i=>match rd k with
  |.live (.lst e a xs _)=>if ti.ty=D (.list a) then D (inR i (xs.length-j),.ep k (j+Ã i) 0) else B
  |_=>B
 |_,_=>B
def idxV(ti:TyI):Cel->Leaf->F (X×Cel)
 |.av n a xs,.d (.int _) i=>if ti.ty=D (.arr n a) then D (inR i n,jcs a (Ë xs (Ã i) a.dflt)) else B
 |.one (.d .str s),.d (.int _) i=>if ti.ty=D .str then D (inR i s.size,.one (.d (.int .u8) (j39 s i))) else B
 |_,_=>B
def jm7(ti:TyI)(sz:H->F H):I Leaf->I (H×Cel)->F (I Leaf)
 |ls,[]=>D ls
 |ls,(i,c)::r=>match ti.flds[i]? with
  |some f=>match c.leaves with
   |some new=>if sz f.2=D new.length/\f.1+new.length<=ls.length then jm7 ti sz (jdk ls f.1 new) r else B
   |none=>B
  |none=>B
def j9P(rd:H->BS)(a:Ty):I a.den->Ups->I (H×Cel)->F (I a.den×Ups)
 |xs,u,[]=>D (xs,u)
 |xs,u,(i,c)::r=>match jeD rd a c with
  |some (x,u')=>if i<xs.length then j9P rd a (xs.set i x) (u++u') r else B
  |none=>B
def lenC(rd:H->BS)(t:F Ty):Leaf->F Leaf
 |.nil=>if jct t then D (.d (.int .i64) (0:Æ)) else B
 |.ol k=>match rd k with
  |.live (.lst _ _ xs _)=>if jct t then D (.d (.int .i64) (xs.length:Æ)) else B
  |.live (.row _ _ n _)=>if jct t then D (.d (.int .i64) (n:Æ)) else B
  |_=>B
 |.d (.list _) xs=>if jct t then D (.d (.int .i64) ((É xs:H):Æ)) else B
 |.d .str s=>if t=D .str then D (.d (.int .i64) ((ByteArray.size s:H):Æ)) else B
 |.tl k j=>match rd k with
  |.live (.lst _ _ xs _)=>if jct t then D (.d (.int .i64) ((xs.length-j:H):Æ)) else B
  |_=>B
 |.hd k i=>match rd k with
  |.live (.lst _ _ _ _)=>if jct t then D (.d (.int .i64) (i:Æ)) else B
  |_=>B
 |_=>B
def minC:I Cel->F Leaf
 |[.one (.d (.int k) x),.one (.d (.int k') y)]=>if k=k' then D (.d (.int k) (if (show Æ from y)<x then y else x:Æ)) else B
 |_=>B
def maxC:I Cel->F Leaf
 |[.one (.d (.int k) x),.one (.d (.int k') y)]=>if k=k' then D (.d (.int k) (if (show Æ from y)>x then y else x:Æ)) else B
 |_=>B
def j6s:BS->X
 |.free=>U
 |_=>J
def j02:Nat:=4294967296
def appS(rd:H->BS)(e:H)(a:Ty):Leaf->F (I a.den×X×Ups)
 |.ol k=>match rd k with
  |.live (.lst e' a' xs frz)=>match (TV.mk (.list a') xs).to (.list a) with
   |some xs'=>if e'=e then D (xs',frz,[(k,.gone)]) else B
   |none=>B
  |_=>B
 |.nil=>D ([],J,[])
 |_=>B
def appX(rd:H->BS)(a:Ty):Leaf->F (I a.den)
 |.ol k=>match rd k with
  |.live (.lst _ a' xs _)=>(TV.mk (.list a') xs).to (.list a)
  |_=>B
 |.d t xs=>(TV.mk t xs).to (.list a)
 |.nil=>D []
 |.tl k j=>match rd k with
  |.live (.lst _ a' xs _)=>match (TV.mk (.list a') xs).to (.list a) with
   |some xs'=>D (Û j xs')
   |none=>B
  |_=>B
 |_=>B
def bnd(d:H):F Leaf->F Æ
 |none=>D d
 |some (.d (.int _) i)=>D i
 |some _=>B
def jm8(par:H->X)(rd:H->BS)(ti:TyI)(n:H)(x:Leaf)(lo hi:F Leaf):F (X×Leaf×Ups):=
 match x with
 |.d (.list a) xs=>if ti.ty=D (.list a) then match bnd 0 lo,bnd (É xs) hi with
  |some i,D j=>D (Y (0<=i)&&(Y (i<=j)&&Y (j<=(É xs:Æ))),.d (.list a) (Û (Ã i) (Ò (Ã j) xs)),[])
  |_,_=>B
  else B
 |.ol k=>match hi with
  |none=>match rd k with
   |.live (.lst _ a xs _)=>if ti.ty=D (.list a) then match bnd 0 lo with
    |some i=>D (Y (0<=i)&&Y (i<=(xs.length:Æ)),.tl k (Ã i),[])
    |none=>B
    else B
   |_=>B
  |some _=>match rd k with
   |.live (.lst e a xs f)=>if ti.ty=D (.list a) then match bnd 0 lo,bnd xs.length hi with
    |some i,D j=>if par k then
      (if lo.isNone then D (Y (0<=j)&&Y (j<=(xs.length:Æ)),.hd k (Ã j),[]) else B)
     else if lo.isNone && !f then
      (if j6s (rd n) then D (Y (0<=j)&&Y (j<=(xs.length:Æ)),.ol n,[(k,.gone),(n,.live (.lst e a (Ò (Ã j) xs) J))]) else B)
     else D (Y (0<=i)&&(Y (i<=j)&&Y (j<=(xs.length:Æ))),.d (.list a) (Û (Ã i) (Ò (Ã j) xs)),[(k,.live (.lst e a xs U))])
    |_,_=>B
    else B
   |_=>B
 |.hd k _=>match rd k with
  |.live (.lst _ a xs _)=>if ti.ty=D (.list a)/\hi.isSome=U then match bnd 0 lo,bnd 0 hi with
   |some i,D j=>D (Y (0<=i)&&(Y (i<=j)&&Y (j=(xs.length:Æ))),.tl k (Ã i),[])
   |_,_=>B
   else B
  |_=>B
 |_=>B
def jm9(rd:H->BS)(ti:TyI)(x:Leaf)(lo hi:F Leaf)(mx:Leaf):F Bool:=
 match x,lo,hi,mx with
 |.ol k,D (.d (.int _) i),D (.d (.int _) j),.d (.int _) m=>match rd k with
  |.live (.lst _ a xs _)=>if ti.ty=D (.list a) then D (Y ((0:Æ)<=i)&&(Y ((show Æ from i)<=j)&&(Y ((show Æ from j)<=m)&&Y (m<=(xs.length:Æ))))) else B
  |_=>B
 |_,_,_,_=>B
def appH(rd:H->BS)(el:H)(a:Ty)(s x:Leaf):F (X×Leaf×Ups):=
 match s,x with
 |.hd k i,.tl k' j=>if k=k' then match rd k with
  |.live (.lst e b xs J)=>if b=a/\e=el then D (Y (i<=j),.hd k (i+(xs.length-j)),[(k,.live (.lst e b (Ò i xs++(Û j xs++Û (i+(xs.length-j)) xs)) J))]) else B
  |_=>B
  else B
 |_,_=>B
def jrq:Leaf->F (H×H)
 |.ol k=>D (k,0)
 |.tl k i=>D (k,i)
 |_=>B
def over{α:Type}(xs:I α)(i:H)(ys:I α):I α:=Ò i xs++(Ò (xs.length-i) ys++Û (i+ys.length) xs)
def jsA(rd:H->BS)(t:F Ty)(x y:Leaf):F (Leaf×Ups):=
 match jrq x with
 |some (k,i)=>match rd k with
  |.live (.lst e a xs J)=>if t=D (.list a) then match appX rd a y with
   |some ys=>D (.d (.int .i64) ((min ys.length (xs.length-i):H):Æ),[(k,.live (.lst e a (over xs i ys) J))])
   |none=>B
   else B
  |_=>B
 |none=>B
def jma(rd:H->BS)(t:F Ty)(x:Leaf):F Ups:=
 match jrq x with
 |some (k,i)=>match rd k with
  |.live (.lst e a xs J)=>if t=D (.list a) then D [(k,.live (.lst e a (Ò i xs++Ç (xs.length-i) a.dflt) J))] else B
  |_=>B
 |none=>B
inductive Act where
 |val (chk:X) (s:Slot) (ups:Ups)
 |call (f:H) (args:I Arg) (mk:Ret->F (Slot×Ups))
def Act.leaf(x:Leaf):Act:= .val U (.one (.one x)) []
def Act.cel(x:Cel):Act:= .val U (.one x) []
def jgD(x:F Leaf):F Act:=match x with
 |some c=>D (.leaf c)
 |none=>B
def oCel(x:F Cel):F Act:=match x with
 |some c=>D (.cel c)
 |none=>B
def oChk(x:F (X×Leaf)):F Act:=match x with
 |some (b,c)=>D (.val b (.one (.one c)) [])
 |none=>B
def tvs(rd:H->BS):I Leaf->F (I TV×Ups)
 |[]=>D ([],[])
 |l::ls=>match tvs rd ls with
  |some (xs,u)=>match l with
   |.d t v=>D (⟨t,v⟩::xs,u)
   |.ol k=>match rd k with
    |.live (.lst e a es _)=>D (⟨.list a,es⟩::xs,(k,.live (.lst e a es U))::u)
    |_=>B
   |_=>B
  |none=>B
def jod(rd:H->BS):I Cel->F (I Cap×Ups)
 |[]=>D ([],[])
 |c::r=>match jod rd r with
  |some (l,u)=>match c with
   |.one (.d t v)=>if t.leafy then D (.v ⟨t,v⟩::l,u) else B
   |.one (.bp k 0)=>match rd k with
    |.live (.cell ls _)=>match tvs rd ls with
     |some (xs,u')=>if (u++u').any (λy=>y.1==k) then B else D (.p xs::l,(u++u')++[(k,.live (.cell (xs.map TV.leaf) U))])
     |none=>B
    |_=>B
   |_=>B
  |none=>B
inductive Bk where
 |ref (k:H)
 |rl (k e:H) (a:Ty)
 |mv (k e:H) (a:Ty)
def Bk.name:Bk->H
 |.ref k=>k
 |.rl k _ _=>k
 |.mv k _ _=>k
def Bk.isMv:Bk->X
 |.mv _ _ _=>U
 |_=>J
def joe(rd rdf:H->BS)(t:F TyI)(mv rl:X)(c:Cel):F (Arg×Ups×F Bk):=
 match c with
 |.one (.bp k 0)=>match rd k with
  |.live (.cell ls U)=>match tvs rdf ls with
   |some (xs,u)=>D (.ip xs,u,B)
   |none=>B
  |.live (.cell ls J)=>match tvs rdf ls with
   |some (xs,u)=>D (.ref xs,u,D (.ref k))
   |none=>B
  |_=>B
 |.one (.ip ls)=>D (.ip ls,[],B)
 |.one (.clo f caps)=>D (.clo f caps,[],B)
 |.one (.ol k)=>match rl with
  |true=>cond mv (match rdf k with
   |.live (.lst e a xs J)=>D (.mv e ⟨.list a,xs⟩,[],D (.mv k e a))
   |_=>B) (match rd k with
   |.live (.lst e a xs J)=>D (.rl e ⟨.list a,xs⟩,[],D (.rl k e a))
   |_=>B)
  |false=>match rdf k with
   |.live (.lst e a xs _)=>D (.v ⟨.list a,xs⟩,[(k,.live (.lst e a xs U))],B)
   |_=>B
 |c=>match t with
  |some ti=>match ti.ty with
   |some ty=>match jeD rdf ty c with
    |some (x,u)=>D (.v ⟨ty,x⟩,u,B)
    |none=>B
   |none=>B
  |none=>B
def jeF(rd rdf:H->BS)(T:H->F TyI)(mv:X):I H->I X->I Cel->F (I Arg×Ups×I Bk)
 |_,_,[]=>D ([],[],[])
 |ts,ms,c::r=>match joe rd rdf (ts.head?.bind T) mv (ms.headD J) c with
  |some (a,u,f)=>match jeF rd rdf T mv ts.tail ms.tail r with
   |some (as,us,fs)=>D (a::as,u++us,f.toList++fs)
   |none=>B
  |none=>B
def jeG:Cap->Arg
 |.v x=> .v x
 |.p ls=> .ip ls
def jxr:Bk->Out->F (H×BS)
 |.ref k,.ref ys=>D (k,.live (.cell (ys.map TV.leaf) J))
 |.rl k e a,.rl y=>match y.to (.list a) with
  |some ys=>D (k,.live (.lst e a ys J))
  |none=>B
 |_,_=>B
def jar:I Bk->I Out->F Ups
 |[],[]=>D []
 |.mv k _ _::fs,xs=>match jar fs xs with
  |some u=>D ((k,.gone)::u)
  |none=>B
 |f::fs,x::xs=>match jxr f x with
  |some y=>match jar fs xs with
   |some u=>D (y::u)
   |none=>B
  |none=>B
 |_,_=>B
def jbG:I H->X
 |[]=>U
 |x::xs=> !xs.contains x&&jbG xs
def bkOk(us:Ups)(fs:I Bk):Bool:=jbG (fs.map Bk.name)&&us.all λx=> !(fs.map Bk.name).contains x.1
def soL:H->I RL->F (I Leaf×Ups)
 |_,[]=>D ([],[])
 |n,.d x::r=>match soL (n+1) r with
  |some (l,u)=>D (.d x.t x.v::l,u)
  |none=>B
 |n,.own e ⟨.list a,xs⟩::r=>match soL (n+1) r with
  |some (l,u)=>D (.ol n::l,(n,.live (.lst e a xs J))::u)
  |none=>B
 |_,.own _ _::_=>B
def jxs(n:H):RV->F (Cel×Ups)
 |.v x=>D (jcs x.t x.v,[])
 |.own e ⟨.list a,xs⟩=>D (.one (.ol n),[(n,.live (.lst e a xs J))])
 |.own _ _=>B
 |.box ls=>D (.one (.bp n 0),[(n,.live (.cell (ls.map TV.leaf) J))])
 |.hd _=>B
 |.vn x ns=>match jcs x.t x.v with
  |.st ls=>D (.st (ls.zipIdx.map λy=>if ns.contains y.2 then .nil else y.1),[])
  |c=>D (c,[])
 |.clo f caps=>D (.one (.clo f caps),[])
 |.so ls=>match soL n ls with
  |some (l,u)=>D (.st l,u)
  |none=>B
 |.raw _ _=>B
def rvW:RV->H
 |.so ls=>ls.length
 |_=>1
def jjf:H->I RV->F (I Cel×Ups)
 |_,[]=>D ([],[])
 |n,r::rs=>match jxs n r with
  |some (c,u)=>match jjf (n+rvW r) rs with
   |some (cs,us)=>D (c::cs,u++us)
   |none=>B
  |none=>B
def RV.flat:RV->X
 |.v x=>x.t.flat
 |.own _ x=>match x.t with
  |.list a=>a.flat
  |_=>J
 |.box _=>J
 |.hd _=>J
 |.vn _ _=>J
 |.clo _ _=>J
 |.so _=>J
 |.raw _ _=>J
def Out.flat:Out->X
 |.ref ls=>ls.all λx=>x.t.flat
 |.rl x=>x.t.flat
def mkHd(rd rdf:H->BS)(n:H)(us:Ups)(fs:I Bk)(m:H)(os:I Out):F (Slot×Ups):=
 match fs,os with
 |.rl k e a::_,.rl y::_=>match jar fs os,y.to (.list a) with
  |some uo,D ys=>if j6s (rd n)&&isLive (rdf k) then D (.one (.one (.ol n)),us++uo++[(k,.gone),(n,.live (.lst e a (Ò m ys) J))]) else B
  |_,_=>B
 |_,_=>B
def itC:Item->Cel
 |.s c=>c
 |.b _=> .one .dead
def itX:Item->BS
 |.b x=>x
 |.s _=> .gone
def rawC(ns:I H)(s:Snap):I Cel:=(s.take (s.length-ns.length)).map itC
def rawU(ns:I H)(s:Snap):Ups:=ns.zip ((s.drop (s.length-ns.length)).map itX)
def jhj:I Cel->Slot
 |[c]=> .one c
 |cs=> .tup cs
def jxt(rd:H->BS)(us:Ups)(fs:I Bk)(ns:I H)(s:Snap)(os:I Out):F (Slot×Ups):=
 match fs,os with
 |[],[]=>if jbG ns&&ns.all (λk=>j6s (rd k)) then D (jhj (rawC ns s),us++rawU ns s) else B
 |_,_=>B
def jpP(rd rdf:H->BS)(n:H)(us:Ups)(fs:I Bk)(r:Ret):F (Slot×Ups):=
 match r.vals with
 |[.hd m]=>mkHd rd rdf n us fs m r.outs
 |[.raw ns s]=>jxt rd us fs ns s r.outs
 |_=>match jar fs r.outs with
 |some uo=>match jjf n r.vals with
  |some (cs,un)=>
   if un.all (λe=>j6s (rd e.1)) then
    let u:=(if r.vals.all RV.flat&&r.outs.all Out.flat then [] else us)++uo++un
    match cs with
    |[c]=>D (.one c,u)
    |cs=>D (.tup cs,u)
   else B
  |none=>B
 |none=>B
def one1(fr:X)(e:H)(a:Ty)(n len:H):I (H×Cel)->F Act
 |[(0,c)]=>match c.leaves with
  |some ls=>if len=1/\ls.length=a.size/\a.size<=16777216/\fr=U/\isM e=J then D (.val U (.one (.one (.ol n))) [(n,.live (.row e a 1 ls))]) else B
  |none=>B
 |_=>B
def rowS(rdf:H->BS)(e:H)(a:Ty):Leaf->F (H×I Leaf×Ups)
 |.nil=>D (0,[],[])
 |.ol k=>match rdf k with
  |.live (.row e' a' m ls)=>if e'=e/\a'=a then D (m,ls,[(k,.gone)]) else B
  |_=>B
 |_=>B
def appN(rd rdf:H->BS)(e:H)(a:Ty)(n:H)(s x:Leaf):F (Leaf×Ups):=
 match x with
 |.ol k=>match rdf k with
  |.live (.row e' a' m ls)=>match rowS rdf e a s with
   |some (m0,ls0,u)=>if (e'=e/\a'=a)/\u.any (λy=>y.1==k)=J/\m0+m<=1000/\j6s (rd n)=U then D (.ol n,u++[(k,.gone),(n,.live (.row e a (m0+m) (ls0++ls)))]) else B
   |none=>B
  |_=>B
 |_=>B
def lf(c:Cel):Leaf:=match c with|.one y=>y|_=> .dead
def jxu(x:Î)(b:X)(act:I (H×X)):I (H×X):=match x with
 |.tmp s=>(s,b)::act
 |_=>act
def jk6(T:H->F TyI)(t:H):F (Ty×Ty):=match T t with
 |some ti=>match ti.mp with
  |some (k,v)=>match T k,T v with
   |some tk,D tv=>match tk.ty,tv.ty with
    |some k,D v=>if k.isKey then D (k,v) else B
    |_,_=>B
   |_,_=>B
  |none=>B
 |none=>B
def mapC(rw:H->BS)(t:H)(k v:Ty)(x y:Leaf):F (H×I (k.den×v.den)×k.den):=match x,y with
 |.ol b,.d tk key=>match rw b with
  |.live (.lst e a xs J)=>if e=4294967296+t then match (TV.mk (.list a) xs).to (.list (.pair k v)),(TV.mk tk key).to k with
    |some ys,D q=>D (b,ys,q)
    |_,_=>B
   else B
  |_=>B
 |_,_=>B
def Env.ta(E:Env)(g:H):H->F TyI:=match E.pa g with
 |none=>E.T
 |some (t,ty)=>λn=>if n=t then (match E.T n with
  |some ti=>D { ti with ty:=D ty }
  |none=>B) else E.T n
def j5h(E:Env)(ev:Î->Slot)(rw:H->BS)(act:I (H×X))(o:Å):F Act:=
 let rd:=mskM rw
 let c (x:Î):Cel:=(ev x).cel act
 let l (x:Î):Leaf:=lf (c x)
 let n:=(o.dst.getD 0)*64+E.off
 let rdf (k:H):BS:=if parK E.np k then .gone else rd k
 match o.op with
 |.move x|.assign x=>match ev x with
  |.tup l=>D (.val U (.tup l) [])
  |s=>D (.cel (s.cel act))
 |.pick x a b=>match l x with
  |.d .bool v=>
   match (ev a).cel (jxu x U act),(ev b).cel (jxu x J act) with
   |.one (.d t p),.one (.d t' q)=>match (TV.mk t' q).to t with
    |some q'=>D (.leaf (.d t (cond v p q')))
    |none=>B
   |.one (.d t p),.one .dead=>D (.val v (.one (.one (.d t p))) [])
   |.one .dead,.one (.d t q)=>D (.val (!(show X from v)) (.one (.one (.d t q))) [])
   |_,_=>B
  |_=>B
 |.alloc t=>match E.T t with
  |some ti=>if j6s (rd n) then match ti.ty with
    |some (.arr k a)=>if jct (D a) then D (.val U (.one (.one (.bp n 0))) [(n,.live (.cell (jhg (.arr k a)) J))]) else D (.val U (.one (.one (.bp n 0))) [(n,.live (.arr k a (Ç k a.dflt)))])
    |some ty=>D (.val U (.one (.one (.bp n 0))) [(n,.live (.cell (jhg ty) J))])
    |none=>B
   else B
  |none=>B
 |.box _ x=>if j6s (rd n) then match c x with
   |.av k a xs=>D (.val U (.one (.one (.bp n 0))) [(n,.live (.arr k a xs))])
   |v=>match v.leaves with
    |some ls=>D (.val U (.one (.one (.bp n 0))) [(n,.live (.cell ls J))])
    |none=>B
  else B
 |.build t ps=>match E.T t with
  |some ti=>match ti.ty with
   |some (.arr k a)=>if jct (D a)&&ps.toList.isEmpty then D (.cel (.st (jhg (.arr k a)))) else match j9P rdf a (Ç k a.dflt) [] (ps.toList.map λp=>(p.1,c p.2)) with
    |some (xs,u)=>D (.val U (.one (.av k a xs)) u)
    |none=>B
   |some ty=>if ty.agg then match jm7 ti (λt=>(E.T t).map (·.size)) (jhg ty) (ps.toList.map λp=>(p.1,c p.2)) with
    |some ls=>D (.cel (.st ls))
    |none=>B
    else B
   |none=>B
  |none=>B
 |.buildSlice t len ps=>match E.T t with
  |some ti=>match ti.ty with
   |some (.list a)=>if E.b1.contains (o.dst.getD 0) then one1 (j6s (rd n)) ti.elem a n len (ps.toList.map λp=>(p.1,c p.2)) else if 16777216<len*a.size then B else match j9P rdf a (Ç len a.dflt) [] (ps.toList.map λp=>(p.1,c p.2)) with
    |some (xs,u)=>if j6s (rd n) then D (.val U (.one (.one (.ol n))) (u++[(n,.live (.lst ti.elem a xs J))])) else B
    |none=>B
   |_=>B
  |none=>B
 |.load t x=>match E.T t with
  |some ti=>match jhh rd ti.ty (l x) with
   |some (m,a,ls)=>match jmT rdf a ls with
    |some (xs,u)=>if xs.length=m then D (.val U (.one (.av m a xs)) u) else B
    |none=>B
   |none=>oCel (jio rd ti (l x))
  |none=>B
 |.store t x y=>match E.T t with
  |some ti=>match jje rd rdf ti.size (c y) (l x) with
   |some u=>D (.val U (.one (.one .dead)) u)
   |none=>B
  |none=>B
 |.nilCheck x=>match l x with
  |.bp k p=>if isLive (rd k) then D (.leaf (.bp k p)) else B
  |.ep k i p=>if isLive (rd k) then D (.leaf (.ep k i p)) else B
  |.ip ls=>D (.leaf (.ip ls))
  |_=>B
 |.binOp op t x y _=>oChk (binC (E.T t) op (c x) (c y))
 |.unOp op _ x=>jgD (unC op (c x))
 |.convert src dst x=>match E.T src,E.T dst with
  |some ts,D ti=>match l x,ts.ty,ti.ty with
   |.d (.int _) v,D (.int _),D (.int k)=>D (.leaf (.d (.int k) (k.wrap v)))
   |_,_,_=>B
  |_,_=>B
 |.makeFunc (.func f) first caps=>if first.isEmpty then (match jod rdf (caps.toList.map c) with
   |some (l,u)=>D (.val U (.one (.one (.clo f l))) u)
   |none=>B)
  else B
 |.fieldAddr t x i=>match E.T t with
  |some ti=>jgD (jeE rd ti i (l x))
  |none=>B
 |.field t x i=>match E.T t with
  |some ti=>match c x,ti.flds[i]? with
   |.st ls,D f=>match E.T f.2 with
    |some tf=>oCel (jlL tf ((ls.drop f.1).take tf.size))
    |none=>B
   |_,_=>B
  |none=>B
 |.indexAddr t x i=>match E.T t with
  |some ti=>oChk (jhi rd ti (l x) (l i))
  |none=>B
 |.index t x i=>match E.T t with
  |some ti=>match idxV ti (c x) (l i) with
   |some (b,v)=>D (.val b (.one v) [])
   |none=>B
  |none=>B
 |.makeMap t B=>match jk6 E.T t with
  |some (k,v)=>if j6s (rd n) then D (.val U (.one (.one (.ol n))) [(n,.live (.lst (4294967296+t) (.pair k v) [] J))]) else B
  |none=>B
 |.lookup t x i ok=>match jk6 E.T t with
  |some (k,v)=>match mapC rw t k v (l x) (l i) with
   |some (_,ys,q)=>match ok with
    |true=>D (.val U (.tup [jcs v (@j1x _ _ k.keq v.dflt ys q),.one (.d .bool (@j38 _ _ k.keq ys q))]) [])
    |false=>D (.cel (jcs v (@j1x _ _ k.keq v.dflt ys q)))
   |none=>B
  |none=>B
 |.mapUpdate t x i y=>match jk6 E.T t with
  |some (k,v)=>match mapC rw t k v (l x) (l i),jeD rdf v (c y) with
   |some (b,ys,q),D (z,u)=>D (.val U (.one (.one .dead)) (u++[(b,.live (.lst (4294967296+t) (.pair k v) (@j2Y _ _ k.keq ys q z) J))]))
   |_,_=>B
  |none=>B
 |.extract x i=>match ev x with
  |.tup l=>match l[i]? with
   |some c=>D (.cel c)
   |none=>B
  |_=>B
 |.call cl=>match cl.callee with
  |.builtin .len=>match cl.args.toList,cl.argTypes.toList with
   |[x],[t]=>match E.T t with
    |some ti=>jgD (lenC rd ti.ty (l x))
    |none=>B
   |_,_=>B
  |.builtin .min=>jgD (minC (cl.args.toList.map c))
  |.builtin .max=>jgD (maxC (cl.args.toList.map c))
  |.builtin .append=>match cl.argTypes.toList,cl.args.toList with
   |[t,t'],[s,x]=>if t=t' then match E.T t with
     |some ti=>match ti.ty with
      |some (.list a)=>match appH rd ti.elem a (l s) (l x) with
       |some (b,v,u)=>D (.val b (.one (.one v)) u)
       |none=>match appN rd rdf ti.elem a n (l s) (l x) with
       |some (v,u)=>D (.val U (.one (.one v)) u)
       |none=>match appS rdf ti.elem a (l s),appX rd a (l x) with
        |some (xs,frz,u),D ys=>
         if j6s (rd n) then D (.val (Y (xs.length+ys.length<=j02)) (.one (.one (.ol n))) (u++[(n,.live (.lst ti.elem a (xs++ys) frz))])) else B
        |_,_=>B
      |_=>B
     |none=>B
    else B
   |_,_=>B
  |.value f=>match l f with
   |.clo g caps=>match jeF rw rdf (E.ta g) (E.mvf g) cl.argTypes.toList (E.modes g) (cl.args.toList.map c) with
    |some (as,us,fs)=>if bkOk us fs then D (.call g (as++caps.map jeG) (jpP rd rdf n us fs)) else B
    |none=>B
   |_=>B
  |.builtin .copy=>match cl.argTypes.toList,cl.args.toList with
   |[t,t'],[x,y]=>if t=t' then match E.T t with
     |some ti=>match jsA rd ti.ty (l x) (l y) with
      |some (v,u)=>D (.val U (.one (.one v)) u)
      |none=>B
     |none=>B
    else B
   |_,_=>B
  |.builtin .clear=>match cl.argTypes.toList,cl.args.toList with
   |[t],[x]=>match E.T t with
    |some ti=>match jma rd ti.ty (l x) with
     |some u=>D (.val U (.one (.one .dead)) u)
     |none=>B
    |none=>B
   |_,_=>B
  |_=>B
 |.slice t x lo hi B=>match E.T t with
  |some ti=>match jm8 (parK E.np) rd ti n (l x) (lo.map l) (hi.map l) with
   |some (b,v,u)=>D (.val b (.one (.one v)) u)
   |none=>B
  |none=>B
 |.slice t x lo hi (D mx)=>match E.T t with
  |some ti=>match jm9 rd ti (l x) (lo.map l) (hi.map l) (l mx) with
   |some b=>D (.val b (.one (.one .dead)) [])
   |none=>B
  |none=>B
 |_=>B
def St.upd(σ:St):Ups->St
 |[]=>σ
 |e::u=>(σ.setB e.1 e.2).upd u
def kill(d:H):Slot->Slot
 |.cnd s w c=>if s=d then .one (.one .dead) else .cnd s w c
 |x=>x
def St.put(σ:St)(d:F H)(s:Slot):St:=
 match d with
 |none=>σ
 |some d=>{ σ with sl:=λj=>kill d (if j=d then s else σ.sl j) }
def St.setD(σ:St)(d:F H)(s:Slot):St:=
 match d with
 |none=>σ
 |some d=>σ.setS d s
def jDv:Slot->Slot
 |.cnd _ _ _=> .one (.one .dead)
 |x=>x
def St.clear(σ:St):St:={ σ with sl:=λj=>jDv (σ.sl j) }
def jeV(N:NT)(o:Å):Bool:=
 match o.dst with
 |none=>U
 |some d=>Y (d<N.n) && !N.pin d
def jk7{R:Type}(e:X)(t f:F R):F R:=open Classical in cond e (if t=f then f else B) f
theorem jpQ{R:Type}(e:X)(t:F R):jk7 e t t=t:=by cases e<;>simp[jk7]
theorem jpR{R:Type}{e:X}{t f:F R}{r:R}(h:jk7 e t f=D r):f=D r/\(e=U->t=D r):=by
 cases e with
 |false=>exact⟨h,λh'=>by simp at h'⟩
 |true=>
  simp only[jk7,j6]at h;split at h
  .rename_i he;exact⟨h,λ_=>he.trans h⟩
  .simp at h
def nilT(E:Env)(σ:St)(o:Å):F Bool:=
 match o.op with
 |.binOp .eql t x y _=>match σ.ev x,σ.ev y,E.T t with
  |.one (.one (.d (.list _) xs)),.one (.one .nil),D ti=>if jct ti.ty then D (List.isEmpty xs) else B
  |_,_,_=>B
 |_=>B
def spT(σ:St)(o:Å):F (H×Ð×Æ×H):=
 match o.op with
 |.indexAddr _ x (.tmp t)=>match σ.ev x,σ.sl t with
  |.one (.one (.ol k)),.one (.one (.d (.int kk) v))=>match σ.bx k with
   |.live (.row _ _ n _)=>if ç 1 n then D (t,kk,v,n) else B
   |_=>B
  |_,_=>B
 |_=>B
def spl{R:Type}(v:Æ)(f:Æ->F R):H->H->F R
 |0,_=>B
 |m+1,j=>cond (v==Ñ j) (f (Ñ j)) (spl v f m (j+1))
def pre{R:Type}(σ:St)(o:Å)(k:St->F R):F R:=match spT σ o with
 |some (t,kk,v,n)=>spl v (λj=>k (σ.setS t (.one (.one (.d (.int kk) j))))) n 0
 |none=>k σ
theorem jrr{R:Type}{v:Æ}{f:Æ->F R}{r:R}:∀(m j:H),spl v f m j=D r->f v=D r
 |0,_,h=>by simp[spl]at h
 |m+1,j,h=>by
  simp only[spl]at h;by_cases he:v=Ñ j
  .rw[<-he,beq_self_eq_true,j6]at h;exact h
  .rw[show (v==Ñ j)=J by simpa using he,j7]at h;exact jrr m (j+1) h
theorem ju0{σ:St}{i:H}{s:Slot}(h:σ.sl i=s):σ.setS i s=σ:=by
 have e:(λj=>if j=i then s else σ.sl j)=σ.sl:=by
  funext j
  by_cases hj:j=i
  .subst hj;rw[if_pos rfl,h]
  .rw[if_neg hj]
 show { σ with sl:=_ }=σ;rw[e]
theorem jrs{R:Type}{σ:St}{o:Å}{k:St->F R}{r:R}(h:pre σ o k=D r):k σ=D r:=by
 unfold pre at h;split at h
 .rename_i t kk v n he;have h':=jrr _ _ h
  have hs:σ.sl t = .one (.one (.d (.int kk) v)):=by
   unfold spT at he
   repeat' split at he
   all_goals first
    |(simp at he;done)
    |(
     simp only[j5,j9]at he;obtain⟨rfl,rfl,rfl,rfl⟩:=he;assumption)
  rw[ju0 hs]at h';exact h'
 .exact h
noncomputable section
variable(E:Env){R:Type}
def run1(p:X)(σ:St)(act:I (H×X))(o:Å)(k:St->F R):F R:=pre σ o λσ=>
 match cond E.nz (nilT E σ o) B with
 |some e=>jk7 e (k (cond p (σ.put o.dst (.one (.one (.d .bool U)))) (σ.setD o.dst (.one (.one (.d .bool U)))))) (k (cond p (σ.put o.dst (.one (.one (.d .bool J)))) (σ.setD o.dst (.one (.one (.d .bool J))))))
 |none=>
 match j5h E σ.ev σ.bx act o with
 |none=>B
 |some (.val chk s u)=>cond chk (k (cond p ((σ.upd u).put o.dst s) ((σ.upd u).setD o.dst s))) B
 |some (.call f args mk)=>E.C f args R λret=>match mk ret with
  |some (s,u)=>k (cond p ((σ.upd u).put o.dst s) ((σ.upd u).setD o.dst s))
  |none=>B
def gval(σ:St)(s:H):F Bool:=
 match σ.sl s with
 |.one (.one (.d .bool v))=>D v
 |.cnd _ _ (.one (.d .bool v))=>D v
 |_=>B
def ju1(r:I (H×X))(σ:St)(s:H):F Bool:=
 match σ.sl s with
 |.one (.one (.d .bool v))=>D v
 |.cnd s' w' (.one (.d .bool v))=>if r.contains (s',w') then D v else B
 |_=>B
def actB(σ:St):I (H×X)->F X
 |[]=>D U
 |(s,w)::r=>match gval σ s with
  |some v=>match r with
   |[]=>D (cond w v (!v))
   |r=>match actB σ r with
    |some b=>D (b&&cond w v (!v))
    |none=>B
  |none=>B
def jjg:I (H×X)->St->(St->X->F R)->F R
 |[],σ,k=>k σ U
 |(s,w)::r,σ,k=>jjg r σ λσ1 a=>match a with
  |true=>match ju1 r σ1 s with
   |some v=>cond v (k (σ1.setS s (.one (.one (.d .bool U)))) w) (k (σ1.setS s (.one (.one (.d .bool J)))) (!w))
   |none=>B
  |false=>k σ1 J
def ju2(ops:Ê Å)(σ:St)(o:Å)(k:St->F R):F R:=
 match ja3 ops o with
 |none=>match o.guard with
  |none=>run1 E U σ [] o k
  |some _=>B
 |some g=>
  let ch:=σ.chain 40 g
  let slow:=jjg ch σ λσ' a=>match a with
   |true=>run1 E U σ' ch o k
   |false=>k (σ'.put o.dst (.one (.one .dead)))
  match j5h E σ.ev σ.bx ch o with
  |some (.val chk (.one c) [])=>match actB σ ch with
   |some ab=>cond (chk || !ab) (k (σ.put o.dst (.cnd g.1 g.2 c))) B
   |none=>slow
  |_=>slow
def j7T:I Å->St->(St->F R)->F R
 |[],σ,k=>k σ
 |o::os,σ,k=>if jeV E.N o then run1 E J σ [] o λσ'=>j7T os σ' k else B
def jmb(ops:Ê Å):I Å->St->(St->F R)->F R
 |[],σ,k=>k σ.clear
 |o::os,σ,k=>if jeV E.N o then ju2 E ops σ o λσ'=>jmb ops os σ' k else B
def bare(ops:Ê Å):Bool:=ops.toList.all λo=>o.guard.isNone
def jaP(ops:Ê Å)(σ:St)(k:St->F R):F R:=
 if bare ops then j7T E ops.toList σ k else jmb E ops ops.toList σ k
end
noncomputable section
variable(E:Env){R:Type}
def jmU(σ:St)(o o2:Å):F (X×St):=
 match o.op,o2.op with
 |.call c1,.call c2=>match c1.callee,c1.args.toList,c2.callee,c2.args.toList with
  |.value f1,[x],.value f2,[.tmp d]=>match σ.ev f1,σ.ev x,(σ.setD o.dst (.one (.one .dead))).ev f2 with
   |.one (.one (.clo fK [])),.one (.one (.ol b)),.one (.one (.clo fS []))=>match E.bw fS,σ.bx b with
    |some (U,.arr fK' (.arr e .bool)),.live (.lst em a xs _)=>match jBG a xs with
     |some (c,ys)=>if fK'=fK/\o.dst=D d/\isM em=U/\isM e=J/\j6s (σ.bx ((o2.dst.getD 0)*64))=U then
      D (c,((σ.setD o.dst (.one (.one .dead))).setB ((o2.dst.getD 0)*64) (.live (.lst e (.int .i64) ys J))).setD o2.dst (.one (.one (.ol ((o2.dst.getD 0)*64))))) else B
     |none=>B
    |_,_=>B
   |_,_,_=>B
  |_,_,_,_=>B
 |_,_=>B
def jmV(σ:St)(o:Å):F (X×St):=
 match o.op with
 |.call c1=>match c1.callee,c1.args.toList with
  |.value f1,[x,y]=>match σ.ev f1,σ.ev x,σ.ev y with
   |.one (.one (.clo fG [])),.one (.one .nil),.one (.one (.d (.int .i64) n))=>match E.bw fG,E.T o.type with
    |some (U,.arr e (.arr sz .unit)),D ti=>match ti.ty with
     |some (.list a)=>if a.size=sz/\isM e=J/\j6s (σ.bx ((o.dst.getD 0)*64))=U then
      D (Y (0<=n)&&Y (n<=1000000),(σ.setB ((o.dst.getD 0)*64) (.live (.lst e a [] J))).setD o.dst (.one (.one (.ol ((o.dst.getD 0)*64))))) else B
     |_=>B
    |_,_=>B
   |_,_,_=>B
  |_,_=>B
 |_=>B
def runK(σ:St)(o:Å)(k:St->F R):F R:=
 match jmV E σ o with
 |some (c,σ')=>cond c (k σ') B
 |none=>run1 E J σ [] o k
def jbd:I Å->St->(St->F R)->F R
 |[],σ,k=>k σ
 |[o],σ,k=>if jeV E.N o then runK E σ o k else B
 |o::o2::os,σ,k=>if jeV E.N o then match jmU E σ o o2 with
   |some (c,σ')=>if jeV E.N o2 then cond c (jbd os σ' k) B else B
   |none=>runK E σ o λσ'=>jbd (o2::os) σ' k
  else B
def ju3(ops:Ê Å)(σ:St)(k:St->F R):F R:=if bare ops then jbd E ops.toList σ k else B
end
def jdl(o:Å):I Nat:=o.after.toList.filterMap λe=>if Region.binds .any e then D e.on else B
def jeW(o:Å):Bool:=match o.op with
 |.nilCheck _|.fieldAddr _ _ _|.indexAddr _ _ _=>U
 |_=>J
def jdW(o:Å):Bool:=match o.op with
 |.store _ _ _=>U
 |_=>J
def jBH(cls:I H)(o:Å):Nat:=(jdl o).foldl (λm j=>m|||(2^j|||cls.getD j 0)) 0
def ju4:I Å->I H->I H
 |[],cls=>cls
 |o::os,cls=>ju4 os (cls++[jBH cls o])
def jof(cl:I H)(i j:H):Bool:=i==j||(cl.getD i 0).testBit j||(cl.getD j 0).testBit i
def jDw(a b:I H):Bool:=a.all λk=> !b.contains k
def jrt(ops:Ê Å)(cl:I H)(A:I (I H))(i:H)(oi:Å)(j:H)(oj:Å):Bool:=
 (match oj.dst with
 |some t=>i==j||(oi.dst != D t&&(!(oi.looksAt ops).contains t||jof cl i j))
 |none=>U)&&(A.isEmpty||jof cl i j||jDw (A.getD i []) (A.getD j []))
def jz4(ops:Ê Å)(cl:I H)(A:I (I H)):Bool:=
 ops.toList.zipIdx.all λx=>(jdl x.1).all (λj=>Y (j<x.2))&&(A.isEmpty || !jeW x.1||(A.getD x.2 []).isEmpty)&&ops.toList.zipIdx.all λy=>jrt ops cl A x.2 x.1 y.2 y.1
def jmW(ops:Ê Å)(cl:I H)(A:I (I H))(i:H)(oi:Å):I Nat:=
 if A.isEmpty then [] else ops.toList.zipIdx.flatMap λx=>if jof cl i x.2||(jeW oi&&jdW x.1) then [] else A.getD x.2 []
def jcn(M:I H)(rd:H->BS)(k:H):BS:=if M.contains k then .gone else rd k
noncomputable section
variable(E:Env){R:Type}
def runD(M Ai:I H)(σ:St)(o:Å)(k:St->F R):F R:=pre σ o λσ=>
 match j5h E σ.ev (jcn M σ.bx) [] o with
 |none=>B
 |some (.val chk s u)=>if u.all (λe=>Ai.contains e.1) then cond chk (k ((σ.upd u).setD o.dst s)) B else B
 |some (.call f args mk)=>E.C f args R λret=>match mk ret with
  |some (s,u)=>if u.all (λe=>Ai.contains e.1) then k ((σ.upd u).setD o.dst s) else B
  |none=>B
def jAc(σ:St)(o:Å)(k:St->F R):F R:=k (σ.setD o.dst .und)
def jog(ops:Ê Å)(M Ai:I H)(σ:St)(o:Å)(k:St->F R):F R:=
 match o.guard with
 |none=>runD E M Ai σ o k
 |some _=>match ja3 ops o with
  |some (s,wn)=>match σ.sl s with
   |.one (.one (.d .bool v))=>
    cond v (cond wn (runD E M Ai (σ.setS s (.one (.one (.d .bool U)))) o k) (jAc (σ.setS s (.one (.one (.d .bool U)))) o k))
     (cond wn (jAc (σ.setS s (.one (.one (.d .bool J)))) o k) (runD E M Ai (σ.setS s (.one (.one (.d .bool J)))) o k))
   |.und=>jAc σ o k
   |_=>B
  |none=>B
def jsB(ops:Ê Å)(cl:I H)(A:I (I H)):I Å->H->St->(St->F R)->F R
 |[],_,σ,k=>k σ
 |o::os,i,σ,k=>if jeV E.N o then jog E ops (jmW ops cl A i o) (A.getD i []) σ o λσ'=>jsB ops cl A os (i+1) σ' k else B
def jhk(ops:Ê Å)(A:I (I H))(σ:St)(k:St->F R):F R:=
 if jz4 ops (ju4 ops.toList []) A then jsB E ops (ju4 ops.toList []) A ops.toList 0 σ k else B
end
def jjh(σ:St):Loc->Leaf
 |.slot i=>match σ.sl i with
  |.one (.one x)=>x
  |_=> .dead
 |.cell k c=>match σ.bx k with
  |.live (.cell ls J)=>ls.getD c .dead
  |.live (.row _ _ _ ls)=>ls.getD c .dead
  |_=> .dead
def joh(K:Keep)(l:Loc):F Nat:=(K.lists.find? λx=>x.locs.contains l).map (·.name)
def jhl(K:Keep)(loc:F Loc):Leaf->Leaf
 |.dead=> .dead
 |.nil=>match loc.bind (joh K) with
  |some n=> .ol n
  |none=> .nil
 |.d t v=> .d t v
 |.ol k=>if K.boxes.contains k then .ol k else match loc.bind (joh K) with
  |some n=> .ol n
  |none=> .dead
 |.bp k c=>if K.boxes.contains k then .bp k c else .dead
 |.ep k i c=>if K.boxes.contains k&&Í (k%64) 1 then .ep k i c else .dead
 |.tl k i=>if K.boxes.contains k then .tl k i else .dead
 |.hd k i=>if K.boxes.contains k then .hd k i else .dead
 |.ip ls=> .ip ls
 |.clo f caps=> .clo f caps
def jxv(K:Keep)(i:H):Slot->Cel
 |.one (.one x)=> .one (jhl K (D (.slot i)) x)
 |.one (.st ls)=> .st (ls.map (jhl K B))
 |.one (.av n a xs)=> .av n a xs
 |_=> .one .dead
def joi(K:Keep)(k:H):BS->BS
 |.live (.cell ls frz)=> .live (.cell (ls.zipIdx.map λx=>jhl K (if frz then B else D (.cell k x.2)) x.1) frz)
 |.live (.arr n a xs)=> .live (.arr n a xs)
 |.live (.lst e a xs frz)=> .live (.lst e a xs frz)
 |.live (.row e a n ls)=> .live (.row e a n (ls.zipIdx.map λx=>jhl K (D (.cell k x.2)) x.1))
 |_=> .gone
def jmc(σ:St)(e:H)(a:Ty)(l:Loc):F (F H×I a.den×X):=
 match jjh σ l with
 |.nil=>if isM e then B else D (B,[],J)
 |.ol k=>match σ.bx k with
  |.live (.lst e' a' xs frz)=>match (TV.mk (.list a') xs).to (.list a) with
   |some xs'=>if e'=e then D (D k,xs',frz) else B
   |none=>B
  |_=>B
 |_=>B
def jgE(σ:St)(e:H)(a:Ty):I Loc->F (F H×I a.den×X)
 |[]=>B
 |[l]=>jmc σ e a l
 |l::ls=>match jmc σ e a l,jgE σ e a ls with
  |some (k,xs,f),D (k',_,_)=>if k=k' then D (k,xs,f) else B
  |_,_=>B
def jdm(np:H)(σ:St)(bs:I H):I jin->F (I Item×I H)
 |[]=>D ([],[])
 |x::r=>match jgE σ x.e x.a x.locs,jdm np σ bs r with
  |some (k,xs,f),D (is,ks)=>match k with
   |none=>D (.b (.live (.lst x.e x.a xs x.frz))::is,ks)
   |some k=>if ks.contains k||bs.contains k||parK np k then B else D (.b (.live (.lst x.e x.a xs f))::is,k::ks)
  |_,_=>B
def jeX(np:H):I jin->St->F St
 |[],σ=>D σ
 |x::r,σ=>if x.frz then match x.locs with
   |l::_=>match jjh σ l with
    |.ol k=>match σ.bx k with
     |.live (.lst e a xs _)=>if parK np k||isM e then B else jeX np r (σ.setB k (.live (.lst e a xs U)))
     |_=>B
    |_=>jeX np r σ
   |[]=>jeX np r σ
  else jeX np r σ
def Keep.ok(np:H)(K:Keep):Bool:=jbG (K.lists.map (·.name))&&K.lists.all λx=> !K.boxes.contains x.name && !parK np x.name
def jk8(σ:St):Loc->Leaf
 |.cell k c=>match σ.bx k with
  |.live (.cell ls J)=>ls.getD c .dead
  |_=> .dead
 |_=> .dead
def jk9(σ:St)(l:Loc)(x:Leaf):St:=
 match l with
 |.slot _=>σ
 |.cell k c=>match σ.bx k with
  |.live (.cell ls J)=>σ.setB k (.live (.cell (ls.set c x) J))
  |_=>σ
def jhm(np:H):I (Loc×Ty)->St->F St
 |[],σ=>D σ
 |(l,t)::r,σ=>match jeU (λk=>if parK np k then .gone else mskM σ.bx k) t (jk8 σ l) with
  |some (v,u)=>jhm np r (jk9 (σ.upd u) l (.d t v))
  |none=>B
def jpS(np:H)(K:Keep)(σ:St):F Snap:=
 match jdm np σ K.boxes K.lists with
 |some (is,_)=>if K.ok np then D ((K.slots.map λi=> .s (jxv K i (σ.sl i)))++((K.boxes.map λk=> .b (joi K k (σ.bx k)))++is)) else B
 |none=>B
def j7e(np:H)(K:Keep)(σ:St):F Snap:=
 match jeX np K.lists σ with
 |some σ2=>jpS np K σ2
 |none=>B
def jpT:F Item->Slot
 |some (.s c)=> .one c
 |_=> .one (.one .dead)
def joj:F Item->BS
 |some (.b b)=>b
 |_=> .gone
def j0Q(np:H)(K:Keep)(s:Snap):St where
 sl:=λi=>match K.slots.idxOf? i with
  |some j=>jpT s[j]?
  |none=> .one (.one .dead)
 bx:=λn=>match K.boxes.idxOf? n with
  |some j=>joj s[K.slots.length+j]?
  |none=>match (K.lists.map (·.name)).idxOf? n with
   |some j=>joj s[K.slots.length+K.boxes.length+j]?
   |none=>if parK np n then .gone else .free
def rowL(a:Ty)(m:H)(xs:I a.den):I Leaf:=(Ó m).flatMap λi=>(scat a (Ë xs i a.dflt)).map TV.leaf
def jsC(rd:H->BS)(a:Ty):H->I Leaf->F (I a.den×Ups)
 |0,[]=>D ([],[])
 |0,_::_=>B
 |n+1,ls=>match gath rd a ls with
  |some (x,r,u)=>match jsC rd a n r with
   |some (xs,v)=>D (x::xs,u++v)
   |none=>B
  |none=>B
def ju5(np:H)(σ:St):Gh->F (X×St)
 |.ex k c n m=>match σ.bx k with
  |.live (.cell ls J)=>match ls.getD c .dead with
   |.ol b=>match σ.bx b with
    |.live (.lst e a xs J)=>if isM e||parK np b||b==n||b==k || !j6s (σ.bx n) then B else
     D (Í xs.length m,(((σ.setB b .gone).setB n (.live (.row e a m (rowL a m xs)))).setB k (.live (.cell (ls.set c (.ol n)) J))))
    |_=>B
   |_=>B
  |_=>B
 |.rl k=>match σ.bx k with
  |.live (.row e a n ls)=>match jsC (λj=>if parK np j then .gone else mskM σ.bx j) a n ls with
   |some (xs,u)=>if u.any (λy=>y.1==k) then B else D (U,σ.upd (u++[(k,.live (.lst e a xs J))]))
   |none=>B
  |_=>D (U,σ)
 |.da l=>match jhm np l σ with
  |some σ'=>D (U,σ')
  |none=>B
def jka{R:Type}(np:H):I Gh->St->(St->F R)->F R
 |[],σ,k=>k σ
 |g::gs,σ,k=>match ju5 np σ g with
  |some (b,σ')=>cond b (jka np gs σ' k) B
  |none=>B
def jji{R:Type}(f:H->St->(Ex->St->F R)->F R):H->H->St->(Ex->St->F R)->F R
 |0,_,_,_=>B
 |n+1,i,σ,k=>f i σ λe σ'=>match e with
  |.normal=>jji f n (i+1) σ' k
  |e=>k e σ'
def j1E:H->Õ->I (H×Õ)
 |b,.seq x y=>j1E b x++j1E b y
 |b,.cond _ x y=>j1E b x++j1E b y
 |_,.block id c=>j1E id c
 |b,.loop c=>(b,c)::j1E b c
 |b,.rangeFunc g ps x y=>[(b,.rangeFunc g ps x y)]
 |b,.scope c=>j1E b c
 |_,_=>[]
def St.know(f:X)(σ:St)(c:Î)(v:X):St:=match f,c with
 |true,.tmp s=>σ.setS s (.one (.one (.d .bool v)))
 |_,_=>σ
theorem ju6{f:X}{σ:St}{c:Î}{v:X}(h:σ.ev c = .one (.one (.d .bool v))):σ.know f c v=σ:=by
 unfold St.know;split
 .rename_i s;have h:σ.sl s = .one (.one (.d .bool v)):=h
  have e:(λj=>if j=s then Slot.one (.one (.d .bool v)) else σ.sl j)=σ.sl:=by
   funext j
   by_cases hj:j=s
   .subst hj;rw[if_pos rfl,h]
   .rw[if_neg hj]
  show { σ with sl:=_ }=σ;rw[e]
 .rfl
def jz5(o:Å):Bool:=
 match o.op with
 |.defer _=>J
 |_=>U
def j1H:Õ->X
 |.skip=>U
 |.region _ ops _=>ops.toList.all jz5
 |.seq x y=>j1H x&&j1H y
 |.cond _ x y=>j1H x&&j1H y
 |.block _ c=>j1H c
 |.scope c=>j1H c
 |.label _=>U
 |.exit _=>U
 |.ret=>U
 |_=>J
def jjj:Õ->I H
 |.region _ ops _=>ops.toList.filterMap (·.dst)
 |.seq x y=>jjj x++jjj y
 |.cond _ x y=>jjj x++jjj y
 |.block _ c=>jjj c
 |.scope c=>jjj c
 |_=>[]
def jsD(ps:Ê H)(x y:Õ)(i:H):Bool:= !(ps.toList.contains i) && !((jjj x++jjj y).contains i)
def pinK(ps:Ê H)(x y:Õ)(K:Keep):Bool:=K.slots.all (jsD ps x y)
def Env.rnd(E:Env)(ps:Ê H)(x y:Õ):Env:={ E with N:=⟨E.N.n,jsD ps x y⟩ }
def isRf:Õ->X
 |.rangeFunc .. => U
 |_=>J
def jkb(kd:X)(n:H):Int:=cond kd 1 (Ñ n)
def jAd(kd:X)(n:H)(c:Æ):Bool:=cond kd (Y (Ñ n<=c)) (Y (c<=0))
def itOk(kd:X)(n:H)(c:Æ):Bool:=cond kd (Y (1<=c)) (Y (c<=Ñ n))
def jok(kd:X)(c:Æ):Int:=cond kd (c+1) (c-1)
def chgV:(t:Ty)->I t.den->Æ->I TV
 |.pair (.int .i64) (.pair (.int .i64) (.int .i64)),xs,c=>[⟨.pair (.int .i64) (.pair (.int .i64) (.int .i64)),
  ((Ë xs c.toNat (0,0,0)).1,(Ë xs (c-1).toNat (0,0,0)).2.2,(Ë xs c.toNat (0,0,0)).2.2)⟩]
 |_,_,_=>[]
def jol(kd:X)(t:Ty)(xs:I t.den)(c:Æ):I TV:=cond kd (chgV t xs c) [⟨.int .i64,c-1⟩,⟨t,Ë xs (c-1).toNat t.dflt⟩]
def setL(l:I (H×TV))(σ:St):St:=l.foldl (λσ q=>σ.setS q.1 (.one (jcs q.2.t q.2.v))) σ
def jeY:I H->X
 |[]=>U
 |x::r=> !(r.contains x)&&jeY r
abbrev segT:Ty:= .pair (.int .i64) (.pair (.int .i64) (.int .i64))
def rfK(E:Env)(b f:H)(t:Ty)(ps:Ê H)(x y:Õ):F Bool:=match E.bw f with
 |some q=>cond (Y (q.2=t)&&(cond q.1 (Y (t=segT)) U&&(Y (ps.toList.length=cond q.1 1 2)&&(jeY ps.toList&&(ps.toList.all (λp=>Y (p<E.N.n))&&(j1H x&&(j1H y&&pinK ps x y (E.keep b)))))))) (D q.1) B
 |none=>B
def jdc{α β:Type}(G:α->β->F β):I (α×β)->F (I (α×β))
 |[]=>D []
 |x::r=>(G x.1 x.2).bind λz=>(jdc G r).bind λr'=>D ((x.1,z)::r')
def j5m(s:Snap)(em:H)(v:Ty)(zs:I (Æ×v.den)):Snap:=s.dropLast++[.b (.live (.lst em (.pair (.int .i64) v) zs J))]
def jjk(em:H)(v:Ty)(s:Snap):F (I (Æ×v.den)):=match s.getLast? with
 |some (.b (.live (.lst e a xs J)))=>if e=em then (TV.mk (.list a) xs).to (.list (.pair (.int .i64) v)) else B
 |_=>B
structure MrP where
 it:H
 d1:H
 c2:H
 d3:H
 b6:H
 ops:Ê Å
 rest:Õ
def jBI(o:Å):F (H×H):=match o.op,o.dst,o.guard with
 |.next (.tmp it) J,D d,B=>D (it,d)
 |_,_,_=>B
def fstO(o:Å):F (H×H):=match o.op,o.dst,o.guard with
 |.extract (.tmp d) 0,D c,B=>D (d,c)
 |_,_,_=>B
def entO(o:Å):F (H×H):=match o.op,o.dst,o.guard with
 |.entry (.tmp it),D d,B=>D (it,d)
 |_,_,_=>B
def mrP(b:H):Õ->F MrP
 |.seq (.region _ ops J) (.seq (.cond (.tmp c) .skip (.exit b')) (.block b6 (.seq (.region _ ops3 J) rest)))=>match ops.toList,ops3.toList with
  |[o1,o2],o3::_=>match jBI o1,fstO o2,entO o3 with
   |some (it,d1),D (d1',c2),D (it',d3)=>if d1'=d1/\it'=it/\c=c2/\b'=b then D ⟨it,d1,c2,d3,b6,ops3,rest⟩ else B
   |_,_,_=>B
  |_,_=>B
 |_=>B
def mrC(E:Env)(b:H)(p:MrP)(m:H):Bool:=
 bare p.ops&&(j1H p.rest&&(!(Í p.it p.d1)&&(!(Í p.it p.c2)&&(!(Í p.it p.d3)&&(!(Í m p.it)&&(!(Í m p.d1)&&(!(Í m p.c2)&&(!(Í m p.d3) &&
  (ç p.it E.N.n&&(ç p.d1 E.N.n&&(ç p.c2 E.N.n&&(ç p.d3 E.N.n&&(!(E.keep b).slots.contains p.it&&(!(E.keep b).slots.contains p.d1 && !(E.keep b).slots.contains p.c2))))))))))))))
def jmd(E:Env):Õ->Õ->X
 |.region _ _ J,.block b (.loop _)=>(E.mr b).isSome
 |_,_=>J
def ju7:BS->X
 |.live (.lst e _ _ _)=>isM e
 |_=>J
def Env.mrE(E:Env)(it m:H):Env:={ E with N:=⟨E.N.n,λi=>Í i it||Nat.beq i m⟩,mr:=λ_=>B }
noncomputable section
variable(E:Env){R:Type}
def mrGo(b m m1:H)(k:Ex->St->F R)(σ:St):F R:=match σ.sl m1,σ.sl m with
 |.one (.one (.ol n)),.one (.one (.ol n'))=>cond (Í n n'&&ju7 (σ.bx n)) (match j7e E.np (E.keep b) σ with
  |some s=>E.M b s R λs'=>k .normal (j0Q E.np (E.keep b) s')
  |none=>B) B
 |_,_=>B
def jom(x y:Õ)(σ:St)(k:Ex->St->F R):F R:=match x,y with
 |.region _ ops J,.block b (.loop c)=>match E.mr b,mrP b c,ops.toList.getLast? with
  |some (m,_),D p,D o=>match o.op,o.dst with
   |.range t (.tmp m1),D it=>cond (bare ops&&(Í it p.it&&(mrC E b p m&&(jk6 E.T t).isSome))) (j7T E ops.toList.dropLast σ (mrGo E b m m1 k)) B
   |_,_=>B
  |_,_,_=>B
 |_,_=>B
end
def j0V{R:Type}:Env->H->Õ->St->(Ex->St->F R)->F R
 |E,_,.skip,σ,k=>k .normal σ
 |E,_,.region id ops J,σ,k=>jka E.np (E.pre id) σ λσ=>cond (E.ks id) (ju3 E ops σ λσ'=>k .normal σ') (jaP E ops σ λσ'=>k .normal σ')
 |E,_,.region id ops U,σ,k=>jka E.np (E.pre id) σ λσ=>jhk E ops (E.dw id) σ λσ'=>k .normal σ'
 |E,b,.seq x y,σ,k=>cond (jmd E x y) (jom E x y σ k) (j0V E b x σ λe σ'=>match e with
  |.normal=>j0V E b y σ' k
  |e=>k e σ')
 |E,b,.cond c x y,σ,k=>match σ.ev c with
  |.one (.one (.d .bool v))=>cond v (j0V E b x (σ.know E.sc c U) k) (j0V E b y (σ.know E.sc c J) k)
  |_=>B
 |E,_,.block id c,σ,k=>j0V E id c σ λe σ'=>match e with
  |.exit i=>if i=id then k .normal σ' else k (.exit i) σ'
  |e=>k e σ'
 |E,b,.loop c,σ,k=>cond (isRf c) B (cond (ç 0 (E.un b)) (jji (λi σ k=>j0V (E.offR i) b c σ k) (E.un b) 0 σ k) (match j7e E.np (E.keep b) σ with
  |some s=>E.L b s R λe s'=>k e (j0Q E.np (E.keepX b e) s')
  |none=>B))
 |E,b,.rangeFunc g ps x y,σ,k=>match σ.ev g with
  |.one (.one (.clo f [.p [⟨.list t,xs⟩]]))=>match rfK E b f t ps x y with
   |some kd=>match j7e E.np (E.keep b) σ with
    |some s=>E.L b (.s (.one (.d (.int .i64) (jkb kd (É xs))))::s) R λe s'=>k e (j0Q E.np (E.keepX b e) s')
    |none=>B
   |none=>B
  |_=>B
 |E,b,.scope c,σ,k=>j0V E b c σ k
 |E,_,.label _,σ,k=>k .normal σ
 |E,_,.exit i,σ,k=>k (.exit i) σ
 |E,_,.ret,σ,k=>k .ret σ
 |_,_,_,_,_=>B
noncomputable section
variable(E:Env){R:Type}
def jdX(b:H)(c:Õ)(s:Snap):F (Snap ⊕ Ex×Snap):=
 j0V E b c (j0Q E.np (E.keep b) s) λe σ=>match e with
  |.normal=>match j7e E.np (E.keep b) σ with
   |some s'=>D (.inl s')
   |none=>B
  |e=>match j7e E.np (E.keepX b e) σ with
   |some s'=>D (.inr (e,s'))
   |none=>B
def jkc(b:H)(g:Î)(ps:Ê H)(x y:Õ)(s:Snap)(K:F (I Item)->Ex->St->F R):F R:=
 match s with
 |.s (.one (.d (.int .i64) n))::s0=>match (j0Q E.np (E.keep b) s0).ev g with
  |.one (.one (.clo f [.p [⟨.list t,xs⟩]]))=>match rfK E b f t ps x y with
   |some kd=>cond (jAd kd (É xs) n) (K B .normal (j0Q E.np (E.keep b) s0)) (cond (itOk kd (É xs) n)
    (j0V (E.rnd ps x y) 0 x (setL (ps.toList.zip (jol kd t xs n)) (j0Q E.np (E.keep b) s0)) λe σ=>match e with
     |.normal=>j0V (E.rnd ps x y) 0 y σ (K (D [.s (.one (.d (.int .i64) (jok kd n)))]))
     |_=>B) B)
   |none=>B
  |_=>B
 |_=>B
def jjl(b:H)(g:Î)(ps:Ê H)(x y:Õ)(s:Snap):F (Snap ⊕ Ex×Snap):=
 jkc E b g ps x y s λp e σ=>match p,e with
  |some q,.normal=>match j7e E.np (E.keep b) σ with
   |some s'=>D (.inl (q++s'))
   |none=>B
  |_,e=>cond (pinK ps x y (E.keepX b e)) (match j7e E.np (E.keepX b e) σ with
   |some s'=>D (.inr (e,s'))
   |none=>B) B
def mrNx(b6:H):Ex->X
 |.normal=>U
 |.exit i=>Í i b6
 |.ret=>J
def jon(b:H)(p:MrP)(m:H)(s:Snap)(v:Ty)(q:Æ)(z:v.den)(k:Snap->F R):F R:=
 j7T (E.mrE p.it m) p.ops.toList.tail ((j0Q E.np (E.keep b) s).setD (D p.d3) (.tup [.one (.d (.int .i64) q),jcs v z])) λσ1=>
  j0V (E.mrE p.it m) p.b6 p.rest σ1 λe σ2=>cond (mrNx p.b6 e) (match j7e E.np (E.keep b) σ2 with
   |some s'=>k s'
   |none=>B) B
def joo(b:H):Õ->Snap->F (Snap ⊕ Ex×Snap)
 |.rangeFunc g ps x y,s=>jjl E.off0 b g ps x y s
 |c,s=>jdX E.off0 b c s
end
def loopN{α β:Type}(f:α->F (α ⊕ β)):H->α->F β
 |0,_=>B
 |n+1,s=>match f s with
  |some (.inl s')=>loopN f n s'
  |some (.inr x)=>D x
  |none=>B
def jmX(i:H):Arg->Cel
 |.v x=>jcs x.t x.v
 |.ref _=> .one (.bp (i*64) 0)
 |.rl _ _=> .one (.ol (i*64))
 |.ip ls=> .one (.ip ls)
 |.clo f caps=> .one (.clo f caps)
 |.mv _ _=> .one (.ol (i*64+63))
def jb6:F Arg->BS
 |some (.ref ls)=> .live (.cell (ls.map TV.leaf) J)
 |some (.rl e ⟨.list a,xs⟩)=> .live (.lst e a xs J)
 |_=> .free
def jmY:F Arg->BS
 |some (.mv e ⟨.list a,xs⟩)=> .live (.lst e a xs J)
 |_=> .free
def St.init(args:I Arg):St where
 sl:=λi=>match args[i]? with
  |some a=> .one (jmX i a)
  |none=> .one (.one .dead)
 bx:=λn=>if n%64=0 then jb6 args[n/64]? else if n%64=63 then jmY args[n/64]? else .free
def soOf(rd:H->BS):I SoK->I Leaf->F (I RL×I H×Ups)
 |[],[]=>D ([],[],[])
 |.d t::ks,l::ls=>match jeU rd t l,soOf rd ks ls with
  |some (x,u),D (r,n,v)=>cond t.leafy (D (.d ⟨t,x⟩::r,n,u++v)) B
  |_,_=>B
 |.own e a::ks,.nil::ls=>match soOf rd ks ls with
  |some (r,n,v)=>cond (isM e) B (D (.own e ⟨.list a,[]⟩::r,n,v))
  |none=>B
 |.own e _::ks,.ol k::ls=>match rd k with
  |.live (.lst e' b xs J)=>cond (Í e' e) (match soOf rd ks ls with
   |some (r,n,v)=>D (.own e' ⟨.list b,xs⟩::r,k::n,v)
   |none=>B) B
  |_=>B
 |_,_=>B
def rvOf(E:Env)(rd:H->BS)(own:X)(t:H)(c:Cel):F (RV×I H×Ups):=
 match c with
 |.one (.bp k 0)=>match rd k with
  |.live (.cell ls J)=>match tvs rd ls with
   |some (xs,u)=>D (.box xs,[k],u)
   |none=>B
  |_=>B
 |.one (.clo f caps)=>D (.clo f caps,[],[])
 |c=>match E.T t with
  |some ti=>match ti.ty with
   |some ty=>match own with
    |true=>match c,ty with
     |.st ls,_=>match soOf rd E.so ls with
      |some (r,n,v)=>D (.so r,n,v)
      |none=>B
     |.one .nil,.list a=>D (.own ti.elem ⟨.list a,[]⟩,[],[])
     |.one (.ol k),_=>match rd k with
      |.live (.lst e a xs J)=>D (.own e ⟨.list a,xs⟩,[k],[])
      |_=>B
     |_,_=>B
    |false=>match jeD rd ty c with
     |some (x,u)=>D (.v ⟨ty,x⟩,[],u)
     |none=>B
   |none=>B
  |none=>B
def jkd(E:Env)(σ:St):ë->F Cel
 |.tmp t=>match σ.sl t with
  |.one c=>D c
  |_=>B
 |.cell a t=>match E.T t,σ.sl a with
  |some ti,.one (.one x)=>jio (mskM σ.bx) ti x
  |_,_=>B
def jaQ(E:Env)(σ:St):I X->I ë->I H->F (I RV×I H×Ups)
 |_,[],_=>D ([],[],[])
 |os,r::rs,ts=>match jkd E σ r with
  |some c=>match rvOf E (λk=>if parK E.np k then .gone else mskM σ.bx k) (os.headD J) (ts.headD 0) c with
   |some (v,ks,u)=>match jaQ E σ os.tail rs ts.tail with
    |some (vs,ks',u')=>D (v::vs,ks++ks',u++u')
    |none=>B
   |none=>B
  |none=>B
def outs(np:H)(σ:St):H->I Arg->F (I Out×Ups)
 |_,[]=>D ([],[])
 |i,a::as=>match outs np σ (i+1) as with
  |some (os,u)=>match a with
   |.ref _=>match σ.bx (i*64) with
    |.live (.cell ls J)=>match tvs (λk=>if parK np k then .gone else mskM σ.bx k) ls with
     |some (xs,u')=>D (.ref xs::os,u'++u)
     |none=>B
    |_=>B
   |.rl e x=>match σ.bx (i*64) with
    |.live (.lst e' a xs J)=>if e'=e/\x.t = .list a then D (.rl ⟨.list a,xs⟩::os,u) else B
    |_=>B
   |_=>D (os,u)
  |none=>B
def hdOf(σ:St):Leaf->F H
 |.ol 0=>match σ.bx 0 with
  |.live (.lst e _ xs J)=>if isM e then B else D xs.length
  |_=>B
 |.hd 0 i=>match σ.bx 0 with
  |.live (.lst _ _ _ J)=>D i
  |_=>B
 |_=>B
def jBJ(E:Env)(fn:Func)(args:I Arg)(σ:St):F Ret:=
 match args,fn.results.toList with
 |.rl _ _::_,[r]=>match jkd E σ r,outs E.np σ 0 args with
  |some (.one l),D (os,_)=>match hdOf σ l with
   |some m=>D ⟨[.hd m],os⟩
   |none=>B
  |_,_=>B
 |_,_=>B
def nilV(E:Env)(σ:St)(rs:I ë)(vs:I RV):F (I RV):=
 if E.ns.isEmpty then D vs else match rs,vs with
  |[r],[.v x]=>match jkd E σ r with
   |some (.st ls)=>if E.ns.all (λi=>match ls[i]? with|some .nil=>U|_=>J) then D [.vn x E.ns] else B
   |_=>B
  |_,_=>B
def jdY(ns:I H):Leaf->X
 |.dead|.nil|.d _ _=>U
 |.ol k|.bp k _=>ns.contains k
 |_=>J
def jpU(ns:I H):Cel->X
 |.one l=>jdY ns l
 |.st ls=>ls.all (jdY ns)
 |.av _ _ _=>U
def jAe(ns:I H):BS->X
 |.live (.cell ls _)=>ls.all (jdY ns)
 |.live (.lst _ _ _ _)=>U
 |.live (.arr _ _ _)=>U
 |.live (.row _ _ _ ls)=>ls.all (jdY ns)
 |_=>U
def jke(E:Env)(σ:St):I ë->F (I Cel)
 |[]=>D []
 |r::rs=>match jkd E σ r,jke E σ rs with
  |some c,D cs=>D (c::cs)
  |_,_=>B
def ju8:Arg->X
 |.ref _=>U
 |.mv _ _=>U
 |.rl _ _=>U
 |_=>J
def jz6(E:Env)(fn:Func)(args:I Arg)(σ:St):F Ret:=
 match jke E σ fn.results.toList with
 |some cs=>if jbG E.rn&&(E.rn.all (λk=> !parK E.np k&&jAe E.rn (σ.bx k))&&(cs.all (jpU E.rn)&&args.all (λa=> !ju8 a))) then
  D ⟨[.raw E.rn (cs.map .s++E.rn.map λk=> .b (σ.bx k))],[]⟩ else B
 |none=>B
def jmZ(E:Env)(fn:Func)(args:I Arg)(σ:St):F Ret:=
 if E.rw then jz6 E fn args σ else
 if E.hd then jBJ E fn args σ else
 match jaQ E σ E.ro fn.results.toList fn.resultTypes.toList,outs E.np σ 0 args with
 |some (vs,ks,u),D (os,u')=>
  if jbG ks&&(u++u').all (λe=> !ks.contains e.1) then match nilV E σ fn.results.toList vs with
   |some vs'=>D ⟨vs',os⟩
   |none=>B
  else B
 |_,_=>B
def jhn(E:Env){R:Type}(fn:Func)(args:I Arg)(k:Ret->F R):F R:=
 if args.length=E.np then match fn.body with
 |some c=>j0V E 0 c (St.init args) λe σ=>match e with
  |.exit _=>B
  |_=>match jmZ E fn args σ with
   |some r=>k r
   |none=>B
 |none=>B
 else B
def All2{α β:Type}(R:α->β->Prop):I α->I β->Prop
 |[],[]=>True
 |a::as,b::bs=>R a b/\All2 R as bs
 |_,_=>Ü
section All2
variable{α β γ:Type}{R R':α->β->Prop}
theorem All2.length:∀{as:I α}{bs:I β},All2 R as bs->as.length=bs.length
 |[],[],_=>rfl
 |_::_,_::_,h=>by simp[All2.length h.2]
 |[],_::_,h=>h.elim
 |_::_,[],h=>h.elim
theorem All2.mono(hr:∀a b,R a b->R' a b):∀{as:I α}{bs:I β},All2 R as bs->All2 R' as bs
 |[],[],_=>trivial
 |_::_,_::_,h=>⟨hr _ _ h.1,All2.mono hr h.2⟩
 |[],_::_,h=>h.elim
 |_::_,[],h=>h.elim
theorem All2.get:∀{as:I α}{bs:I β},All2 R as bs->∀(i:H)(a:α),as[i]? = D a->∃b,bs[i]? = D b/\R a b
 |[],[],_,i,a,h=>by simp at h
 |a::as,b::bs,h,0,a',he=>by simp at he;subst he;exact⟨b,smp_,h.1⟩
 |a::as,b::bs,h,i+1,a',he=>by
  obtain⟨b',hb,hr⟩:=All2.get h.2 i a' (by simpa using he)
  simp_all
 |[],_::_,h,_,_,_=>h.elim
 |_::_,[],h,_,_,_=>h.elim
theorem All2.append:∀{as:I α}{bs:I β}{as':I α}{bs':I β},All2 R as bs->All2 R as' bs'->All2 R (as++as') (bs++bs')
 |[],[],_,_,_,h'=>h'
 |_::_,_::_,_,_,h,h'=>⟨h.1,All2.append h.2 h'⟩
 |[],_::_,_,_,h,_=>h.elim
 |_::_,[],_,_,h,_=>h.elim
theorem All2.take:∀{as:I α}{bs:I β},All2 R as bs->∀n,All2 R (as.take n) (bs.take n)
 |[],[],_,n=>by simp[All2]
 |_::_,_::_,_,0=>by simp[All2]
 |_::_,_::_,h,n+1=>⟨h.1,All2.take h.2 n⟩
 |[],_::_,h,_=>h.elim
 |_::_,[],h,_=>h.elim
theorem All2.drop:∀{as:I α}{bs:I β},All2 R as bs->∀n,All2 R (as.drop n) (bs.drop n)
 |[],[],_,n=>by simp[All2]
 |_::_,_::_,h,0=>h
 |_::_,_::_,h,n+1=>All2.drop h.2 n
 |[],_::_,h,_=>h.elim
 |_::_,[],h,_=>h.elim
theorem All2.set:∀{as:I α}{bs:I β},All2 R as bs->∀i a b,R a b->All2 R (as.set i a) (bs.set i b)
 |[],[],_,i,_,_,_=>by simp[All2]
 |_::_,_::_,h,0,_,_,hr=>⟨hr,h.2⟩
 |_::_,_::_,h,i+1,_,_,hr=>⟨h.1,All2.set h.2 i _ _ hr⟩
 |[],_::_,h,_,_,_,_=>h.elim
 |_::_,[],h,_,_,_,_=>h.elim
theorem All2.map_left{f:γ->α}:∀{cs:I γ}{bs:I β},All2 R (cs.map f) bs↔All2 (λc b=>R (f c) b) cs bs
 |[],[]=>Iff.rfl
 |_::_,_::_=>and_congr_right λ_=>All2.map_left
 |[],_::_=>Iff.rfl
 |_::_,[]=>Iff.rfl
theorem All2.mem_right:∀{as:I α}{bs:I β},All2 R as bs->∀b∈bs,∃a∈as,R a b
 |[],[],_,b,hb=>by simp at hb
 |a::as,b::bs,h,b',hb=>by
  rcases List.mem_cons.1 hb with rfl|hb
  .exact⟨a,smp_,h.1⟩
  .obtain⟨a',ha,hr⟩:=All2.mem_right h.2 b' hb;grind
 |[],_::_,h,_,_=>h.elim
 |_::_,[],h,_,_=>h.elim
end All2
theorem jjH{α β γ:Type}{R:α->β->Prop}{R':γ->β->Prop}{ls:I α}{xs:I γ}{l:I β}(h:All2 R ls (l.take ls.length))(h':All2 R' xs (l.take ls.length)):xs.length=ls.length:=
 h'.length.trans h.length.symm
def One(u:O):Prop:=u.oneCell'=U
abbrev j09:=H->H->Prop
def Lies(S:j09)(w:À)(g o:H)(cs:I O):Prop:=
 ∀j v,cs[j]? = D v->S g (o+j)/\w.cell? ⟨g,o+j,B⟩=D v
def Rep(S:j09)(w:À):(t:Ty)->t.den->I O->Prop
 |.int k,n,cs=>cs=[.int k n]
 |.bool,b,cs=>cs=[.bool b]
 |.str,s,cs=>cs=[.string s]
 |.unit,_,cs=>cs=[]
 |.wrap a,v,cs=>Rep S w a v cs
 |.pair a b,v,cs=>∃c1 c2,cs=c1++c2/\Rep S w a v.1 c1/\Rep S w b v.2 c2
 |.list a,xs,cs=>∃ad cap,cs=[.slice ad (É xs) cap]/\É xs<=cap/\cap<=maxLen/\(ad=B->cap=0)/\
  ∀b,ad=D b->(xs≠[]->b.spot=B)/\∃css,All2 (λx c=>Rep S w a x c) xs css/\Lies S w b.block b.off css.flatten
 |.arr n a,xs,cs=>É xs=n/\∃css,All2 (λx c=>Rep S w a x c) xs css/\cs=css.flatten
def j3m(S:j09)(w:À)(S':j09)(w':À):Prop:=
 ∀g o,S g o->S' g o/\w'.cell? ⟨g,o,B⟩=w.cell? ⟨g,o,B⟩
theorem j3m.refl(S:j09)(w:À):j3m S w S w:=λ_ _ h=>⟨h,rfl⟩
theorem j3m.trans{S S' S'':j09}{w w' w'':À}(h:j3m S w S' w')(h':j3m S' w' S'' w''):j3m S w S'' w'':=
 λg o hs=>⟨(h' g o (h g o hs).1).1,((h' g o (h g o hs).1).2).trans (h g o hs).2⟩
theorem Lies.keep{S S':j09}{w w':À}(h:j3m S w S' w'){g o:H}{cs:I O}(hl:Lies S w g o cs):Lies S' w' g o cs:=
 λj v hv=>let ⟨hs,hc⟩:=hl j v hv;⟨(h _ _ hs).1,(h _ _ hs).2.trans hc⟩
theorem Rep.keep{S S':j09}{w w':À}(h:j3m S w S' w'):∀(t:Ty)(v:t.den)(cs:I O),Rep S w t v cs->Rep S' w' t v cs
 |.int _,_,_,hr=>hr
 |.bool,_,_,hr=>hr
 |.str,_,_,hr=>hr
 |.unit,_,_,hr=>hr
 |.wrap a,v,cs,hr=>Rep.keep h a v cs hr
 |.pair a b,_,_,⟨c1,c2,e,h1,h2⟩=>⟨c1,c2,e,Rep.keep h a _ _ h1,Rep.keep h b _ _ h2⟩
 |.list a,_,_,⟨ad,cap,e,h1,h2,h3,h4⟩=>⟨ad,cap,e,h1,h2,h3,λb hb=>by
  obtain⟨hs,css,ha,hl⟩:=h4 b hb;exact⟨hs,css,ha.mono (λx c hx=>Rep.keep h a x c hx),hl.keep h⟩⟩
 |.arr _ a,_,_,⟨hn,css,ha,e⟩=>⟨hn,css,ha.mono (λx c hx=>Rep.keep h a x c hx),e⟩
theorem All2.flatten_length{α:Type}{R:α->I O->Prop}{n:H}(hr:∀x c,R x c->c.length=n) :
  ∀{xs:I α}{css:I (I O)},All2 R xs css->css.flatten.length=xs.length*n
 |[],[],_=>smp_
 |_::xs,c::css,h=>by
  have:=All2.flatten_length hr h.2;simp only[List.flatten_cons,Ù,hr _ _ h.1,this,î,Nat.add_mul];omega
 |[],_::_,h=>h.elim
 |_::_,[],h=>h.elim
theorem Rep.length{S:j09}{w:À}:∀(t:Ty)(v:t.den)(cs:I O),Rep S w t v cs->cs.length=t.size
 |.int _,_,_,hr=>by rw[hr];rfl
 |.bool,_,_,hr=>by rw[hr];rfl
 |.str,_,_,hr=>by rw[hr];rfl
 |.unit,_,_,hr=>by rw[hr];rfl
 |.wrap a,v,cs,hr=>Rep.length a v cs hr
 |.pair a b,_,_,⟨c1,c2,e,h1,h2⟩=>by rw[e,Ù,Rep.length a _ _ h1,Rep.length b _ _ h2];rfl
 |.list _,_,_,⟨ad,cap,e,_⟩=>by rw[e];rfl
 |.arr n a,xs,cs,⟨hn,css,ha,e⟩=>by
  rw[e,All2.flatten_length (λx c hx=>Rep.length a x c hx) ha,hn];rfl
theorem Rep.one{S:j09}{w:À}:∀(t:Ty)(v:t.den)(cs:I O),Rep S w t v cs->∀u∈cs,One u
 |.int _,_,_,hr=>by rw[hr];intro u hu;simp at hu;subst hu;rfl
 |.bool,_,_,hr=>by rw[hr];intro u hu;simp at hu;subst hu;rfl
 |.str,_,_,hr=>by rw[hr];intro u hu;simp at hu;subst hu;rfl
 |.unit,_,_,hr=>by rw[hr];intro u hu;simp at hu
 |.wrap a,v,cs,hr=>Rep.one a v cs hr
 |.pair a b,_,_,⟨c1,c2,e,h1,h2⟩=>by
  rw[e];intro u hu;rcases List.mem_append.1 hu with hu|hu
  .exact Rep.one a _ _ h1 u hu
  .exact Rep.one b _ _ h2 u hu
 |.list _,_,_,⟨ad,cap,e,_⟩=>by rw[e];intro u hu;simp at hu;subst hu;rfl
 |.arr n a,xs,cs,⟨hn,css,ha,e⟩=>by
  rw[e];intro u hu;obtain⟨c,hc,huc⟩:=List.mem_flatten.1 hu;obtain⟨x,_,hx⟩:=ha.mem_right c hc;exact Rep.one a x c hx u huc
def j82(S:j09)(w:À):Cap->O->Prop
 |.v x,u=>x.t.leafy=U/\Rep S w x.t x.v [u]
 |.p ls,u=>∃g o cs,u = .pointer (D ⟨g,o,B⟩)/\All2 (λx z=>Rep S w x.t x.v [z]) ls cs/\Lies S w g o cs
def j08(S:j09)(w:À)(γ:H->O)(bx:H->BS):Leaf->O->Prop
 |.dead,_=>True
 |.nil,u=>u = .slice B 0 0
 |.d t v,u=>Rep S w t v [u]
 |.ol k,u=>bx k ≠ .free/\One u/\∀b,bx k = .live b->u=γ k
 |.bp k c,u=>bx k ≠ .free/\One u/\∀b,bx k = .live b->∃g,γ k = .pointer (D ⟨g,0,B⟩)/\u = .pointer (D ⟨g,c,B⟩)
 |.ep k i c,u=>bx k ≠ .free/\One u/\∀b,bx k = .live b->match b with
  |.lst e a xs _=>isM e=J/\i<xs.length/\∃g cap,γ k = .slice (D ⟨g,0,B⟩) xs.length cap/\u = .pointer (D ⟨g,i*a.size+c,B⟩)
  |.arr n a _=>i<n/\∃g,γ k = .pointer (D ⟨g,0,B⟩)/\u = .pointer (D ⟨g,i*a.size+c,B⟩)
  |.row e a n _=>isM e=J/\i<n/\∃g cap,γ k = .slice (D ⟨g,0,B⟩) n cap/\u = .pointer (D ⟨g,i*a.size+c,B⟩)
  |.cell _ _=>Ü
 |.tl k i,u=>bx k ≠ .free/\One u/\∀b,bx k = .live b->match b with
  |.lst e a xs _=>isM e=J/\i<=xs.length/\∃ad cap,γ k = .slice ad xs.length cap/\u = .slice (if cap=i then ad else ad.map (·.add (i*a.size))) (xs.length-i) (cap-i)
  |.arr _ _ _=>Ü
  |.row _ _ _ _=>Ü
  |.cell _ _=>Ü
 |.hd k i,u=>bx k ≠ .free/\One u/\∀b,bx k = .live b->match b with
  |.lst e _ xs _=>isM e=J/\i<=xs.length/\∃ad cap,γ k = .slice ad xs.length cap/\u = .slice ad i cap
  |.arr _ _ _=>Ü
  |.row _ _ _ _=>Ü
  |.cell _ _=>Ü
 |.ip ls,u=>∃g o cs,u = .pointer (D ⟨g,o,B⟩)/\All2 (λx z=>Rep S w x.t x.v [z]) ls cs/\Lies S w g o cs
 |.clo f caps,u=>∃cv:Ê O,u = .func (.func f) #[] cv/\All2 (j82 S w) caps cv.toList
def j0m(S:j09)(w:À)(γ:H->O)(bx:H->BS):Cel->O->Prop
 |.one x,u=>j08 S w γ bx x u/\(x ≠ .dead->One u)
 |.st ls,u=>∃cs:Ê O,u = .agg cs/\All2 (j08 S w γ bx) ls cs.toList/\∀x∈cs.toList,One x
 |.av n a xs,u=>∃cs:Ê O,u = .agg cs/\Rep S w (.arr n a) xs cs.toList
def j4i(S:j09)(w:À)(γ:H->O)(bx:H->BS)(tm:H->O):Slot->O->Prop
 |.one c,u=>j0m S w γ bx c u
 |.tup l,u=>∃vs:Ê O,u = .tuple vs/\All2 (j0m S w γ bx) l vs.toList
 |.cnd s b c,u=>(tm s = .bool b/\j0m S w γ bx c u)\/(tm s ≠ .bool b/\u=undef)
 |.und,u=>u=undef
def blk:O->F H
 |.pointer (D a)=>D a.block
 |.slice (D a) _ _=>D a.block
 |.map (D g)=>D g
 |_=>B
def jdn:Ty->X
 |.arr _ _=>U
 |t=>t.agg
def VRep(S:j09)(w:À)(x:TV)(u:O):Prop:=
 Rep S w x.t x.v u.cells.toList/\(jdn x.t=U->∃cs,u = .agg cs)/\(jdn x.t=J->One u)
theorem VRep.keep{S S':j09}{w w':À}(h:j3m S w S' w'){x:TV}{u:O}(hv:VRep S w x u):VRep S' w' x u:=
 ⟨Rep.keep h _ _ _ hv.1,hv.2⟩
def jjm(es:Ê MapEntry)(clock:H):Prop:=MapKept.Stamped es clock/\es.toList.map (·.born)=Ó clock
def jop(S:j09)(w:À):(a:Ty)->I a.den->O->Prop
 |.pair k b,xs,u=>∃g es clock,u = .map (D g)/\w.heap[g]? = D (.map es clock)/\All2 (λ(x:k.den×b.den)(e:MapEntry)=>Rep S w k x.1 [e.key]/\VRep S w ⟨b,x.2⟩ e.val) xs es.toList/\jjm es clock
 |_,_,_=>Ü
def jeZ(S:j09)(w:À)(e:H)(a:Ty)(xs:I a.den)(u:O):Prop:=
 (isM e=J/\∃css,w.ownsRow 0 e a.size u xs.length css.flatten/\All2 (λx c=>Rep S w a x c) xs css)\/(isM e=U/\jop S w a xs u)
theorem jop.keep{S S':j09}{w w':À}(h:j3m S w S' w'):∀{a:Ty}{xs:I a.den}{u:O},(∀g,blk u=D g->w'.heap[g]? = w.heap[g]?)->jop S w a xs u->jop S' w' a xs u
 |.pair k b,xs,u,hg,⟨g,es,clock,hu,hh,ha,hq⟩=>⟨g,es,clock,hu,(hg g (by rw[hu];rfl)).trans hh,ha.mono λx e hx=>⟨Rep.keep h _ _ _ hx.1,VRep.keep h hx.2⟩,hq⟩
theorem jeZ.keep{S S':j09}{w w':À}(h:j3m S w S' w'){e:H}{a:Ty}{xs:I a.den}{u:O}(hg:∀g,blk u=D g->w'.heap[g]? = w.heap[g]?)(hl:jeZ S w e a xs u):jeZ S' w' e a xs u:=by
 rcases hl with⟨hm,css,h1,h2⟩|⟨hm,h1⟩
 .refine .inl ⟨hm,css,⟨h1.1,?_⟩,h2.mono (λx c hx=>Rep.keep h _ _ _ hx)⟩;rcases h1.2 with hn|⟨g,cap,cur,hv,hb0,hh,rest⟩
  .exact .inl hn
  .exact .inr ⟨g,cap,cur,hv,hb0,(hg g (by rw[hv];rfl)).trans hh,rest⟩
 .exact .inr ⟨hm,h1.keep h hg⟩
theorem jeZ.lt{S:j09}{w:À}{e:H}{a:Ty}{xs:I a.den}{u:O}(hl:jeZ S w e a xs u){g:H}(hg:blk u=D g):g<w.heap.size:=by
 rcases hl with⟨hm,css,h1,h2⟩|⟨hm,h1⟩
 .rcases h1.2 with⟨hn,_⟩|⟨g',cap,cur,hv,hb0,hh,rest⟩;all_goals grind[blk]
 .revert h1
  cases a with
  |pair k b=>
   rintro⟨g',es,clock,hu,hh,ha⟩
   grind[blk]
  |_=>exactλh=>h.elim
theorem jeZ.one{S:j09}{w:À}{e:H}{a:Ty}{xs:I a.den}{u:O}(hl:jeZ S w e a xs u):One u:=by
 rcases hl with⟨hm,css,h1,h2⟩|⟨hm,h1⟩
 .rcases h1.2 with⟨hn,_⟩|⟨g',cap,cur,hv,_⟩
  .rw[hn];rfl
  .rw[hv];rfl
 .revert h1
  cases a with
  |pair k b=>rintro⟨g',es,clock,hu,_⟩;rw[hu];rfl
  |_=>exactλh=>h.elim
def j2i(S:j09)(w:À)(γ:H->O)(bx:H->BS)(k:H):Bx->Prop
 |.cell ls frz=>∃g cur e,γ k = .pointer (D ⟨g,0,B⟩)/\w.heap[g]? = D (.cells cur e (0,0))/\All2 (j08 S w γ bx) ls (cur.toList.take ls.length)/\
  (∀u∈cur.toList.take ls.length,One u)/\(frz=J->∀o,¬S g o)/\(frz=U->∀o,o<cur.size->S g o)
 |.lst e a xs frz=>jeZ S w e a xs (γ k)/\
  ∀g,blk (γ k)=D g->(frz=J->∀o,¬S g o)/\(frz=U->∀o,S g o↔o<xs.length*a.size)
 |.arr n a xs=>∃g cur e,γ k = .pointer (D ⟨g,0,B⟩)/\w.heap[g]? = D (.cells cur e (0,0))/\Rep S w (.arr n a) xs cur.toList/\∀o,¬S g o
 |.row e a n ls=>isM e=J/\(∃cs,w.ownsRow 0 e a.size (γ k) n cs/\All2 (j08 S w γ bx) ls cs/\∀u∈cs,One u)/\∀g,blk (γ k)=D g->∀o,¬S g o
theorem j6U{S:j09}{w:À}{γ:H->O}{bx:H->BS}{k e:H}{a:Ty}{xs:I a.den}{frz:X}(hm:isM e=J)(h:j2i S w γ bx k (.lst e a xs frz)) :
  ∃css,w.ownsRow 0 e a.size (γ k) xs.length css.flatten/\All2 (λx c=>Rep S w a x c) xs css/\
   ∀g,blk (γ k)=D g->(frz=J->∀o,¬S g o)/\(frz=U->∀o,S g o↔o<xs.length*a.size):=by
 obtain⟨h1,h2⟩:=h;rcases h1 with⟨_,css,h3,h4⟩|⟨h3,_⟩;all_goals grind
theorem jru{S:j09}{w:À}{γ:H->O}{bx:H->BS}{k e:H}{a:Ty}{xs:I a.den}{frz:X}{ad:F Addr}{n c:H}(hs:γ k = .slice ad n c)(h:j2i S w γ bx k (.lst e a xs frz)) :
  ∃css,w.ownsRow 0 e a.size (γ k) xs.length css.flatten/\All2 (λx c=>Rep S w a x c) xs css/\
   ∀g,blk (γ k)=D g->(frz=J->∀o,¬S g o)/\(frz=U->∀o,S g o↔o<xs.length*a.size):=by
 obtain⟨h1,h2⟩:=h;rcases h1 with⟨_,css,h3,h4⟩|⟨_,h3⟩
 .grind
 .revert h3
  rw[hs];cases a with
  |pair k b=>rintro⟨g',es,clock,hu,_⟩;simp at hu
  |_=>exactλh=>h.elim
theorem jBK{S:j09}{w:À}{γ:H->O}{bx:H->BS}{k e:H}{a:Ty}{xs:I a.den}{frz:X}{ad:F Addr}{n c:H}(hs:γ k = .slice ad n c)(h:j2i S w γ bx k (.lst e a xs frz)):isM e=false:=by
 rcases h.1 with⟨h1,_⟩|⟨_,h3⟩
 .exact h1
 .revert h3
  rw[hs];cases a with
  |pair k b=>rintro⟨g',es,clock,hu,_⟩;simp at hu
  |_=>exactλh=>h.elim
theorem jip{S:j09}{w:À}{γ:H->O}{bx:H->BS}{k e:H}{a:Ty}{xs:I a.den}{frz:X}(hm:isM e=J) (h:∃css,w.ownsRow 0 e a.size (γ k) xs.length css.flatten/\All2 (λx c=>Rep S w a x c) xs css/\
  ∀g,blk (γ k)=D g->(frz=J->∀o,¬S g o)/\(frz=U->∀o,S g o↔o<xs.length*a.size)):j2i S w γ bx k (.lst e a xs frz):=by
 obtain⟨css,h1,h2,h3⟩:=h;exact⟨.inl ⟨hm,css,h1,h2⟩,h3⟩
def j1W:Bx->Bx->Prop
 |.cell _ _,.cell _ _=>True
 |.lst e a xs _,.lst e' a' xs' _=>e=e'/\a=a'/\(isM e=J->xs.length=xs'.length)
 |.arr n a _,.arr n' a' _=>n=n'/\a=a'
 |.row e a n _,.row e' a' n' _=>e=e'/\a=a'/\n=n'
 |.row e a n _,.lst e' a' xs' _=>e=e'/\a=a'/\isM e=J/\n=xs'.length
 |_,_=>Ü
theorem j1W.refl(b:Bx):j1W b b:=by cases b<;>simp[j1W]
theorem j1W.trans{a b c:Bx}(h:j1W a b)(h':j1W b c):j1W a c:=by
 cases a<;>cases b<;>cases c<;>simp only[j1W]at h h' ⊢ <;> first
  |exact h.elim
  |exact h'.elim
  |(obtain⟨rfl,rfl,rfl⟩:=h;exact h')
  |(obtain⟨rfl,rfl,h3,h4⟩:=h;obtain⟨rfl,rfl,h5⟩:=h';exact⟨rfl,rfl,h3,h4.trans (h5 h3)⟩)
  |(obtain⟨rfl,rfl,h3⟩:=h;obtain⟨rfl,rfl,h4⟩:=h';exact⟨rfl,rfl,λhm=>(h3 hm).trans (h4 hm)⟩)
  |exact⟨h.1.trans h'.1,h.2.trans h'.2⟩
def BxLe(γ:H->O)(bx:H->BS)(γ':H->O)(bx':H->BS):Prop:=
 ∀k,bx k ≠ .free->bx' k ≠ .free/\γ' k=γ k/\∀b',bx' k = .live b'->∃b,bx k = .live b/\j1W b b'
theorem BxLe.refl(γ:H->O)(bx:H->BS):BxLe γ bx γ bx:=λ_ h=>⟨h,rfl,λb hb=>⟨b,hb,.refl b⟩⟩
section keeps
variable{S S':j09}{w w':À}{γ γ':H->O}{bx bx':H->BS}(hk:j3m S w S' w')(hb:BxLe γ bx γ' bx')
include hk
theorem j82.keep{x:Cap}{u:O}(h:j82 S w x u):j82 S' w' x u:=by
 cases x with
 |v x=>exact⟨h.1,Rep.keep hk _ _ _ h.2⟩
 |p ls=>obtain⟨g,o,cs,hu,ha,hl⟩:=h;exact⟨g,o,cs,hu,ha.mono (λx z hx=>Rep.keep hk _ _ _ hx),hl.keep hk⟩
include hb
theorem j08.keep{x:Leaf}{u:O}(h:j08 S w γ bx x u):j08 S' w' γ' bx' x u:=by
 cases x with
 |dead=>trivial
 |nil=>exact h
 |d t v=>exact Rep.keep hk _ _ _ h
 |ol k=>obtain⟨h1,h2,h3⟩:=h;obtain⟨b1,b2,b3⟩:=hb k h1;exact⟨b1,h2,λb hb'=>by grind⟩
 |bp k c=>obtain⟨h1,h2,h3⟩:=h;obtain⟨b1,b2,b3⟩:=hb k h1;exact⟨b1,h2,λb hb'=>by grind⟩
 |ep k i c=>obtain⟨h1,h2,h3⟩:=h;obtain⟨b1,b2,b3⟩:=hb k h1;refine⟨b1,h2,λb hb'=>?_⟩;obtain⟨b0,hb0,hs⟩:=b3 b hb';grind[j1W]
 |tl k i=>obtain⟨h1,h2,h3⟩:=h;obtain⟨b1,b2,b3⟩:=hb k h1;refine⟨b1,h2,λb hb'=>?_⟩;grind[j1W]
 |hd k i=>obtain⟨h1,h2,h3⟩:=h;obtain⟨b1,b2,b3⟩:=hb k h1;refine⟨b1,h2,λb hb'=>?_⟩;grind[j1W]
 |ip ls=>obtain⟨g,o,cs,hu,ha,hl⟩:=h;exact⟨g,o,cs,hu,ha.mono (λx z hx=>Rep.keep hk _ _ _ hx),hl.keep hk⟩
 |clo f caps=>obtain⟨cv,hu,ha⟩:=h;exact⟨cv,hu,ha.mono (λx z hx=>j82.keep hk hx)⟩
theorem j0m.keep{x:Cel}{u:O}(h:j0m S w γ bx x u):j0m S' w' γ' bx' x u:=by
 cases x with
 |one x=>exact⟨j08.keep hk hb h.1,h.2⟩
 |st ls=>obtain⟨cs,hu,ha,h1⟩:=h;exact⟨cs,hu,ha.mono (λx z hx=>j08.keep hk hb hx),h1⟩
 |av n a xs=>obtain⟨cs,hu,ha⟩:=h;exact⟨cs,hu,Rep.keep hk _ _ _ ha⟩
theorem j4i.keep{tm:H->O}{x:Slot}{u:O}(h:j4i S w γ bx tm x u):j4i S' w' γ' bx' tm x u:=by
 cases x with
 |one c=>exact j0m.keep hk hb h
 |tup l=>obtain⟨vs,hu,ha⟩:=h;exact⟨vs,hu,ha.mono (λx z hx=>j0m.keep hk hb hx)⟩
 |cnd s b c=>exact h.imp (λh=>⟨h.1,j0m.keep hk hb h.2⟩) id
 |und=>exact h
end keeps
structure Refs where
 blks:I H
 val:H->F O
 ds:I Deferred:=[]
 kw:H->F Obj:=λ_=>B
 fix:H->F Value:=λ_=>B
 mv:I Nat:=[]
instance:Membership H Refs:=⟨λr g=>g∈r.blks⟩
def Own(w0:À)(refs:Refs)(g:H):Prop:=w0.heap.size<=g\/(g∈refs.mv/\g∈refs)
theorem Own.nil{w0:À}{refs:Refs}{g:H}(h:Own w0 refs g)(hm:refs.mv=[]):w0.heap.size<=g:=h.elim id λh=>by simp_all
theorem Own.swap{w0:À}{refs refs':Refs}{g:H}(h:Own w0 refs g)(hb:refs'.blks=refs.blks)(hm:refs'.mv=refs.mv):Own w0 refs' g:=h.imp id λh=>⟨hm▸h.1,by show g∈refs'.blks;rw[hb];exact h.2⟩
theorem Own.no{w0:À}{refs:Refs}{g:H}(h:Own w0 refs g)(h1:g<w0.heap.size)(h2:g∉refs):False:=h.elim (λh=>omg_) λh=>h2 h.2
structure Rel(N:NT)(np:H)(S0:j09)(w0:À)(refs:Refs)(σ:St)(a:ï)(w:À)(S:j09)(γ:H->O):Prop where
 size:a.tmps.size=N.n
 defers:a.defers=refs.ds
 slot:∀i,j4i S w γ σ.bx (λj=>a.tmps.getD j undef) (σ.sl i) (a.tmps.getD i undef)
 box:∀k b,σ.bx k = .live b->j2i S w γ σ.bx k b
 own:∀k b g,σ.bx k = .live b->blk (γ k)=D g->Own w0 refs g\/(g∈refs/\parK np k=U)
 apart:∀k k' b b' g,k≠k'->σ.bx k = .live b->σ.bx k' = .live b'->blk (γ k)=D g->blk (γ k')≠D g
 ext:∀g o,S0 g o->S g o
 new:∀g o,S g o->S0 g o\/Own w0 refs g
 here:∀g o,S g o->g<w.heap.size
 below:∀g,g<w0.heap.size->g∉refs->w.heap[g]? = w0.heap[g]?
 grow:w0.heap.size<=w.heap.size
 os:w.os=w0.os
 tape:w.tape=w0.tape
 output:w.output=w0.output
 par:∀k v,refs.val k=D v->parK np k=U/\σ.bx k ≠ .free/\γ k=v
 kept:∀g o,refs.kw g=D o->w.heap[g]? = D o/\∀k b,σ.bx k = .live b->blk (γ k)≠D g
 fix:∀i v,refs.fix i=D v->N.pin i=U/\a.tmps.getD i undef=v
section
variable{N:NT}{np:H}{S0:j09}{w0:À}{refs:Refs}{σ:St}{a:ï}{w:À}{S:j09}{γ:H->O}
theorem Rel.kw_live(hR:Rel N np S0 w0 refs σ a w S γ){k:H}{b:Bx}{g:H}(hk:σ.bx k = .live b)(hg:blk (γ k)=D g):refs.kw g=none:=by
 cases h:refs.kw g with
 |none=>rfl
 |some o=>exact absurd hg ((hR.kept g o h).2 k b hk)
theorem Rel.kw_new(hR:Rel N np S0 w0 refs σ a w S γ){g:H}(hg:w.heap.size<=g):refs.kw g=none:=by
 cases h:refs.kw g with
 |none=>rfl
 |some o=>have:=(Array.getElem?_eq_some_iff.1 (hR.kept g o h).1).1;omega
def jdo:Ty->I O
 |.int k=>[.int k 0]
 |.bool=>[.bool J]
 |.str=>[.string ByteArray.empty]
 |.unit=>[]
 |.wrap a=>jdo a
 |.pair a b=>jdo a++jdo b
 |.list _=>[.slice B 0 0]
 |.arr n a=>(Ç n (jdo a)).flatten
def jAf:O->O->X
 |.int k n,.int k' n'=>Y (k=k')&&Y (n=n')
 |.bool b,.bool b'=>b==b'
 |.string s,.string s'=>Y (s.data.toList=s'.data.toList)
 |.slice B 0 0,.slice B 0 0=>U
 |_,_=>J
def jme:I O->I O->X
 |[],[]=>U
 |a::l,b::l'=>jAf a b&&jme l l'
 |_,_=>J
theorem jxw{a b:O}(h:jAf a b=U):a=b:=by
 unfold jAf at h;split at h<;>simp_all;rename_i s s';cases s;cases s';simp_all
theorem joq:∀{l l':I O},jme l l'=U->l=l'
 |[],[],_=>rfl
 |a::l,b::l',h=>by
  simp only[jme,Â]at h;rw[jxw h.1,joq h.2]
 |[],_::_,h=>by simp[jme]at h
 |_::_,[],h=>by simp[jme]at h
def aggD:Ú->X
 |.struct _|.array _ _=>U
 |_=>J
def jrv(T:H->F TyI)(e:H)(a:Ty):Bool:=
 match T e with
 |some te=>Y (te.ty=D a)
 |none=>J
def j91(T:H->F TyI)(ti:TyI)(t:Ty):Ú->X
 |.int k=>Y (t = .int k)
 |.bool=>Y (t = .bool)
 |.string=>Y (t = .str)
 |.slice e=>match t with
  |.list a=>Y (e=ti.elem)&&jrv T e a&&Y (0<a.size)
  |_=>J
 |.array n e=>match t with
  |.arr n' a=>Y (n=n')&&Y (e=ti.elem)&&jrv T e a&&Y (0<a.size)
  |_=>J
 |.struct _=>t.agg
 |_=>J
def jor(T:H->F TyI)(ti:TyI):Ú->X
 |.struct fs=>Y (fs.toList.map (λf=>(f.offset,f.type))=ti.flds)&&fs.toList.all (λf=>match T f.type with|some tf=>Y (0<tf.size)|none=>J)
 |_=>ti.flds.isEmpty
def jdp(P:Á)(f:È->F (I Ty)):H->I Field->F (I Ty)
 |_,[]=>D []
 | n, x :: xs => if x.name != "_" && Y (x.offset = n) then
   match f x.type with
   |some ks=>if (P.info? x.type).map (·.size)=D ks.length then match jdp P f (n+ks.length) xs with
     |some r=>D (ks++r)
     |none=>B
    else B
   |none=>B
  else B
def jas(P:Á):H->È->F (I Ty)
 |0,_=>B
 |d+1,t=>match P.underlying t with
  |some (.int k)=>D [.int k]
  |some .bool=>D [.bool]
  |some .string=>D [.str]
  |some (.struct fs)=>if P.stoodInHeld t then B else jdp P (jas P d) 0 fs.toList
  |_=>B
def jAg(P:Á)(t:È)(ks:I Ty):Bool:=
 Y (jas P 12 t=D ks) && !P.eqGuardType P.depth t&&(match P.underlying t with|some (.struct _)=>U|_=>J)
def mpOk(ti:TyI)(d:Ú):Bool:=match ti.mp with
 |none=>U
 |some (k,v)=>match d with
  |.map k' v'=>Y (k=k')&&Y (v=v')
  |_=>J
def zOk(i:ö)(d:Ú):Bool:=match i.zero with
 |some (.agg _)=>aggD d
 |some (.tuple _)=>J
 |_=> !aggD d
def tyOk(P:Á)(T:H->F TyI)(n:H)(ti:TyI):Bool:=
 match P.info? n,P.underlying n with
 |some i,D d=>Y (i.size=ti.size)&&Y (i.bytes<=32768)&&Y (ti.agg=aggD d)&&jor T ti d&&(((ti.cmp.isEmpty||jAg P n ti.cmp)&&mpOk ti d)&&(zOk i d && !isM ti.elem)) &&
  match ti.ty with
  |none=>U
  |some t=>Y (t.size=ti.size)&&(match i.zero with|some z=>jme z.cells.toList (jdo t)|none=>J)&&j91 T ti t d
 |_,_=>J
def j1K(P:Á)(T:H->F TyI):Prop:=∀n ti,T n=D ti->tyOk P T n ti=U
def tab(l:I (F TyI))(n:H):F TyI:=l.getD n B
theorem jxx(P:Á)(l:I (F TyI))(h:(l.zipIdx.all λx=>match x.1 with|some ti=>tyOk P (tab l) x.2 ti|none=>U)=U):j1K P (tab l):=by
 intro n ti hn;rw[List.all_eq_true]at h
 have hm:(D ti,n)∈l.zipIdx:=by
  rw[List.mem_zipIdx_iff_getElem?];unfold tab at hn;rw[List.getD_eq_getElem?_getD]at hn;cases hl:l[n]? with
  |none=>simp[hl]at hn
  |some x=>simp[hl]at hn;simp[hn]
 exact h _ hm
section
variable{P:Á}{T:H->F TyI}(hT:j1K P T){n:H}{ti:TyI}(hn:T n=D ti)
include hT hn
theorem jAh(hc:ti.cmp.isEmpty=J):jAg P n ti.cmp=true:=by
 have h:=hT n ti hn;unfold tyOk at h;split at h
 .simp only[Â,hc,Bool.false_or]at h;exact h.1.2.1.1
 .simp at h
theorem jAi{k v:H}(hm:ti.mp=D (k,v)):P.underlying n=D (.map k v):=by
 have h:=hT n ti hn;unfold tyOk at h;split at h
 .rename_i i d hi hd;simp only[Â]at h;have h2:=h.1.2.1.2;simp only[mpOk,hm]at h2;split at h2
  .simp only[Â,decide_eq_true_eq]at h2;rw[hd,h2.1,h2.2]
  .simp at h2
 .simp at h
theorem j5p:∃i d,P.info? n=D i/\P.underlying n=D d/\i.size=ti.size/\i.bytes<=32768/\ti.agg=aggD d/\jor T ti d=U/\
  ∀t,ti.ty=D t->t.size=ti.size/\(∃z,i.zero=D z/\z.cells.toList=jdo t)/\j91 T ti t d=true:=by
 have h:=hT n ti hn;unfold tyOk at h;split at h
 .rename_i i d hi hd;simp only[Â,decide_eq_true_eq]at h;obtain⟨⟨⟨⟨⟨h1,h2⟩,h3⟩,h4⟩,_⟩,h5⟩:=h;refine⟨i,d,hi,hd,h1,h2,h3,h4,λt ht=>?_⟩;simp only[ht,Â,decide_eq_true_eq]at h5;obtain⟨⟨h6,h7⟩,h8⟩:=h5;refine⟨h6,?_,h8⟩;split at h7
  .rename_i z hz;exact⟨z,hz,joq h7⟩
  .simp at h7
 .simp at h
theorem j2F(w:À):(sizeOf n).run P w = .ok ti.size w:=by
 obtain⟨i,d,hi,hd,hs,_⟩:=j5p hT hn;simp[sizeOf,typeInfo,hi,hs]
theorem jiq(w:À):(isAgg n).run P w = .ok ti.agg w:=by
 obtain⟨i,d,hi,hd,hs,_,ha,_⟩:=j5p hT hn;simp only[isAgg,Z,run_underlying hd,W];rw[ha];cases d<;>rfl
theorem jdZ(w:À){t:Ty}(ht:ti.ty=D t):∃z,(zeroValue n).run P w = .ok z w/\z.cells.toList=jdo t:=by
 obtain⟨i,d,hi,hd,hs,_,ha,_,h⟩:=j5p hT hn;obtain⟨_,⟨z,hz,hc⟩,_⟩:=h t ht;exact⟨z,by simp[zeroValue,typeInfo,hi,hz],hc⟩
theorem jxy{i:ö}{d:Ú}(hi:P.info? n=D i)(hd:P.underlying n=D d):zOk i d=true:=by
 have h:=hT n ti hn;unfold tyOk at h;rw[hi,hd]at h;simp only[Â]at h;exact h.1.2.2.1
theorem jn0:isM ti.elem=false:=by
 have h:=hT n ti hn;unfold tyOk at h;split at h
 .simp only[Â]at h;simpa using h.1.2.2.2
 .simp at h
theorem jb7{t:Ty}(ht:ti.ty=D t):t.size=ti.size:=by
 obtain⟨i,d,hi,hd,hs,_,ha,_,h⟩:=j5p hT hn;exact(h t ht).1
theorem jpV{k:Ð}(ht:ti.ty=D (.int k)):P.underlying n=D (.int k):=by
 obtain⟨i,d,hi,hd,hs,_,ha,_,h⟩:=j5p hT hn;have:=(h _ ht).2.2;cases d<;>simp_all[j91,Ty.agg]
theorem j67{a:Ty}(ht:ti.ty=D (.list a)):P.underlying n=D (.slice ti.elem)/\0<a.size/\∃te,T ti.elem=D te/\te.ty=D a:=by
 obtain⟨i,d,hi,hd,hs,_,ha,_,h⟩:=j5p hT hn;have hd':=(h _ ht).2.2;cases d with
 |slice e=>
  simp only[j91,Â,decide_eq_true_eq]at hd';obtain⟨⟨rfl,h2⟩,h3⟩:=hd';refine⟨hd,h3,?_⟩;unfold jrv at h2;split at h2
  .rename_i te hte;exact⟨te,hte,by simpa using h2⟩
  .simp at h2
 |_=>simp_all[j91,Ty.agg]
theorem jir{m:H}{a:Ty}(ht:ti.ty=D (.arr m a)):P.underlying n=D (.array m ti.elem)/\0<a.size/\∃te,T ti.elem=D te/\te.ty=D a:=by
 obtain⟨i,d,hi,hd,hs,_,ha,_,h⟩:=j5p hT hn;have hd':=(h _ ht).2.2;cases d with
 |array m' e=>
  simp only[j91,Â,decide_eq_true_eq]at hd';obtain⟨⟨⟨rfl,rfl⟩,h2⟩,h3⟩:=hd';refine⟨hd,h3,?_⟩;unfold jrv at h2;split at h2
  .rename_i te hte;exact⟨te,hte,by simpa using h2⟩
  .simp at h2
 |_=>simp_all[j91,Ty.agg]
theorem ju9{j:H}{f:H×H}(hf:ti.flds[j]? = D f) :
  ∃fs,P.underlying n=D (.struct fs)/\∃fl,fs[j]? = D fl/\fl.offset=f.1/\fl.type=f.2/\∃tf,T f.2=D tf/\0<tf.size:=by
 obtain⟨i,d,hi,hd,_,_,hag,hfl,_⟩:=j5p hT hn;cases d with
 |struct fs=>
  simp only[jor,Â,decide_eq_true_eq]at hfl;obtain⟨h1,h2⟩:=hfl;rw[<-h1]at hf;rw[List.getElem?_map]at hf;cases hq:fs.toList[j]? with
  |none=>simp[hq]at hf
  |some fl=>
   simp only[hq,á,j5]at hf;subst hf;refine⟨fs,hd,fl,by simpa using hq,rfl,rfl,?_⟩;have:=List.all_eq_true.1 h2 fl (List.mem_of_getElem? hq);split at this
   .rename_i tf htf;exact⟨tf,htf,by simpa using this⟩
   .simp at this
 |_=>
  have:ti.flds=[]:=by simpa[jor]using hfl
  simp[this]at hf
end
def tm(a:ï)(j:H):Value:=a.tmps.getD j undef
def jDx(P:Á)(o:Å)(a:ï)(w:À)(v:O)(w':À):Prop:=
 (execOp a.eval o).run P w = .ok (.value v) w'\/((execOp a.eval o).run P w = .ok .skip w'/\v=undef)
def jua(P:Á)(N:NT)(np:H)(S0:j09)(w0:À)(refs:Refs)(o:Å)(σ:St)(a:ï)(w:À)(S:j09)(γ:H->O)(s:Slot)(u:Ups):Prop:=
 ∃v w' S' γ',jDx P o a w v w'/\Rel N np S0 w0 refs (σ.upd u) a w' S' γ'/\j4i S' w' γ' (σ.upd u).bx (tm a) s v
theorem j2G{P:Á}{o:Å}{s:Slot}{v:O}(hR:Rel N np S0 w0 refs σ a w S γ)(hr:(execOp a.eval o).run P w = .ok (.value v) w)
  (hs:j4i S w γ σ.bx (tm a) s v):jua P N np S0 w0 refs o σ a w S γ s []:=
 ⟨v,w,S,γ,.inl hr,hR,hs⟩
theorem jpW(v:O)(bx:H->BS):j0m S w γ bx (.one (jpO v)) v:=by
 unfold jpO
 split<;>first
  |exact⟨rfl,λ_=>rfl⟩
  |exact⟨trivial,λh=>absurd rfl h⟩
theorem jat(hR:Rel N np S0 w0 refs σ a w S γ)(x:Î):j4i S w γ σ.bx (tm a) (σ.ev x) (a.eval x):=by
 cases x with
 |tmp t=>exact hR.slot t
 |const v=>exact jpW v _
 |global g=>exact⟨trivial,λh=>absurd rfl h⟩
 |func f=>exact⟨⟨#[],rfl,trivial⟩,λ_=>rfl⟩
def jkf(tm:H->O)(act:I (H×X)):Prop:=∀g∈act,tm g.1 = .bool g.2
theorem jpX{bx:H->BS}{t:H->O}{act:I (H×X)}(hact:jkf t act){s:Slot}{u:O}(h:j4i S w γ bx t s u):j0m S w γ bx (s.cel act) u:=by
 cases s with
 |one c=>exact h
 |tup l=>exact⟨trivial,λh=>absurd rfl h⟩
 |und=>exact⟨trivial,λh=>absurd rfl h⟩
 |cnd s b c=>
  simp only[Slot.cel];split
  .rename_i hc;have hm:(s,b)∈act:=by simpa using hc
   have:=hact _ hm;rcases h with h|h
   .exact h.2
   .exact absurd this h.1
  .exact⟨trivial,λh=>absurd rfl h⟩
theorem j1f(hR:Rel N np S0 w0 refs σ a w S γ){act:I (H×X)}(hact:jkf (tm a) act)(x:Î) :
 j0m S w γ σ.bx ((σ.ev x).cel act) (a.eval x):=jpX hact (jat hR x)
theorem j63{bx:H->BS}{c:Cel}{u:O}(h:j0m S w γ bx c u):j08 S w γ bx (lf c) u:=by
 cases c with
 |one x=>exact h.1
 |st ls=>trivial
 |av n a xs=>trivial
theorem ja4{k:Ð}{n:(Ty.int k).den}{u:O}(h:Rep S w (.int k) n [u]):u = .int k n:=by simpa[Rep]using h
theorem jn1{n:Ty.bool.den}{u:O}(h:Rep S w .bool n [u]):u = .bool n:=by simpa[Rep]using h
theorem jkg{n:Ty.str.den}{u:O}(h:Rep S w .str n [u]):u = .string n:=by simpa[Rep]using h
theorem jgi{t:Ty}{x:TV}{v:t.den}(h:x.to t=D v):x=⟨t,v⟩:=by
 unfold TV.to at h;split at h
 .rename_i e;obtain⟨t',v'⟩:=x;subst e;simp at h;rw[h]
 .simp at h
theorem jf0{P:Á}(op:ê)(t:È)(x y:Î)(k k':Ð)(p q:Æ) :
  (eqGuard op t x y (.int k p) (.int k' q)).run P w = .ok () w:=by
 unfold eqGuard;cases op<;>simp
theorem jeH{P:Á}(op:ê)(t:È)(x y:Î)(p q:X):(eqGuard op t x y (.bool p) (.bool q)).run P w = .ok () w:=by
 unfold eqGuard;cases op<;>simp
theorem jf1{P:Á}(op:ê)(t:È)(x y:Î)(p q:Ì):(eqGuard op t x y (.string p) (.string q)).run P w = .ok () w:=by
 unfold eqGuard;cases op<;>simp
theorem jub{P:Á}(t:È){k k':Ð}{x y:Æ}(h:0<=y) :
  (binOp .shr t (.int k x) (.int k' y)).run P w = .ok (.int k (õ x (2^min (Ã y) k.bits))) w:=by
 have h':¬y<0:=omg_;simp[binOp,Op.shift,h']
theorem jxz{P:Á}{op:ê}{k:Ð}{x y:Æ}{l:Leaf}{bx:H->BS}(t:È)(h:binI op k x y=D (U,l)) :
  ∃u,(binOp op t (.int k x) (.int k y)).run P w = .ok u w/\j08 S w γ bx l u/\One u:=by
 cases op with
 |add=>simp[binI]at h;subst h;exact⟨_,by simp[binOp,â],rfl,rfl⟩
 |sub=>simp[binI]at h;subst h;exact⟨_,by simp[binOp,â],rfl,rfl⟩
 |mul=>simp[binI]at h;subst h;exact⟨_,by simp[binOp,â],rfl,rfl⟩
 |quo=>simp only[binI,j5,j9,Ý,beq_eq_false_iff_ne]at h;obtain⟨h0,rfl⟩:=h;exact⟨_,by simp[binOp,ÿ,h0],rfl,rfl⟩
 |rem=>simp only[binI,j5,j9,Ý,beq_eq_false_iff_ne]at h;obtain⟨h0,rfl⟩:=h;exact⟨_,by simp[binOp,ÿ,h0],rfl,rfl⟩
 |shr=>
  simp only[binI]at h;split at h
  .rename_i h0;simp only[j5,j9,true_and]at h;subst h;exact⟨_,jub t (by simpa using h0),rfl,rfl⟩
  .simp at h
 |and=>simp[binI]at h
 |or=>simp[binI]at h
 |xor=>simp[binI]at h
 |andNot=>simp[binI]at h
 |shl=>simp[binI]at h
 |eql=>simp[binI,cmpI]at h;subst h;exact⟨_,by simp[binOp,Þ],rfl,rfl⟩
 |neq=>simp[binI,cmpI]at h;subst h;exact⟨_,by simp[binOp,Þ],rfl,rfl⟩
 |lss=>simp[binI,cmpI]at h;subst h;exact⟨_,by simp[binOp,Þ],rfl,rfl⟩
 |leq=>simp[binI,cmpI]at h;subst h;exact⟨_,by simp[binOp,Þ],rfl,rfl⟩
 |gtr=>simp[binI,cmpI]at h;subst h;exact⟨_,by simp[binOp,Þ],rfl,rfl⟩
 |geq=>simp[binI,cmpI]at h;subst h;exact⟨_,by simp[binOp,Þ],rfl,rfl⟩
def juc:Ty->O->O->X->Prop
 |.int k,u,v,b=>∃x y:Æ,u = .int k x/\v = .int k y/\b=(x==y)
 |.bool,u,v,b=>∃x y:X,u = .bool x/\v = .bool y/\b=(x==y)
 |.str,u,v,b=>∃x y:Ì,u = .string x/\v = .string y/\b=(x.toList==y.toList)
 |_,_,_,_=>Ü
def j3Z:I Ty->I O->I O->X->Prop
 |[],[],[],b=>b=U
 |k::ks,u::us,v::vs,b=>∃b1 b2,juc k u v b1/\j3Z ks us vs b2/\b=(b1&&b2)
 |_,_,_,_=>Ü
theorem j3Z.length:∀{ks:I Ty}{us vs:I O}{b:X},j3Z ks us vs b->us.length=ks.length/\vs.length=ks.length
 |[],[],[],_,_=>⟨rfl,rfl⟩
 |_::_,_::_,_::_,_,⟨_,_,_,h,_⟩=>by have:=j3Z.length h;simp[this.1,this.2]
 |[],_::_,_,_,h=>by simp[j3Z]at h
 |[],[],_::_,_,h=>by simp[j3Z]at h
 |_::_,[],_,_,h=>by simp[j3Z]at h
 |_::_,_::_,[],_,h=>by simp[j3Z]at h
theorem j3Z.split:∀{k1 k2:I Ty}{us vs:I O}{b:X},j3Z (k1++k2) us vs b->
  ∃b1 b2,j3Z k1 (us.take k1.length) (vs.take k1.length) b1/\j3Z k2 (us.drop k1.length) (vs.drop k1.length) b2/\b=(b1&&b2)
 |[],k2,us,vs,b,h=>⟨U,b,by simp[j3Z],by simpa using h,smp_⟩
 |k::k1,k2,u::us,v::vs,b,⟨b1,b2,h1,h2,hb⟩=>by
  obtain⟨c1,c2,h3,h4,hc⟩:=j3Z.split h2;exact⟨b1&&c1,c2,⟨b1,c1,h1,h3,rfl⟩,h4,by rw[hb,hc,Bool.and_assoc]⟩
 |_::_,_,[],_,_,h=>by simp[j3Z]at h
 |_::_,_,_::_,[],_,h=>by simp[j3Z]at h
theorem j3Z.single{k:Ty}{us vs:I O}{b:X}(h:j3Z [k] us vs b):∃u v,us=[u]/\vs=[v]/\juc k u v b:=by
 have hl:=h.length;match us,vs,hl with
 |[u],[v],_=>obtain⟨b1,b2,h1,h2,hb⟩:=h;simp only[j3Z]at h2;subst h2;rw[Bool.and_true]at hb;exact⟨u,v,rfl,rfl,hb▸h1⟩
def jjy(P:Á)(t:È)(us:I O):Value:=
 match P.underlying t with
 |some (.struct _)=> .agg us.toArray
 |_=>us.headD undef
theorem jrw{P:Á}{w:À}{t:È}{us:I O}{o n:H}{i:ö}{d:Ú}(hi:P.info? t=D i)(hn:i.size=n)
  (hd:P.underlying t=D d)(hl:o+n<=us.length)(h1:(∃fs,d = .struct fs)\/((∀fs,d ≠ .struct fs)/\(∀m e,d ≠ .array m e)/\n=1)) :
  (part t us.toArray o).run P w = .ok (jjy P t ((us.drop o).take n)) w:=by
 rcases h1 with⟨fs,rfl⟩|⟨h1,h2,rfl⟩
 .simp[part,isAgg,run_underlying hd,sizeOf,typeInfo,hi,hn,jjy,hd,List.take_drop]
 .have hv:jjy P t ((us.drop o).take 1)=us[o]:=by
   have:(us.drop o).take 1=[us[o]]:=by rw[List.drop_eq_getElem_cons omg_];rfl
   unfold jjy;rw[this,hd];cases d<;>first|rfl|exact absurd rfl (h1 _)
  have ha:(isAgg t).run P w = .ok J w:=by simp only[isAgg,Z,run_underlying hd,W];cases d<;>first|rfl|exact absurd rfl (h1 _)|exact absurd rfl (h2 _ _)
  rw[hv];simp only[part,Z,ha,W,é,if_false];rw[show us.toArray[o]? = D us[o] by simp];rfl
theorem jf2(P:Á)(w:À):∀(k:H)(t:È)(ks:I Ty),jas P k t=D ks->∀d,k<=d->∀us vs b,j3Z ks us vs b->
  (ý d t (jjy P t us) (jjy P t vs)).run P w = .ok b w
 |0,_,_,h,_,_,_,_,_,_=>by simp[jas]at h
 |k+1,t,ks,h,d,hd,us,vs,b,he=>by
  obtain⟨d,rfl⟩:∃d',d=d'+1:=⟨d-1,omg_⟩;unfold jas at h;split at h
  .rename_i kk hu;simp at h;subst h;obtain⟨u,v,rfl,rfl,hc⟩:=he.single;obtain⟨x,y,rfl,rfl,hb⟩:=hc;simp[jjy,hu,run_equalIn_int w d t _ _ _ _ hu,hb]
  .rename_i hu;simp at h;subst h;obtain⟨u,v,rfl,rfl,hc⟩:=he.single;obtain⟨x,y,rfl,rfl,hb⟩:=hc;simp[jjy,hu,run_equalIn_bool' w d t _ _ hu,hb]
  .rename_i hu;simp at h;subst h;obtain⟨u,v,rfl,rfl,hc⟩:=he.single;obtain⟨x,y,rfl,rfl,hb⟩:=hc;simp[jjy,hu,run_equalIn_string w d t _ _ hu,hb]
  .rename_i fs hu;split at h
   .simp at h
   rename_i hst;have hf:P.fieldsOf t=fs:=by simp[Program.fieldsOf,hu]
   have hval:∀us:I O,jjy P t us = .agg us.toArray:=λus=>by simp[jjy,hu]
   rw[hval,hval,run_equalIn_agg w d t _ _ (by rw[hf];exact hu) (by simpa using hst),hf]
   have key:∀(fl:I Field)(n:H)(ks:I Ty),jdp P (jas P k) n fl=D ks->∀b,n<=us.length->n<=vs.length->j3Z ks (us.drop n) (vs.drop n) b->
     (ù d us.toArray vs.toArray fl).run P w = .ok b w:=by
    intro fl;induction fl with
    |nil=>intro n ks hk b hnu hnv hc;simp[jdp]at hk;subst hk;have hl:=hc.length;have:us.drop n=[]:=Ö hl.1;have h':vs.drop n=[]:=Ö hl.2;rw[this,h']at hc;simp[j3Z]at hc;subst hc;rfl
    |cons x fl ih=>
     intro n ks hk b hnu hnv hc;simp only[jdp,Â,bne_iff_ne,ne_eq,decide_eq_true_eq]at hk;split at hk
     .rename_i hx;split at hk
      .rename_i k1 hk1;split at hk
       .rename_i hsz;split at hk
        .rename_i k2 hk2;simp at hk;subst hk;obtain⟨b1,b2,hc1,hc2,hb⟩:=hc.split;have hlen:=hc.length;simp only[List.length_drop,Ù]at hlen;cases hi:P.info? x.type with
         |none=>simp[hi]at hsz
         |some i=>
          simp only[hi,á,j5]at hsz
          have hshape:∃dd,P.underlying x.type=D dd/\((∃fs,dd = .struct fs)\/((∀fs,dd ≠ .struct fs)/\(∀m e,dd ≠ .array m e)/\k1.length=1)):=by
           cases k with
           |zero=>simp[jas]at hk1
           |succ k=>
            unfold jas at hk1;split at hk1
            .rename_i hu';simp at hk1;subst hk1;exact⟨_,hu',.inr ⟨smp_,smp_,rfl⟩⟩
            .rename_i hu';simp at hk1;subst hk1;exact⟨_,hu',.inr ⟨smp_,smp_,rfl⟩⟩
            .rename_i hu';simp at hk1;subst hk1;exact⟨_,hu',.inr ⟨smp_,smp_,rfl⟩⟩
            .rename_i hu';exact⟨_,hu',.inl ⟨_,rfl⟩⟩
            .simp at hk1
          obtain⟨dd,hdd,hsh⟩:=hshape;have hp1:=jrw (P:=P) (w:=w) (us:=us) (o:=n) hi hsz hdd omg_ hsh;have hp2:=jrw (P:=P) (w:=w) (us:=vs) (o:=n) hi hsz hdd omg_ hsh;have hrec:=jf2 P w k x.type k1 hk1 d omg_ _ _ b1 hc1;simp only[ù];rw[if_pos hx.1];simp only[Z,hx.2,hp1,W,hp2,hrec,ã];cases b1
          .simp[hb]
          .simp only[Bool.not_true,é,if_false];rw[hb,Bool.true_and];refine ih (n+k1.length) k2 hk2 b2 omg_ omg_ ?_;rw[<-å,<-å];exact hc2
        .simp at hk
       .simp at hk
      .simp at hk
     .simp at hk
   exact key fs.toList 0 ks h b omg_ omg_ (by simpa using he)
  .simp at h
termination_by k=>k
section
variable{S:j09}{w:À}{γ:H->O}{bx:H->BS}
theorem jAj{t t':Ty}{x:t.den}{y:t'.den}{b:X}{u v:O}(h:eqT ⟨t,x⟩ ⟨t',y⟩=D b)(hx:Rep S w t x [u])(hy:Rep S w t' y [v])(ht:t'=t):juc t u v b:=by
 subst ht;cases t' with
 |int k=>simp[eqT]at h;exact⟨x,y,ja4 hx,ja4 hy,h.symm⟩
 |bool=>simp[eqT]at h;exact⟨x,y,jn1 hx,jn1 hy,h.symm⟩
 |str=>simp[eqT]at h;exact⟨x,y,jkg hx,jkg hy,h.symm⟩
 |_=>simp[eqT]at h
theorem jAk(ks:I Ty):∀{l l':I Leaf}{b:X}{us vs:I O},eqL ks l l'=D b->All2 (j08 S w γ bx) l us->All2 (j08 S w γ bx) l' vs->j3Z ks us vs b:=by
 induction ks with
 |nil=>
  intro l l' b us vs h h1 h2;cases l with
  |cons _ _=>simp[eqL]at h
  |nil=>
   cases l' with
   |cons _ _=>simp[eqL]at h
   |nil=>
    cases us with
    |cons _ _=>exact h1.elim
    |nil=>cases vs with
     |cons _ _=>exact h2.elim
     |nil=>simp[eqL]at h;simp[j3Z,h]
 |cons k ks ih=>
  intro l l' b us vs h h1 h2;cases l with
  |nil=>simp[eqL]at h
  |cons l0 l=>
   cases l' with
   |nil=>cases l0<;>simp[eqL]at h
   |cons m0 l'=>
    cases us with
    |nil=>exact h1.elim
    |cons u us=>
     cases vs with
     |nil=>exact h2.elim
     |cons v vs=>
      cases l0 with
      |d t x=>
       cases m0 with
       |d t' y=>
        simp only[eqL]at h;split at h
        .rename_i hk;obtain⟨rfl,rfl⟩:=hk;split at h
         .rename_i b1 hb1;have hc:=jAj hb1 h1.1 h2.1 rfl;split at h
          .split at h
           .simp at h;subst h;cases us with
            |nil=>cases vs with
             |nil=>exact⟨b1,U,hc,by simp[j3Z],smp_⟩
             |cons _ _=>exact h2.2.elim
            |cons _ _=>exact h1.2.elim
           .simp at h
          .split at h
           .rename_i b2 hb2;simp at h;subst h;exact⟨b1,b2,hc,ih hb2 h1.2 h2.2,rfl⟩
           .simp at h
         .simp at h
        .simp at h
       |_=>simp[eqL]at h
      |_=>simp[eqL]at h
theorem jos{P:Á}{T:H->F TyI}(hT:j1K P T){t:È}{l l':I Leaf}{b:X}{us vs:Ê O}
  (hne:(joc (T t)).isEmpty=J)(h:eqL (joc (T t)) l l'=D b)(h1:All2 (j08 S w γ bx) l us.toList)(h2:All2 (j08 S w γ bx) l' vs.toList) :
  P.eqGuardType P.depth t=J/\(ý 10000 t (.agg us) (.agg vs)).run P w = .ok b w:=by
 cases ht:T t with
 |none=>simp[joc,ht]at hne
 |some ti=>
  simp only[joc,ht]at hne h;have hc:=jAh hT ht hne;simp only[jAg,Â,decide_eq_true_eq,Ý]at hc;obtain⟨⟨hk,hg⟩,hs⟩:=hc;refine⟨hg,?_⟩;have he:=jf2 P w 12 t _ hk 10000 omg_ us.toList vs.toList b (jAk _ h h1 h2);split at hs
  .rename_i fs hu;simpa[jjy,hu]using he
  .simp at hs
end
section
variable{N:NT}{np:H}{S0:j09}{w0:À}{refs:Refs}{σ:St}{a:ï}{w:À}{S:j09}{γ:H->O}{bx:H->BS}
theorem je0{k:Ð}{n:(Ty.int k).den}{u:O}(h:j0m S w γ bx (.one (.d (.int k) n)) u):u = .int k n:=ja4 (S:=S) (w:=w) h.1
theorem jah{n:Ty.bool.den}{u:O}(h:j0m S w γ bx (.one (.d .bool n)) u):u = .bool n:=jn1 (S:=S) (w:=w) h.1
theorem jud{n:Ty.str.den}{u:O}(h:j0m S w γ bx (.one (.d .str n)) u):u = .string n:=jkg (S:=S) (w:=w) h.1
theorem jxA{P:Á}{T:H->F TyI}(hT:j1K P T){op:ê}{t:È}{x y:Î}{c c':Cel}{l:Leaf}{u v:O}
  (h:binC (T t) op c c'=D (U,l))(hc:j0m S w γ bx c u)(hc':j0m S w γ bx c' v) :
  ∃z,(do eqGuard op t x y u v;binOp op t u v:Sem O).run P w = .ok z w/\j08 S w γ bx l z/\One z:=by
 unfold binC at h;split at h
 .rename_i k p k' q;have hu:=je0 hc;have hv:=je0 hc';subst hu hv;split at h
  .rename_i hk;subst hk;obtain⟨z,hz,hl,h1⟩:=jxz (P:=P) (w:=w) (S:=S) (γ:=γ) (bx:=bx) t h;exact⟨z,by simp only[Z,jf0,W,hz],hl,h1⟩
  .split at h
   .split at h
    .rename_i h0;simp only[j5,j9,true_and]at h;subst h;exact⟨_,by simp only[Z,jf0,W,jub t (by simpa using h0)],rfl,rfl⟩
    .simp at h
   .simp at h
 .rename_i p q;have hu:=jah hc;have hv:=jah hc';subst hu hv;split at h
  .rename_i hb
   have hub:P.underlying t=D .bool:=by
    unfold jz3 at hb;split at hb
    .rename_i ti hti;obtain⟨i,d,hi,hd,_,_,_,_,hh⟩:=j5p hT hti;have:=(hh _ (by simpa using hb)).2.2;cases d<;>simp_all[j91,Ty.agg]
    .simp at hb
   split at h
   .simp only[j5,j9,true_and]at h;subst h;refine⟨.bool (p==q),?_,rfl,rfl⟩;simp only[Z,jeH,W,binOp];simp only[Op.equal,ú,run_equalIn_bool' w 9999 t p q hub,W,Ä]
   .simp only[j5,j9,true_and]at h;subst h;refine⟨.bool (!(p==q)),?_,rfl,rfl⟩;simp only[Z,jeH,W,binOp];simp only[Op.equal,ú,run_equalIn_bool' w 9999 t p q hub,W,Ä]
   .simp at h
  .simp at h
 .rename_i p q;have hu:=jud hc;have hv:=jud hc';subst hu hv;split at h
  .simp only[j5,j9,true_and]at h;subst h;exact⟨_,by simp only[Z,jf1,W,binOp,û,Ä],rfl,rfl⟩
  .simp only[j5,j9,true_and]at h;subst h;exact⟨_,by simp only[Z,jf1,W,binOp,û,Ä],rfl,rfl⟩
  .simp at h
 .rename_i p q;obtain⟨us,rfl,h1,_⟩:=hc;obtain⟨vs,rfl,h2,_⟩:=hc';split at h
  .simp at h
  rename_i hne;have hne:(joc (T t)).isEmpty=false:=by simpa using hne
  split at h
  .split at h
   .rename_i b hb;simp only[j5,j9,true_and]at h;subst h;obtain⟨hg,he⟩:=jos hT hne hb h1 h2;exact⟨_,by simp only[Z,run_eqGuard_agg w .eql t x y us vs hg,W,run_eql_struct,he],rfl,rfl⟩
   .simp at h
  .split at h
   .rename_i b hb;simp only[j5,j9,true_and]at h;subst h;obtain⟨hg,he⟩:=jos hT hne hb h1 h2;exact⟨_,by simp only[Z,run_eqGuard_agg w .neq t x y us vs hg,W,run_neq_struct,he],rfl,rfl⟩
   .simp at h
  .simp at h
 .simp at h
theorem jAl{P:Á}{op:UnOp}{c:Cel}{l:Leaf}{u:O}(h:unC op c=D l)(hc:j0m S w γ bx c u) :
  ∃z,(ø op u).run P w = .ok z w/\j08 S w γ bx l z/\One z:=by
 unfold unC at h;split at h
 .have hu:=jah hc;subst hu;split at h
  .simp at h;subst h;exact⟨_,by simp[ø],rfl,rfl⟩
  .simp at h
 .have hu:=je0 hc;subst hu;split at h
  .simp at h;subst h;exact⟨_,by simp[ø,â],rfl,rfl⟩
  .simp at h
 .simp at h
theorem jAm{P:Á}{cs:I Cel}{l:Leaf}{us:I O}{ts:Ê È}{ty:È}(h:minC cs=D l)(hc:All2 (j0m S w γ bx) cs us) :
  ∃z,(ò ts ty us.toArray).run P w = .ok z w/\j08 S w γ bx l z/\One z:=by
 unfold minC at h;split at h
 .rename_i k p k' q;match us,hc with
  |[u,v],⟨h1,h2,_⟩=>
   have hu:=je0 h1;have hv:=je0 h2;subst hu hv;split at h
   .simp at h;subst h;exact⟨_,by simp[ò,Builtin.min2],rfl,rfl⟩
   .simp at h
 .simp at h
theorem jAn{P:Á}{cs:I Cel}{l:Leaf}{us:I O}{ts:Ê È}{ty:È}(h:maxC cs=D l)(hc:All2 (j0m S w γ bx) cs us) :
  ∃z,(ó ts ty us.toArray).run P w = .ok z w/\j08 S w γ bx l z/\One z:=by
 unfold maxC at h;split at h
 .rename_i k p k' q;match us,hc with
  |[u,v],⟨h1,h2,_⟩=>
   have hu:=je0 h1;have hv:=je0 h2;subst hu hv;split at h
   .simp at h;subst h;exact⟨_,by simp[ó,Builtin.max2],rfl,rfl⟩
   .simp at h
 .simp at h
theorem j7E:∀(t:Ty)(v:t.den)(cs:I O),Rep S w t v cs->All2 (λx z=>Rep S w x.t x.v [z]) (scat t v) cs
 |.int k,v,cs,h=>by rw[h];exact⟨rfl,trivial⟩
 |.bool,v,cs,h=>by rw[h];exact⟨rfl,trivial⟩
 |.str,v,cs,h=>by rw[h];exact⟨rfl,trivial⟩
 |.unit,v,cs,h=>by rw[h];exact trivial
 |.wrap a,v,cs,h=>j7E a v cs h
 |.pair a b,v,cs,⟨c1,c2,e,h1,h2⟩=>by rw[e];exact(j7E a v.1 c1 h1).append (j7E b v.2 c2 h2)
 |.list a,v,cs,h=>by
  obtain⟨ad,cap,e,h'⟩:=h;subst e;exact⟨⟨ad,cap,rfl,h'⟩,trivial⟩
 |.arr n a,v,cs,⟨hn,css,ha,e⟩=>by
  have key:∀(xs:I a.den)(css:I (I O)),All2 (λx c=>Rep S w a x c) xs css->
    All2 (λx z=>Rep S w x.t x.v [z]) (xs.flatMap (scat a)) css.flatten:=by
   intro xs;induction xs with
   |nil=>intro css h;cases css with|nil=>exact trivial|cons _ _=>exact h.elim
   |cons x xs ih=>
    intro css h;cases css with
    |nil=>exact h.elim
    |cons c css=>exact(j7E a x c h.1).append (ih css h.2)
  have hw:∀l:I a.den,(Ó l.length).flatMap (λi=>scat a (l.getD i a.dflt))=l.flatMap (scat a):=by
   intro l;induction l with
   |nil=>rfl
   |cons x l ih=>rw[î,List.range_succ_eq_map,ì,List.flatMap_map];simp only[ì];congr 1
  have hm:∀(l:I a.den)(m:H),l.length=m->(Ó m).flatMap (λi=>scat a (l.getD i a.dflt))=l.flatMap (scat a):=by intro l m hl;subst hl;exact hw l
  have he:scat (.arr n a) v=List.flatMap (scat a) v:=hm v n hn;rw[e,he];exact key v css ha
theorem j92:∀{xs:I TV}{cs:I O},All2 (λx z=>Rep S w x.t x.v [z]) xs cs->All2 (j08 S w γ bx) (xs.map TV.leaf) cs:=
 λh=>All2.map_left.2 h
theorem jis(t:Ty)(v:t.den)(cs:I O)(u:O)(h:Rep S w t v cs)(hu:(t.agg=U\/∃n a,t = .arr n a)->u = .agg cs.toArray)(hu':t.agg=J->(∀n a,t ≠ .arr n a)->cs=[u]) :
  j0m S w γ bx (jcs t v) u:=by
 cases t with
 |int k=>have:=hu' rfl smp_;subst this;exact⟨h,λ_=>Rep.one _ _ _ h u smp_⟩
 |bool=>have:=hu' rfl smp_;subst this;exact⟨h,λ_=>Rep.one _ _ _ h u smp_⟩
 |str=>have:=hu' rfl smp_;subst this;exact⟨h,λ_=>Rep.one _ _ _ h u smp_⟩
 |list a=>have:=hu' rfl smp_;subst this;exact⟨h,λ_=>Rep.one _ _ _ h u smp_⟩
 |unit=>have:=hu (.inl rfl);subst this;exact⟨_,rfl,by simpa using j92 (j7E _ v cs h),by simpa using Rep.one _ _ _ h⟩
 |wrap a=>have:=hu (.inl rfl);subst this;exact⟨_,rfl,by simpa using j92 (j7E _ v cs h),by simpa using Rep.one _ _ _ h⟩
 |pair a b=>have:=hu (.inl rfl);subst this;exact⟨_,rfl,by simpa using j92 (j7E _ v cs h),by simpa using Rep.one _ _ _ h⟩
 |arr n a=>have:=hu (.inr ⟨n,a,rfl⟩);subst this;exact⟨_,rfl,by simpa using h⟩
theorem jot{g o:H}{cs:I O}(h:∀j v,cs[j]? = D v->w.cell? ⟨g,o+j,B⟩=D v)(P:Á) :
  (loadCells ⟨g,o,B⟩ cs.length).run P w = .ok cs.toArray w:=
 run_loadCells_list (P:=P) w ⟨g,o,B⟩ cs (λj v hv=>by rw[Ï];exact h j v hv)
theorem jsE{P:Á}{T:H->F TyI}(hT:j1K P T){t:È}{ti:TyI}(ht:T t=D ti){ls:I Leaf}{c:Cel}(h:jlL ti ls=D c)
  {g o:H}{cs:I O}(hr:All2 (j08 S w γ bx) ls cs)(h1:∀u∈cs,One u)(hl:∀j v,cs[j]? = D v->w.cell? ⟨g,o+j,B⟩=D v) :
  ∃u,(loadVar t ⟨g,o,B⟩).run P w = .ok u w/\j0m S w γ bx c u:=by
 unfold jlL at h;split at h
 .rename_i ha;split at h
  .rename_i hlen;simp at h;subst h;refine⟨.agg cs.toArray,?_,cs.toArray,rfl,by simpa using hr,by simpa using h1⟩;have hs:=jot (w:=w) hl P;rw[<-hr.length,hlen]at hs;simp only[loadVar,Z,jiq hT ht,ha,W,if_true,j2F hT ht,hs,Ä]
  .simp at h
 .rename_i ha;split at h
  .simp at h;subst h;match cs,hr with
   |[u],⟨hr,_⟩=>refine⟨u,?_,hr,λ_=>h1 u smp_⟩;have hcell:=hl 0 u rfl;simp only[loadVar,Z,jiq hT ht,W,if_neg ha,run_load];rw[Nat.add_zero]at hcell;simp[hcell]
  .simp at h
end
theorem jgF{α:Type}{R:α->I O->Prop}{m:H}(hm:∀x c,R x c->c.length=m) :
  ∀{xs:I α}{css:I (I O)},All2 R xs css->∀(i:H)(d:α),i<xs.length->
   ∃c,css[i]? = D c/\R (xs.getD i d) c/\∀(j:H)(v:O),c[j]? = D v->css.flatten[i*m+j]? = D v
 |[],_,_,i,d,hi=>by simp at hi
 |x::xs,c::css,h,0,d,_=>⟨c,smp_,by simpa using h.1,λj v hv=>by
  grind⟩
 |x::xs,c::css,h,i+1,d,hi=>by
  obtain⟨c',h1,h2,h3⟩:=jgF hm h.2 i d (by simpa using hi);refine⟨c',by simpa using h1,by simpa using h2,λj v hv=>?_⟩;have hl:=hm _ _ h.1;grind
 |_::_,[],h,_,_,_=>h.elim
def RdR(σ:St)(rd:H->BS):Prop:=∀k,rd k=σ.bx k\/rd k = .gone
theorem RdR.live{rd:H->BS}(h:RdR σ rd){k:H}{b:Bx}(hk:rd k = .live b):σ.bx k = .live b:=by
 rcases h k with h|h;all_goals simp_all
theorem RdR.free{rd:H->BS}(h:RdR σ rd){k:H}(hk:j6s (rd k)=U):σ.bx k = .free:=by
 rcases h k with h|h;all_goals grind[j6s]
def NoM(rd:H->BS):Prop:=∀(k e:H)(a:Ty)(xs:I a.den)(f:X),rd k = .live (.lst e a xs f)->isM e=J
def RdOk(σ:St)(rd:H->BS):Prop:=RdR σ rd/\NoM rd
theorem RdOk.live{rd:H->BS}(h:RdOk σ rd){k:H}{b:Bx}(hk:rd k = .live b):σ.bx k = .live b:=h.1.live hk
theorem RdOk.free{rd:H->BS}(h:RdOk σ rd){k:H}(hk:j6s (rd k)=U):σ.bx k = .free:=h.1.free hk
theorem RdOk.nm{rd:H->BS}(h:RdOk σ rd){k e:H}{a:Ty}{xs:I a.den}{f:X}(hk:rd k = .live (.lst e a xs f)):isM e=false:=h.2 k e a xs f hk
theorem jue{rd:H->BS}{k:H}{b:Bx}(h:mskM rd k = .live b):rd k = .live b/\∀(e:H)(a:Ty)(xs:I a.den)(f:X),b = .lst e a xs f->isM e=false:=by
 grind[mskM]
theorem juf{rd:H->BS}(k:H):mskM rd k=rd k\/mskM rd k = .gone:=by
 grind[mskM]
theorem jAo(rd:H->BS):NoM (mskM rd):=λk e a xs f h=>(jue h).2 e a xs f rfl
theorem RdR.msk{rd:H->BS}(h:RdR σ rd):RdOk σ (mskM rd):=
 ⟨λk=>(juf (rd:=rd) k).elim (λe=>(h k).imp (e.trans ·) (e.trans ·)) .inr,jAo rd⟩
theorem jxB(hR:Rel N np S0 w0 refs σ a w S γ){k e:H}{t:Ty}{xs:I t.den}{frz:X}(hk:σ.bx k = .live (.lst e t xs frz))
  {g cap:H}(hg:γ k = .slice (D ⟨g,0,B⟩) xs.length cap){i:H}(hi:i<xs.length) :
  ∃cs,Rep S w t (xs.getD i t.dflt) cs/\∀(j:H)(v:O),cs[j]? = D v->w.cell? ⟨g,i*t.size+j,B⟩=D v:=by
 obtain⟨css,hown,ha,_⟩:=jru hg (hR.box k _ hk);obtain⟨c,h1,h2,h3⟩:=jgF (λx c hx=>Rep.length t x c hx) ha i t.dflt hi;refine⟨c,h2,λj v hv=>?_⟩;have:=hown.cells (g:=g) (by rw[hg];rfl) (i*t.size+j) v (h3 j v hv);grind[Ï]
theorem jxC(hR:Rel N np S0 w0 refs σ a w S γ){k n:H}{t:Ty}{xs:I t.den}(hk:σ.bx k = .live (.arr n t xs))
  {g:H}(hg:γ k = .pointer (D ⟨g,0,B⟩)){i:H}(hi:i<n) :
  ∃cs,Rep S w t (xs.getD i t.dflt) cs/\∀(j:H)(v:O),cs[j]? = D v->w.cell? ⟨g,i*t.size+j,B⟩=D v:=by
 obtain⟨g',cur,e,hg',hh,⟨hn,css,ha,he⟩,_⟩:=hR.box k _ hk;rw[hg]at hg';simp at hg';subst hg';obtain⟨c,h1,h2,h3⟩:=jgF (λx c hx=>Rep.length t x c hx) ha i t.dflt (by rw[hn];exact hi);grind[cell_of_row]
theorem jn2{l:I O}{c n j:H}{v:O}(h:((l.drop c).take n)[j]? = D v):l[c+j]? = D v:=by
 grind
theorem jbe{l:I O}{c n:H}{P:O->Prop}(h:∀u∈l,P u):∀u∈(l.drop c).take n,P u:=
 λu hu=>h u (List.mem_of_mem_drop (æ hu))
theorem jou{P:Á}{E:Env}(hT:j1K P E.T)(hR:Rel N np S0 w0 refs σ a w S γ){rd:H->BS}(hrd:RdOk σ rd){t:È}{ti:TyI}(ht:E.T t=D ti)
  {x:Leaf}{c:Cel}{u:O}(h:jio rd ti x=D c)(hx:j08 S w γ σ.bx x u) :
  ∃z,(ß t u).run P w = .ok z w/\j0m S w γ σ.bx c z:=by
 have fin:∀(g o:H)(ls:I Leaf)(cs:I O),u = .pointer (D ⟨g,o,B⟩)->jlL ti ls=D c->All2 (j08 S w γ σ.bx) ls cs->(∀u∈cs,One u)->
   (∀(j:H)(v:O),cs[j]? = D v->w.cell? ⟨g,o+j,B⟩=D v)->∃z,(ß t u).run P w = .ok z w/\j0m S w γ σ.bx c z:=by
  intro g o ls cs hu hm hr h1 hl;obtain⟨z,hz,hc⟩:=jsE (P:=P) hT ht hm hr h1 hl;grind[ß,Ø]
 cases x with
 |bp k o=>
  obtain⟨_,_,hb⟩:=hx;simp only[jio]at h;split at h
  .rename_i ls frz hk;have hk:=hrd.live hk;obtain⟨g,hg,hu⟩:=hb _ hk;obtain⟨g',cur,e,hg',hh,ha,h1,_⟩:=hR.box k _ hk;rw[hg]at hg';simp at hg';subst hg';refine fin g o _ (((cur.toList.take ls.length).drop o).take ti.size) hu h ((ha.drop o).take ti.size) (jbe h1) (λj v hv=>?_);grind[cell_of_row]
  .rename_i n el xs hk;split at h
   .rename_i hc;obtain⟨rfl,hty⟩:=hc;simp at h;subst h;have hk:=hrd.live hk;obtain⟨g,hg,hu⟩:=hb _ hk;obtain⟨g',cur,e,hg',hh,hrep,_⟩:=hR.box k _ hk;rw[hg]at hg';simp at hg';subst hg';obtain⟨hud,_,_⟩:=jir hT ht hty;obtain⟨i,d,hi,hd,hs,_,hag,_,hh'⟩:=j5p hT ht
    have hsz:cur.size=ti.size:=by
     have:=Rep.length _ _ _ hrep
     simp_all
    refine⟨.agg cur,?_,cur,rfl,hrep⟩;grind[run_loadVar_row,ß,Ø]
   .simp at h
  .simp at h
 |ep k i o=>
  obtain⟨_,_,hb⟩:=hx;simp only[jio]at h;split at h
  .rename_i e el xs frz hk;have hk:=hrd.live hk;obtain⟨_,hi,g,cap,hg,hu⟩:=hb _ hk;obtain⟨cs,hrep,hcell⟩:=jxB hR hk hg hi;refine fin g _ _ ((cs.drop o).take ti.size) hu h (((j92 (j7E el _ cs hrep)).drop o).take ti.size) (jbe (Rep.one _ _ _ hrep)) (λj v hv=>?_);grind
  .rename_i n el xs hk;have hk:=hrd.live hk;obtain⟨hi,g,hg,hu⟩:=hb _ hk;obtain⟨cs,hrep,hcell⟩:=jxC hR hk hg hi;refine fin g _ _ ((cs.drop o).take ti.size) hu h (((j92 (j7E el _ cs hrep)).drop o).take ti.size) (jbe (Rep.one _ _ _ hrep)) (λj v hv=>?_);grind
  .rename_i e el n ls hk;split at h
   .have hk:=hrd.live hk;obtain⟨_,hi,g,cap,hg,hu⟩:=hb _ hk;obtain⟨_,⟨cs,hown,ha,h1⟩,_⟩:=hR.box k _ hk;refine fin g _ _ ((cs.drop (i*el.size+o)).take ti.size) hu h ((ha.drop _).take ti.size) (jbe h1) (λj v hv=>?_);have:=hown.cells (g:=g) (by rw[hg];rfl) _ v (jn2 hv);grind[Ï]
   .simp at h
  .simp at h
 |ip ls=>
  obtain⟨g,o,cs,hu,ha,hl⟩:=hx;simp only[jio]at h;refine fin g o _ (cs.take ti.size) hu h ((j92 ha).take ti.size) (λu hu=>?_) (λj v hv=>?_)
  .obtain⟨x,_,hx⟩:=ha.mem_right u (æ hu);grind[Rep.one]
  .rw[List.getElem?_take]at hv;split at hv
   .exact(hl j v hv).2
   .simp at hv
 |_=>simp[jio]at h
theorem jlM{P:Á}{T:H->F TyI}(hT:j1K P T){f:Field}{tf:TyI}(hf:T f.type=D tf)(hs:0<tf.size)(g o:H) :
  (fieldPlace ⟨g,o,B⟩ f).run P w = .ok ⟨g,o+f.offset,B⟩ w:=by
 grind[fieldPlace,Z,j2F,W,Ä,Ï]
theorem jdq{rd:H->BS}{k:H}(h:isLive (rd k)=U):∃b,rd k = .live b:=by
 revert h
 cases rd k<;>simp[isLive]
theorem jsF{P:Á}{E:Env}(hT:j1K P E.T){rd:H->BS}(hrd:RdOk σ rd){t:È}{ti:TyI}(ht:E.T t=D ti){i:H}{x l:Leaf}{u:O}
  (h:jeE rd ti i x=D l)(hx:j08 S w γ σ.bx x u) :
  ∃z,(è t u i).run P w = .ok z w/\j08 S w γ σ.bx l z/\One z:=by
 have fin:∀(g o:H)(f:H×H),u = .pointer (D ⟨g,o,B⟩)->ti.flds[i]? = D f->
   (è t u i).run P w = .ok (.pointer (D ⟨g,o+f.1,B⟩)) w:=by
  intro g o f hu hf;obtain⟨fs,hd,fl,hfl,hoff,hty,tf,htf,hs⟩:=ju9 hT ht hf;subst hu;simp only[è,Z,run_underlying hd,W,hfl,Ø,Ä,jlM hT (hty▸htf) hs,hoff]
 cases x with
 |bp k o=>
  obtain⟨hfr,_,hb⟩:=hx;simp only[jeE]at h;split at h
  .rename_i f hf;split at h
   .rename_i hl;simp at h;subst h;obtain⟨b,hk⟩:=jdq hl;obtain⟨g,hg,hu⟩:=hb b (hrd.live hk);exact⟨_,fin g o f hu hf,⟨hfr,rfl,λb' hb'=>by simp_all⟩,rfl⟩
   .simp at h
  .simp at h
 |ep k j o=>
  obtain⟨hfr,_,hb⟩:=hx;simp only[jeE]at h;split at h
  .rename_i f hf;split at h
   .rename_i hl;simp at h;subst h;obtain⟨b,hk⟩:=jdq hl;have h0:=hb b (hrd.live hk);have hbk:=hrd.live hk;cases b with
    |cell _ _=>exact h0.elim
    |lst e el xs frz=>obtain⟨hnm,hi,g,cap,hg,hu⟩:=h0;refine⟨_,fin g _ f hu hf,⟨hfr,rfl,λb' hb'=>?_⟩,rfl⟩;grind
    |arr n el xs=>obtain⟨hi,g,hg,hu⟩:=h0;refine⟨_,fin g _ f hu hf,⟨hfr,rfl,λb' hb'=>?_⟩,rfl⟩;grind
    |row e el n ls=>obtain⟨hnm,hi,g,cap,hg,hu⟩:=h0;refine⟨_,fin g _ f hu hf,⟨hfr,rfl,λb' hb'=>?_⟩,rfl⟩;grind
   .simp at h
  .simp at h
 |ip ls=>
  obtain⟨g,o,cs,hu,ha,hl⟩:=hx;simp only[jeE]at h;split at h
  .rename_i f hf;simp at h;subst h;refine⟨_,fin g o f hu hf,⟨g,o+f.1,cs.drop f.1,rfl,ha.drop f.1,λj v hv=>?_⟩,rfl⟩;rw[List.getElem?_drop]at hv;have:=hl _ v hv;grind
  .simp at h
 |_=>simp[jeE]at h
theorem jf3{i:Æ}{n:H}:inR i n=U↔0<=i/\i<n:=by simp[inR]
theorem je1{P:Á}{T:H->F TyI}(hT:j1K P T){t:È}{ti:TyI}(ht:T t=D ti){a':Ty}{k:Ð}{i:Æ}{len cap g o:H}(hty:ti.ty=D (.list a'))(hi:0<=i/\i<len) :
  (Ô t (.slice (D ⟨g,o,B⟩) len cap) (.int k i)).run P w = .ok (.pointer (D ⟨g,o+i.toNat*a'.size,B⟩)) w:=by
 obtain⟨hd,_,te,hte,htea⟩:=j67 hT ht hty;have hs:=jb7 hT hte htea;simp only[Ô,asIntOf,Z,Ä,W,run_underlying hd,ã,if_pos hi,j2F hT hte,hs,Ï]
theorem jjn{P:Á}{T:H->F TyI}(hT:j1K P T){t:È}{ti:TyI}(ht:T t=D ti){n:H}{a':Ty}{k:Ð}{i:Æ}{g o:H}(hty:ti.ty=D (.arr n a'))(hi:0<=i/\i<n) :
  (Ô t (.pointer (D ⟨g,o,B⟩)) (.int k i)).run P w = .ok (.pointer (D ⟨g,o+i.toNat*a'.size,B⟩)) w:=by
 obtain⟨hd,_,te,hte,htea⟩:=jir hT ht hty;have hs:=jb7 hT hte htea;simp only[Ô,asIntOf,Z,Ä,W,run_underlying hd,Ø,ã,if_pos hi,j2F hT hte,hs,Ï]
theorem jit{t:F Ty}(h:jct t=U):∃a,t=D (.list a):=by
 unfold jct at h;grind
theorem jsG{P:Á}{E:Env}(hT:j1K P E.T)(hR:Rel N np S0 w0 refs σ a w S γ){rd:H->BS}(hrd:RdOk σ rd){t:È}{ti:TyI}(ht:E.T t=D ti)
  {x y l:Leaf}{u v:O}(h:jhi rd ti x y=D (U,l))(hx:j08 S w γ σ.bx x u)(hy:j08 S w γ σ.bx y v) :
  ∃z,(Ô t u v).run P w = .ok z w/\j08 S w γ σ.bx l z/\One z:=by
 unfold jhi at h;split at h
 .rename_i k kd i;have hv:v = .int kd i:=ja4 (S:=S) (w:=w) hy;subst hv;split at h
  .rename_i e el xs frz hk;split at h
   .rename_i hty;simp only[j5,j9]at h;obtain⟨hi,rfl⟩:=h;have hi':=jf3.1 hi;have hnm:=hrd.nm hk;have hk:=hrd.live hk;have hu:=hx.2.2 _ hk;obtain⟨css,hown,_⟩:=j6U hnm (hR.box k _ hk);rcases hown.2 with⟨_,hz⟩|⟨g,cap,cur,hg,_,hh,_⟩
    .omega
    .rw[hu,hg];refine⟨_,je1 hT ht hty hi',⟨hx.1,rfl,λb hb=>?_⟩,rfl⟩
     simp_all
   .simp at h
  .rename_i e el n ls hk;split at h
   .rename_i hty;simp only[j5,j9]at h;obtain⟨hi,rfl⟩:=h;have hi':=jf3.1 hi;have hk:=hrd.live hk;have hu:=hx.2.2 _ hk;obtain⟨hnm,⟨cs,hown,_,_⟩,_⟩:=hR.box k _ hk;rcases hown.2 with⟨_,hz⟩|⟨g,cap,cur,hg,_,hh,_⟩
    .omega
    .have hj:cond (Í n 1) 0 (Ã i)=i.toNat:=by grind[Nat.eq_of_beq_eq_true]
     rw[hu,hg,hj];refine⟨_,je1 hT ht hty hi',⟨hx.1,rfl,λb hb=>?_⟩,rfl⟩
     simp_all
   .simp at h
  .simp at h
 .rename_i el xs kd i;have hv:v = .int kd i:=ja4 (S:=S) (w:=w) hy;subst hv;split at h
  .rename_i hty;simp only[j5,j9]at h;obtain⟨hi,rfl⟩:=h;have hi':=jf3.1 hi;obtain⟨ad,cap,hu,hle,hcm,hn,hb⟩:=hx;simp at hu;subst hu;cases ad with
   |none=>have:=hn rfl;omega
   |some b=>obtain⟨hsp,css,ha,hl⟩:=hb b rfl;obtain⟨g,o,sp⟩:=b;have hsp:=hsp (λe=>by grind);simp at hsp;subst hsp;refine⟨_,je1 hT ht hty hi',?_,rfl⟩;obtain⟨c,h1,h2,h3⟩:=jgF (λx c hx=>Rep.length el x c hx) ha i.toNat el.dflt omg_;exact⟨g,_,c,rfl,j7E el _ c h2,λj v hv=>by rw[Nat.add_assoc];exact hl _ v (h3 j v hv)⟩
  .simp at h
 .rename_i k kd i;have hv:v = .int kd i:=ja4 (S:=S) (w:=w) hy;subst hv;split at h
  .rename_i n el xs hk;split at h
   .rename_i hty;simp only[j5,j9]at h;obtain⟨hi,rfl⟩:=h;have hi':=jf3.1 hi;have hk:=hrd.live hk;obtain⟨g,hg,hu⟩:=hx.2.2 _ hk;subst hu;refine⟨_,jjn hT ht hty hi',⟨hx.1,rfl,λb hb=>?_⟩,rfl⟩
    simp_all
   .simp at h
  .rename_i ls frz hk;split at h
   .rename_i n el hty;split at h
    .rename_i hil;simp only[j5,j9]at h;obtain⟨hi,rfl⟩:=h;have hi':=jf3.1 hi;have hk:=hrd.live hk;obtain⟨g,hg,hu⟩:=hx.2.2 _ hk;subst hu;obtain⟨a',ha'⟩:=jit hil;cases ha';refine⟨_,jjn hT ht hty hi',⟨hx.1,rfl,λb hb=>?_⟩,rfl⟩;grind[Ty.size]
    .simp at h
   .simp at h
  .simp at h
 .rename_i k j kd i;have hv:v = .int kd i:=ja4 (S:=S) (w:=w) hy;subst hv;split at h
  .rename_i e el xs frz hk;split at h
   .rename_i hty;simp only[j5,j9]at h;obtain⟨hi,rfl⟩:=h;have hi':=jf3.1 hi;have hnm:=hrd.nm hk;have hk:=hrd.live hk;obtain⟨_,hj,ad,cap',hg',hu⟩:=hx.2.2 _ hk;obtain⟨css,hown,_⟩:=j6U hnm (hR.box k _ hk);rcases hown.2 with⟨_,hz⟩|⟨g,cap,cur,hg,_,hh,hnc,_⟩
    .omega
    .rw[hg]at hg';simp only[Value.slice.injEq,true_and]at hg';obtain⟨rfl,rfl⟩:=hg';rw[if_neg (show¬cap=j by omega)]at hu;simp only[á,Ï,ô]at hu;subst hu;refine⟨_,je1 hT ht hty hi',⟨hx.1,rfl,λb hb=>?_⟩,rfl⟩;grind
   .simp at h
  .simp at h
 .simp at h
theorem jpY{P:Á}{T:H->F TyI}(hT:j1K P T){n:H}{ti:TyI}(hn:T n=D ti)(ht:ti.ty=D .str):P.underlying n=D .string:=by
 obtain⟨i,d,hi,hd,hs,_,ha,_,h⟩:=j5p hT hn;have:=(h _ ht).2.2;cases d<;>simp_all[j91,Ty.agg]
theorem jug{P:Á}{E:Env}(hT:j1K P E.T){t:H}{ti:TyI}(ht:E.T t=D ti)(hty:ti.ty=D .str)(s:Ì)(kd:Ð)(j:Æ)(hj:inR j s.size=U) :
  (ä t (.string s) (.int kd j)).run P w = .ok (.int .u8 (j39 s j)) w:=by
 have hd:=jpY hT ht hty;have hi:=jf3.1 hj;have hlt:j.toNat<s.size:=omg_;have hlt':j.toNat<s.data.size:=hlt;have hg:s[j.toNat]? = D s[j.toNat]:=by simp[hlt]
 simp only[ä,Z,asIntOf,Ä,W,run_underlying hd];rw[if_pos hi.1,hg];simp only[Ä];congr 2;unfold j39;have:s.data.getD j.toNat 0=s.data[j.toNat]:=by simp_all
 rw[this];rfl
theorem jxD{P:Á}{E:Env}(hT:j1K P E.T){bx:H->BS}{t:È}{ti:TyI}(ht:E.T t=D ti)
  {c c':Cel}{y:Leaf}{u v:O}(h:idxV ti c y=D (U,c'))(hc:j0m S w γ bx c u)(hy:j08 S w γ bx y v) :
  ∃z,(ä t u v).run P w = .ok z w/\j0m S w γ bx c' z:=by
 unfold idxV at h;split at h
 .rename_i n el xs kd i;have hv:v = .int kd i:=ja4 (S:=S) (w:=w) hy;subst hv;split at h
  .rename_i hty;simp only[j5,j9]at h;obtain⟨hi,rfl⟩:=h;have hi':=jf3.1 hi;obtain⟨cs,rfl,hn,css,ha,he⟩:=hc;obtain⟨hd,hpos,te,hte,htea⟩:=jir hT ht hty;have hsz:=jb7 hT hte htea;obtain⟨c,h1,h2,h3⟩:=jgF (λx c hx=>Rep.length el x c hx) ha i.toNat el.dflt omg_;have hcl:=Rep.length el _ c h2
   have hex:∀j,j<te.size->cs.toList[i.toNat*el.size+j]? = c[j]? := by
    simp_all
   obtain⟨ii,dd,hii,hdd,_,_,hag,_,hd'⟩:=j5p hT hte
   have hpart:∃z,(part ti.elem cs (i.toNat*te.size)).run P w = .ok z w/\j0m S w γ bx (jcs el (xs.getD i.toNat el.dflt)) z:=by
    have hdesc:=(hd' _ htea).2.2;rw[<-hsz];by_cases hagg:te.agg=U
    .refine⟨.agg (cs.extract (i.toNat*el.size) (i.toNat*el.size+te.size)),?_,?_⟩
     .grind[part,Z,jiq,W,j2F,Ä]
     .have hcc:(cs.extract (i.toNat*el.size) (i.toNat*el.size+te.size))=c.toArray:=by apply Array.ext';simp only[Array.toList_extract,List.extract_eq_take_drop];apply List.ext_getElem?;grind
      rw[hcc];refine jis el _ c _ h2 (λ_=>rfl) (λhf hna=>?_);exfalso;rw[hagg]at hag;cases dd with
      |struct fs=>grind[j91]
      |array m e=>cases el<;>simp[j91]at hdesc;exact hna _ _ rfl
      |_=>simp[aggD]at hag
    .have hf:te.agg=false:=by simpa using hagg
     have hel:el.agg=J/\∀n a,el ≠ .arr n a:=by
      rw[hf]at hag;cases dd with
      |struct fs=>simp[aggD]at hag
      |array m e=>simp[aggD]at hag
      |int k=>simp[j91]at hdesc;subst hdesc;exact⟨rfl,smp_⟩
      |bool=>simp[j91]at hdesc;subst hdesc;exact⟨rfl,smp_⟩
      |string=>simp[j91]at hdesc;subst hdesc;exact⟨rfl,smp_⟩
      |slice e=>cases el<;>simp[j91]at hdesc;exact⟨rfl,smp_⟩
      |_=>simp[j91]at hdesc
     have hone:∃z,c=[z]:=by
      have:el.size=1:=by cases el<;>first|rfl|(exfalso;simp[Ty.agg]at hel)
      grind[List.length_eq_one_iff]
     obtain⟨z,rfl⟩:=hone;have hz:cs[i.toNat*el.size]? = D z:=by grind
     refine⟨z,?_,jis el _ [z] z h2 (λho=>?_) (λ_ _=>rfl)⟩;all_goals grind[part,Z,jiq,W,Ä]
   obtain⟨z,hz,hcz⟩:=hpart;refine⟨z,?_,hcz⟩;simp only[ä,asIntOf,Z,Ä,W,run_underlying hd,ã,if_pos hi',j2F hT hte,hz]
  .simp at h
 .rename_i s kd i;have hv:v = .int kd i:=ja4 (S:=S) (w:=w) hy;subst hv;split at h
  .rename_i hty;simp only[j5,j9]at h;obtain⟨hi,rfl⟩:=h;have hu:u = .string s:=jkg (S:=S) (w:=w) hc.1;subst hu;exact⟨_,jug hT ht hty s kd i hi,rfl,λ_=>rfl⟩
  .simp at h
 .simp at h
theorem jxE{P:Á}{E:Env}(hT:j1K P E.T)(hR:Rel N np S0 w0 refs σ a w S γ){rd:H->BS}(hrd:RdOk σ rd){t ty:È}{ti:TyI}(ht:E.T t=D ti){x l:Leaf}{u:O}
  (h:lenC rd ti.ty x=D l)(hx:j08 S w γ σ.bx x u):∃z,(à #[t] ty #[u]).run P w = .ok z w/\j08 S w γ σ.bx l z/\One z:=by
 have sl:∀(ad:F Addr)(n c:H),jct ti.ty=U->(à #[t] ty #[.slice ad n c]).run P w = .ok (.int .i64 n) w:=by intro ad n c hl;obtain⟨a',hty⟩:=jit hl;obtain⟨hd,_⟩:=j67 hT ht hty;simp[à,run_underlying hd,goInt]
 unfold lenC at h;split at h
 .split at h
  .rename_i hl;simp at h;subst h;have hu:u = .slice B 0 0:=hx;subst hu;exact⟨_,sl B 0 0 hl,rfl,rfl⟩
  .simp at h
 .rename_i k;split at h
  .rename_i e el xs frz hk;split at h
   .rename_i hl;simp at h;subst h;have hnm:=hrd.nm hk;have hk:=hrd.live hk;have hu:=hx.2.2 _ hk;obtain⟨css,hown,_⟩:=j6U hnm (hR.box k _ hk);rcases hown.2 with⟨hg,hz⟩|⟨g,cap,cur,hg,_⟩
    .rw[hu,hg,hz];exact⟨_,sl _ _ _ hl,rfl,rfl⟩
    .rw[hu,hg];exact⟨_,sl _ _ _ hl,rfl,rfl⟩
   .simp at h
  .rename_i e el n ls hk;split at h
   .rename_i hl;simp at h;subst h;have hk:=hrd.live hk;have hu:=hx.2.2 _ hk;obtain⟨hnm,⟨cs,hown,_,_⟩,_⟩:=hR.box k _ hk;rcases hown.2 with⟨hg,hz⟩|⟨g,cap,cur,hg,_⟩
    .rw[hu,hg,hz];exact⟨_,sl _ _ _ hl,rfl,rfl⟩
    .rw[hu,hg];exact⟨_,sl _ _ _ hl,rfl,rfl⟩
   .simp at h
  .simp at h
 .rename_i el xs;split at h
  .rename_i hl;simp at h;subst h;obtain⟨ad,cap,hu,_⟩:=hx;simp at hu;subst hu;exact⟨_,sl _ _ _ hl,rfl,rfl⟩
  .simp at h
 .rename_i s;split at h
  .rename_i hty;simp at h;subst h;have hu:u = .string s:=jkg (S:=S) (w:=w) hx;subst hu;have hd:=jpY hT ht hty;exact⟨_,by simp[à,run_underlying hd,goInt],rfl,rfl⟩
  .simp at h
 .rename_i k j;split at h
  .rename_i e el xs frz hk;split at h
   .rename_i hl;simp at h;subst h;have hk:=hrd.live hk;obtain⟨_,hj,ad,cap',hg',hu⟩:=hx.2.2 _ hk;rw[hu];refine⟨_,sl _ _ _ hl,?_,rfl⟩;show [Value.int .i64 _]=[Value.int .i64 _];congr 2
   .simp at h
  .simp at h
 .rename_i k j;split at h
  .rename_i e el xs frz hk;split at h
   .rename_i hl;simp at h;subst h;have hk:=hrd.live hk;obtain⟨_,hj,ad,cap',hg',hu⟩:=hx.2.2 _ hk;rw[hu];exact⟨_,sl _ _ _ hl,rfl,rfl⟩
   .simp at h
  .simp at h
 .simp at h
theorem Rel.step(hR:Rel N np S0 w0 refs σ a w S γ){bx':H->BS}{w':À}{S':j09}{γ':H->O}(hk:j3m S w S' w')(hb:BxLe γ σ.bx γ' bx')
   (box:∀k b,bx' k = .live b->j2i S' w' γ' bx' k b)(own:∀k b g,bx' k = .live b->blk (γ' k)=D g->Own w0 refs g\/(g∈refs/\parK np k=U))
   (apart:∀k k' b b' g,k≠k'->bx' k = .live b->bx' k' = .live b'->blk (γ' k)=D g->blk (γ' k')≠D g)
   (new:∀g o,S' g o->S0 g o\/Own w0 refs g)(here:∀g o,S' g o->g<w'.heap.size)(below:∀g,g<w0.heap.size->g∉refs->w'.heap[g]? = w0.heap[g]?)
   (grow:w0.heap.size<=w'.heap.size)(os:w'.os=w0.os)(tape:w'.tape=w0.tape)(output:w'.output=w0.output)
   (kept:∀g,g<w.heap.size->refs.kw g≠B->(∀k b,σ.bx k = .live b->blk (γ k)≠D g)->w'.heap[g]? = w.heap[g]? /\ ∀k b,bx' k = .live b->blk (γ' k)≠D g) :
   Rel N np S0 w0 refs { σ with bx:=bx' } a w' S' γ':=
 ⟨hR.size,hR.defers,λi=>j4i.keep hk hb (hR.slot i),box,own,apart,λg o h=>(hk g o (hR.ext g o h)).1,new,here,below,grow,os,tape,output,λk v h=>⟨(hR.par k v h).1,(hb k (hR.par k v h).2.1).1,(hb k (hR.par k v h).2.1).2.1.trans (hR.par k v h).2.2⟩,
  λg o h=>by
   grind[kept],hR.fix⟩
theorem j2i.keep{S':j09}{w':À}{γ':H->O}{bx bx':H->BS}(hk:j3m S w S' w')(hb:BxLe γ bx γ' bx'){k:H}{b:Bx}(hg:γ' k=γ k)
  (hblk:∀g,blk (γ k)=D g->w'.heap[g]? = w.heap[g]? /\ ∀o,S' g o↔S g o)(h:j2i S w γ bx k b):j2i S' w' γ' bx' k b:=by
 cases b with
 |cell ls frz=>obtain⟨g,cur,e,h1,h2,h3,h4,h5,h6⟩:=h;obtain⟨e1,e2⟩:=hblk g (by rw[h1];rfl);exact⟨g,cur,e,hg.trans h1,e1.trans h2,h3.mono (λx u hx=>j08.keep hk hb hx),h4,λhf o hs=>h5 hf o ((e2 o).1 hs),λhf o ho=>(e2 o).2 (h6 hf o ho)⟩
 |lst e t xs frz=>
  obtain⟨h1,h3⟩:=h;refine⟨?_,λg hg'=>?_⟩
  .rw[hg];exact h1.keep hk λg hg'=>(hblk g hg').1
  simp_all
 |arr n t xs=>obtain⟨g,cur,e,h1,h2,h3,h4⟩:=h;obtain⟨e1,e2⟩:=hblk g (by rw[h1];rfl);exact⟨g,cur,e,hg.trans h1,e1.trans h2,Rep.keep hk _ _ _ h3,λo hs=>h4 o ((e2 o).1 hs)⟩
 |row e t n ls=>
  obtain⟨hm,⟨cs,h1,h2,h3⟩,h4⟩:=h;refine⟨hm,⟨cs,⟨h1.1,?_⟩,h2.mono (λx u hx=>j08.keep hk hb hx),h3⟩,λg hg' o hs=>?_⟩
  .rw[hg];rcases h1.2 with hn|⟨g,cap,cur,hv,hb0,hh,rest⟩
   .exact .inl hn
   .exact .inr ⟨g,cap,cur,hv,hb0,(hblk g (by rw[hv];rfl)).1.trans hh,rest⟩
  simp_all
theorem j0y(σ:St)(k:H)(b:BS):(σ.setB k b).bx k=b:=by simp[St.setB]
theorem j07(σ:St){k k':H}(b:BS)(h:k'≠k):(σ.setB k b).bx k'=σ.bx k':=by simp[St.setB,h]
theorem jxF(hR:Rel N np S0 w0 refs σ a w S γ){k e:H}{t:Ty}{xs:I t.den}{f:X}(hm:isM e=J)(hk:σ.bx k = .live (.lst e t xs f)){S':j09}{w':À}(hst:j3m S w S' w')
  (hs:∀g o,blk (γ k)=D g->o<xs.length*t.size->S' g o/\w'.cell? ⟨g,o,B⟩=w.cell? ⟨g,o,B⟩):Rep S' w' (.list t) xs [γ k]:=by
 obtain⟨css,hown,ha,_⟩:=j6U hm (hR.box k _ hk);rcases hown.2 with⟨hg,hz⟩|⟨g,cap,cur,hg,_,hh,hle,hcm,hcs,htake⟩
 .refine⟨B,0,?_,?_,?_,λ_=>rfl,λb hb=>by simp at hb⟩;all_goals simp_all
 .refine⟨D ⟨g,0,B⟩,cap,by rw[hg],hle,hcm,smp_,λb hb=>?_⟩;simp at hb;subst hb;refine⟨λ_=>rfl,css,ha.mono (λx c hx=>Rep.keep hst _ _ _ hx),λj v hv=>?_⟩;have hlen:=All2.flatten_length (λx c hx=>Rep.length t x c hx) ha;have hj:j<xs.length*t.size:=by grind
  obtain⟨h1,h2⟩:=hs g j (by rw[hg];rfl) hj;simp only[ô];refine⟨h1,h2.trans ?_⟩;have:=hown.cells (g:=g) (by rw[hg];rfl) j v hv;grind[Ï]
theorem jiu(hR:Rel N np S0 w0 refs σ a w S γ){k e:H}{t:Ty}{xs:I t.den}{f:X}(hm:isM e=J)(hk:σ.bx k = .live (.lst e t xs f))(hp:parK np k=J) :
  ∃S',Rel N np S0 w0 refs (σ.setB k (.live (.lst e t xs U))) a w S' γ/\j3m S w S' w/\Rep S' w (.list t) xs [γ k]:=by
 let S':j09:=λg o=>S g o\/(blk (γ k)=D g/\o<xs.length*t.size)
 have hst:j3m S w S' w:=λg o h=>⟨.inl h,rfl⟩;have hdata:Rep S' w (.list t) xs [γ k]:=jxF hR hm hk hst (λg o hb ho=>⟨.inr ⟨hb,ho⟩,rfl⟩)
 have hble:BxLe γ σ.bx γ (σ.setB k (.live (.lst e t xs U))).bx:=by
  intro k' hk';by_cases hkk:k'=k
  .subst hkk;rw[j0y];exact⟨smp_,rfl,λb hb=>by simp at hb;subst hb;exact⟨_,hk,rfl,rfl,λ_=>rfl⟩⟩
  .rw[j07 σ _ hkk];exact⟨hk',rfl,λb hb=>⟨b,hb,.refl b⟩⟩
 have live':∀k' b,(σ.setB k (.live (.lst e t xs U))).bx k' = .live b->∃b',σ.bx k' = .live b':=by grind[j07]
 refine⟨S',?_,hst,hdata⟩
 have hbox:∀k' b,(σ.setB k (.live (.lst e t xs U))).bx k' = .live b->j2i S' w γ (σ.setB k (.live (.lst e t xs U))).bx k' b:=by
  intro k' b hb;by_cases hkk:k'=k
  .subst hkk;rw[j0y]at hb;simp at hb;subst hb;obtain⟨css,hown,ha,hS⟩:=j6U hm (hR.box k' _ hk);refine jip hm ⟨css,hown,ha.mono (λx c hx=>Rep.keep hst _ _ _ hx),λg hg=>⟨smp_,λ_ o=>?_⟩⟩;grind
  .rw[j07 σ _ hkk]at hb;refine j2i.keep hst hble rfl (λg hg=>⟨rfl,λo=>⟨λhs=>?_,.inl⟩⟩) (hR.box k' b hb);rcases hs with hs|hs
   .exact hs
   .exact absurd hs.1 (hR.apart k' k b _ g hkk hb hk hg)
 refine Rel.step hR hst hble hbox ?_ ?_ ?_ ?_ hR.below hR.grow hR.os hR.tape hR.output (λg _ _ h=>⟨rfl,λk' b' hb'=>by grind⟩)
 .intro k' b g hb hg;obtain⟨b',hb'⟩:=live' k' b hb;exact hR.own k' b' g hb' hg
 .intro k1 k2 b1 b2 g hne h1 h2 hg;obtain⟨b1',h1'⟩:=live' k1 b1 h1;obtain⟨b2',h2'⟩:=live' k2 b2 h2;exact hR.apart k1 k2 b1' b2' g hne h1' h2' hg
 .intro g o hs;rcases hs with hs|hs
  .exact hR.new g o hs
  .rcases hR.own k _ g hk hs.1 with h|h;all_goals simp_all
 .intro g o hs;rcases hs with hs|hs
  .exact hR.here g o hs
  .obtain⟨css,hown,_⟩:=j6U hm (hR.box k _ hk);rcases hown.2 with⟨hn,_⟩|⟨g',cap,cur,hg,_,hh,_⟩;all_goals grind[blk]
def FrzL(np:H)(bx:H->BS)(u:Ups):Prop:=
 ∀x∈u,parK np x.1=J/\∃e t xs f,bx x.1 = .live (.lst e t xs f)/\x.2 = .live (.lst e t xs U)/\isM e=J
def Froz(bx:H->BS)(γ:H->O)(S:j09)(w:À)(u:Ups):Prop:=
 ∀x∈u,∀e t xs f,bx x.1 = .live (.lst e t xs f)->Rep S w (.list t) xs [γ x.1]
theorem FrzL.app{bx:H->BS}{u v:Ups}:FrzL np bx (u++v)↔FrzL np bx u/\FrzL np bx v:=by
 simp only[FrzL,ñ];grind
theorem Froz.app{bx:H->BS}{u v:Ups}:Froz bx γ S w (u++v)↔Froz bx γ S w u/\Froz bx γ S w v:=by
 simp only[Froz,ñ];exact⟨λh=>⟨λx hx=>h x (.inl hx),λx hx=>h x (.inr hx)⟩,λh x hx=>hx.elim (h.1 x) (h.2 x)⟩
theorem FrzL.nil{bx:H->BS}:FrzL np bx []:=λ_ h=>by simp at h
theorem Froz.nil{bx:H->BS}:Froz bx γ S w []:=λ_ h=>by simp at h
theorem Froz.keep{bx:H->BS}{u:Ups}{S':j09}{w':À}(hk:j3m S w S' w')(h:Froz bx γ S w u):Froz bx γ S' w' u:=
 λx hx e t xs f hb=>Rep.keep hk _ _ _ (h x hx e t xs f hb)
def jeP(bx bx':H->BS):Prop:=
 ∀k,bx' k=bx k\/∃e t xs f f',bx k = .live (.lst e t xs f)/\bx' k = .live (.lst e t xs f')
theorem jeP.refl(bx:H->BS):jeP bx bx:=λ_=> .inl rfl
theorem jeP.trans{b1 b2 b3:H->BS}(h:jeP b1 b2)(h':jeP b2 b3):jeP b1 b3:=by
 intro k;rcases h k with e|⟨e,t,xs,f,f',h1,h2⟩
 .rcases h' k with e'|⟨e2,t,xs,f,f',h1,h2⟩;all_goals grind
 .rcases h' k with e'|⟨e2,t2,xs2,f2,f2',h3,h4⟩;all_goals grind
theorem jeP.free{b1 b2:H->BS}(h:jeP b1 b2){k:H}(hk:b1 k = .free):b2 k = .free:=by
 rcases h k with e|⟨e,t,xs,f,f',h1,h2⟩;all_goals simp_all
theorem jeP.cell{b1 b2:H->BS}(h:jeP b1 b2){k:H}{ls:I Leaf}{f:X}(hk:b1 k = .live (.cell ls f)):b2 k = .live (.cell ls f):=by
 rcases h k with e|⟨e,t,xs,f,f',h1,h2⟩;all_goals simp_all
theorem jeP.arr{b1 b2:H->BS}(h:jeP b1 b2){k n:H}{t:Ty}{xs:I t.den}(hk:b1 k = .live (.arr n t xs)):b2 k = .live (.arr n t xs):=by
 rcases h k with e|⟨e,t,xs,f,f',h1,h2⟩;all_goals simp_all
theorem jeP.lst{b1 b2:H->BS}(h:jeP b1 b2){k e:H}{t:Ty}{xs:I t.den}{f:X}(hk:b1 k = .live (.lst e t xs f)):∃f',b2 k = .live (.lst e t xs f'):=by
 rcases h k with e|⟨e,t,xs,f,f',h1,h2⟩;all_goals simp_all
theorem jeP.le{b1 b2:H->BS}(h:jeP b1 b2):BxLe γ b1 γ b2:=by
 intro k hk;rcases h k with e|⟨e,t,xs,f,f',h1,h2⟩
 .rw[e];exact⟨hk,rfl,λb hb=>⟨b,hb,.refl b⟩⟩
 .rw[h2];exact⟨smp_,rfl,λb hb=>by simp at hb;subst hb;exact⟨_,h1,rfl,rfl,λ_=>rfl⟩⟩
theorem jmf:∀(u:Ups)(σ:St),(σ.upd u).sl=σ.sl
 |[],_=>rfl
 |e::u,σ=>jmf u (σ.setB e.1 e.2)
theorem j6S:∀(u v:Ups)(σ:St),σ.upd (u++v)=(σ.upd u).upd v
 |[],_,_=>rfl
 |e::u,v,σ=>j6S u v (σ.setB e.1 e.2)
theorem j4t:∀(u:Ups)(σ:St)(S:j09),Rel N np S0 w0 refs σ a w S γ->FrzL np σ.bx u->
  ∃S',Rel N np S0 w0 refs (σ.upd u) a w S' γ/\j3m S w S' w/\Froz σ.bx γ S' w u/\jeP σ.bx (σ.upd u).bx
 |[],σ,S,hR,_=>⟨S,hR,.refl S w,.nil,.refl _⟩
 |x::u,σ,S,hR,hf=>by
  obtain⟨hp,e,t,xs,f,hb,hx,hm⟩:=hf x smp_;obtain⟨S1,hR1,hst1,hd1⟩:=jiu hR hm hb hp;rw[<-hx]at hR1
  have hs1:jeP σ.bx (σ.setB x.1 x.2).bx:=by
   intro k;by_cases hk:k=x.1
   .subst hk;exact .inr ⟨e,t,xs,f,U,hb,by rw[j0y,hx]⟩
   .exact .inl (j07 σ _ hk)
  have hf1:FrzL np (σ.setB x.1 x.2).bx u:=by intro y hy;obtain⟨hp',e',t',xs',f',hb',hy'⟩:=hf y (by simp[hy]);obtain⟨f2,h2⟩:=hs1.lst hb';exact⟨hp',e',t',xs',f2,h2,hy'⟩
  obtain⟨S2,hR2,hst2,hd2,hs2⟩:=j4t u _ S1 hR1 hf1;refine⟨S2,hR2,hst1.trans hst2,λy hy e' t' xs' f' hb'=>?_,hs1.trans hs2⟩;rcases List.mem_cons.1 hy with rfl|hy
  .rw[hb]at hb';cases hb';exact Rep.keep hst2 _ _ _ hd1
  .obtain⟨f2,h2⟩:=hs1.lst hb';exact hd2 y hy e' t' xs' f2 h2
def RdF(np:H)(σ:St)(rd:H->BS):Prop:=(∀k,(rd k=σ.bx k/\parK np k=J)\/rd k = .gone)/\NoM rd
theorem RdF.ok{rd:H->BS}(h:RdF np σ rd):RdOk σ rd:=⟨λk=>(h.1 k).imp (·.1) id,h.2⟩
theorem RdF.par{rd:H->BS}(h:RdF np σ rd){k:H}{b:Bx}(hk:rd k = .live b):parK np k=false:=by
 rcases h.1 k with h|h;all_goals simp_all
def jov(S:j09)(w:À)(γ:H->O)(bx:H->BS):Prop:=∀k b,bx k = .live b->j2i S w γ bx k b
theorem jsH{rd:H->BS}(hrd:RdF np σ rd)(hB:jov S w γ σ.bx){t:Ty}{l:Leaf}{v:t.den}{u:Ups}{z:O}(h:jb5 rd t l=D (v,u))(hl:j08 S w γ σ.bx l z) :
  FrzL np σ.bx u/\∀S' w',j3m S w S' w'->Froz σ.bx γ S' w' u->Rep S' w' t v [z]:=by
 unfold jb5 at h;split at h
 .split at h
  .rename_i t' v' v'' hto;simp only[j5,j9]at h;obtain⟨rfl,rfl⟩:=h;have:=jgi hto;cases this;exact⟨.nil,λS' w' hk _=>Rep.keep hk _ _ _ hl⟩
  .simp at h
 .split at h
  .simp only[j5,j9]at h;obtain⟨rfl,rfl⟩:=h;have hz:z = .slice B 0 0:=hl;subst hz;exact⟨.nil,λS' w' _ _=>⟨B,0,rfl,Nat.le_refl _,by simp[maxLen],λ_=>rfl,λb hb=>by simp at hb⟩⟩
  .simp at h
 .rename_i k;split at h
  .rename_i e el xs f hk;split at h
   .rename_i v' hto;simp only[j5,j9]at h;obtain⟨rfl,rfl⟩:=h;have:=jgi hto;cases this;have hk':=hrd.ok.live hk;refine⟨λx hx=>?_,λS' w' _ hf=>?_⟩
    .have hx':=List.mem_singleton.1 hx;subst hx';exact⟨hrd.par hk,e,el,xs,f,hk',rfl,hrd.ok.nm hk⟩
    .have:=hf (k,_) (List.mem_singleton.2 rfl) e el xs f hk';rw[hl.2.2 _ hk'];exact this
   .simp at h
  .simp at h
 .simp at h
theorem jpZ{n cap:H}{ad:F Addr}(h1:n<=cap)(h2:cap<=maxLen)(h3:ad=B->cap=0)(h4:∀b,ad=D b->n≠0->b.spot=B){t:Ty}{v:t.den}(hv:hdr t n=D v):Rep S w t v [.slice ad n cap]:=by
 unfold hdr at hv;split at hv
 .simp only[j5]at hv;subst hv;have hl:(Ç n ()).length=n:=List.length_replicate ..;refine⟨ad,cap,by rw[hl],by rw[hl];exact h1,h2,h3,λb hb=>⟨λhne=>h4 b hb (λh0=>hne (by rw[h0];rfl)),Ç n [],?_,?_⟩⟩
  .clear hl h1 h4;induction n with
   |zero=>trivial
   |succ n ih=>exact⟨rfl,ih⟩
  .have:(Ç n ([]:I O)).flatten=[]:=by
    simp_all
   rw[this];intro j v hj;simp at hj
 .simp at hv
theorem juh{rd:H->BS}(hrd:RdF np σ rd)(hB:jov S w γ σ.bx){t:Ty}{l:Leaf}{v:t.den}{z:O}(h:jlK rd t l=D v)(hl:j08 S w γ σ.bx l z):∀S' w',Rep S' w' t v [z]:=by
 intro S' w';unfold jlK at h;split at h
 case h_2=>simp at h
 rename_i n hn;unfold lenL at hn;split at hn
 .simp at hn
 .simp only[j5]at hn;subst hn;obtain⟨ad,cap,hz,h1,h2,h3,h4⟩:=hl;grind[jpZ]
 .split at hn
  .rename_i k _ e a xs f hk;simp only[j5]at hn;subst hn;have hk':=hrd.ok.live hk;obtain⟨css,hown,_,_⟩:=j6U (hrd.ok.nm hk) (hB k _ hk');have hz:z=γ k:=hl.2.2 _ hk';rw[hz];rcases hown.2 with⟨hs,hn0⟩|⟨g,cap,cur,hs,_,hh,hle,hcm,_⟩;all_goals grind[jpZ]
  .rename_i k _ e a n' ls hk;simp only[j5]at hn;subst hn;have hk':=hrd.ok.live hk;obtain⟨_,⟨cs,hown,_,_⟩,_⟩:=hB k _ hk';have hz:z=γ k:=hl.2.2 _ hk';rw[hz];rcases hown.2 with⟨hs,hn0⟩|⟨g,cap,cur,hs,_,hh,hle,hcm,_⟩;all_goals grind[jpZ]
  .simp at hn
 .simp at hn
theorem jbH{rd:H->BS}(hrd:RdF np σ rd)(hB:jov S w γ σ.bx){t:Ty}{l:Leaf}{v:t.den}{u:Ups}{z:O}(h:jeU rd t l=D (v,u))(hl:j08 S w γ σ.bx l z) :
  FrzL np σ.bx u/\∀S' w',j3m S w S' w'->Froz σ.bx γ S' w' u->Rep S' w' t v [z]:=by
 unfold jeU at h;split at h
 .rename_i v' hv;simp only[j5,j9]at h;obtain⟨rfl,rfl⟩:=h;exact⟨.nil,λS' w' _ _=>juh hrd hB hv hl S' w'⟩
 grind[jsH]
theorem jcu{rd:H->BS}(hrd:RdF np σ rd)(hB:jov S w γ σ.bx):∀(t:Ty){ls r:I Leaf}{v:t.den}{u:Ups}{zs:I O},gath rd t ls=D (v,r,u)->All2 (j08 S w γ σ.bx) ls zs->
  FrzL np σ.bx u/\r=ls.drop t.size/\∀S' w',j3m S w S' w'->Froz σ.bx γ S' w' u->Rep S' w' t v (zs.take t.size)
 |.unit,ls,r,v,u,zs,h,ha=>by
  simp only[gath,j5,j9]at h;obtain⟨_,rfl,rfl⟩:=h;exact⟨.nil,rfl,λS' w' _ _=>rfl⟩
 |.wrap b,ls,r,v,u,zs,h,ha=>by
  simp only[gath]at h;split at h
  .rename_i x r' u' hx;simp only[j5,j9]at h;obtain⟨rfl,rfl,rfl⟩:=h;exact jcu hrd hB b hx ha
  .simp at h
 |.pair b c,ls,r,v,u,zs,h,ha=>by
  simp only[gath]at h;split at h
  .rename_i x r1 u1 hx;split at h
   .rename_i y r2 u2 hy;simp only[j5,j9]at h;obtain⟨rfl,rfl,rfl⟩:=h;obtain⟨f1,e1,p1⟩:=jcu hrd hB b hx ha;have ha2:All2 (j08 S w γ σ.bx) r1 (zs.drop b.size):=by rw[e1];exact ha.drop _
    obtain⟨f2,e2,p2⟩:=jcu hrd hB c hy ha2;refine⟨FrzL.app.2 ⟨f1,f2⟩,?_,λS' w' hk hf=>?_⟩
    .rw[e2,e1,å];rfl
    .obtain⟨hf1,hf2⟩:=Froz.app.1 hf;refine⟨zs.take b.size,(zs.drop b.size).take c.size,?_,p1 S' w' hk hf1,p2 S' w' hk hf2⟩;show zs.take (b.size+c.size)=_;rw[List.take_add]
   .simp at h
  .simp at h
 |.arr _ _,_,_,_,_,_,h,_=>by simp[gath]at h
 |.int k,l::ls,r,v,u,z::zs,h,ha=>by
  simp only[gath]at h;split at h
  .rename_i v' u' hv;simp only[j5,j9]at h;obtain⟨rfl,rfl,rfl⟩:=h;obtain⟨f,p⟩:=jbH hrd hB hv ha.1;exact⟨f,rfl,p⟩
  .simp at h
 |.bool,l::ls,r,v,u,z::zs,h,ha=>by
  simp only[gath]at h;split at h
  .rename_i v' u' hv;simp only[j5,j9]at h;obtain⟨rfl,rfl,rfl⟩:=h;obtain⟨f,p⟩:=jbH hrd hB hv ha.1;exact⟨f,rfl,p⟩
  .simp at h
 |.str,l::ls,r,v,u,z::zs,h,ha=>by
  simp only[gath]at h;split at h
  .rename_i v' u' hv;simp only[j5,j9]at h;obtain⟨rfl,rfl,rfl⟩:=h;obtain⟨f,p⟩:=jbH hrd hB hv ha.1;exact⟨f,rfl,p⟩
  .simp at h
 |.list b,l::ls,r,v,u,z::zs,h,ha=>by
  simp only[gath]at h;split at h
  .rename_i v' u' hv;simp only[j5,j9]at h;obtain⟨rfl,rfl,rfl⟩:=h;obtain⟨f,p⟩:=jbH hrd hB hv ha.1;exact⟨f,rfl,p⟩
  .simp at h
 |.int _,[],_,_,_,_,h,_=>by simp[gath]at h
 |.bool,[],_,_,_,_,h,_=>by simp[gath]at h
 |.str,[],_,_,_,_,h,_=>by simp[gath]at h
 |.list _,[],_,_,_,_,h,_=>by simp[gath]at h
 |.int _,_::_,_,_,_,[],_,ha=>ha.elim
 |.bool,_::_,_,_,_,[],_,ha=>ha.elim
 |.str,_::_,_,_,_,[],_,ha=>ha.elim
 |.list _,_::_,_,_,_,[],_,ha=>ha.elim
def cellsOf(u:O):I Value:=u.cells.toList
theorem jdr{u:O}(h:One u):u.cells.toList=[u]:=by
 cases u<;>first|rfl|simp[One,Value.oneCell']at h
theorem jkh(rd:H->BS):∀(t:Ty){ls r:I Leaf}{v:t.den}{u:Ups},gath rd t ls=D (v,r,u)->r.length+t.size=ls.length:=by
 intro t;induction t with
 |unit=>intro ls r v u h;simp only[gath,j5,j9]at h;rw[<-h.2.1];rfl
 |wrap a ih=>
  intro ls r v u h;simp only[gath]at h;split at h
  .rename_i x r' u' hx;simp only[j5,j9]at h;rw[<-h.2.1];exact ih hx
  .simp at h
 |pair a b iha ihb=>grind[gath,Ty.size]
 |arr n a _=>grind[gath]
 |int k=>intro ls r v u h;cases ls<;>simp only[gath]at h;all_goals grind[Ty.size]
 |bool=>intro ls r v u h;cases ls<;>simp only[gath]at h;all_goals grind[Ty.size]
 |str=>intro ls r v u h;cases ls<;>simp only[gath]at h;all_goals grind[Ty.size]
 |list a _=>intro ls r v u h;cases ls<;>simp only[gath]at h;all_goals grind[Ty.size]
theorem jui(rd:H->BS):∀(t:Ty){ls r:I Leaf}{v:t.den}{u:Ups},gath rd t (.dead::ls)=D (v,r,u)->r = .dead::ls:=by
 intro t;induction t with
 |unit=>grind[gath]
 |wrap a ih=>grind[gath]
 |pair a b iha ihb=>grind[gath]
 |arr n a _=>grind[gath]
 |int k=>grind[gath,jeU,jlK,lenL,jb5]
 |bool=>grind[gath,jeU,jlK,lenL,jb5]
 |str=>grind[gath,jeU,jlK,lenL,jb5]
 |list a _=>grind[gath,jeU,jlK,lenL,jb5]
theorem jow{t:Ty}(h:t.agg=U):jdn t=true:=by
 revert h;cases t<;>simp[jdn,Ty.agg]
theorem jds{rd:H->BS}(hrd:RdF np σ rd)(hB:jov S w γ σ.bx){t:Ty}{c:Cel}{v:t.den}{u:Ups}{z:O}(h:jeD rd t c=D (v,u))(hc:j0m S w γ σ.bx c z) :
  FrzL np σ.bx u/\(∀S' w',j3m S w S' w'->Froz σ.bx γ S' w' u->VRep S' w' ⟨t,v⟩ z)/\z.cells.toList.length=t.size:=by
 unfold jeD at h;split at h
 .rename_i l;split at h
  .simp at h
  rename_i hag;split at h
  .rename_i v' u' hv;simp only[j5,j9]at h;obtain⟨rfl,rfl⟩:=h;obtain⟨f,e,p⟩:=jcu hrd hB t hv (zs:=[z]) ⟨hc.1,trivial⟩;have hlen:=jkh rd t hv;simp at hlen;have hd:l ≠ .dead:=by grind[jui]
   have h1:=jdr (hc.2 hd);refine⟨f,λS' w' hk hf=>⟨?_,λhm=>?_,λ_=>hc.2 hd⟩,by simp[h1,hlen]⟩
   .grind
   .exfalso;cases t<;>simp[jdn,Ty.agg]at hm hag;simp[gath]at hv
  .simp at h
 .rename_i ls;split at h
  .rename_i hag;split at h
   .rename_i v' u' hv;simp only[j5,j9]at h;obtain⟨rfl,rfl⟩:=h;obtain⟨cs,rfl,ha,h1⟩:=hc;obtain⟨f,e,p⟩:=jcu hrd hB t hv ha;have hlen:=jkh rd t hv;have hl:=ha.length;simp at hlen;have hcs:cs.toList.length=t.size:=omg_;refine⟨f,λS' w' hk hf=>⟨?_,λ_=>⟨cs,rfl⟩,λhm=>?_⟩,hcs⟩
    .have:=p S' w' hk hf;rwa[List.take_of_length_le omg_]at this
    grind[jow]
   .simp at h
  .simp at h
 .split at h
  .rename_i v' hto;simp only[j5,j9]at h;obtain⟨rfl,rfl⟩:=h;have:=jgi hto;cases this;obtain⟨cs,rfl,hr⟩:=hc;exact⟨.nil,λS' w' hk _=>⟨Rep.keep hk _ _ _ hr,λ_=>⟨cs,rfl⟩,by simp[jdn]⟩,Rep.length _ _ _ hr⟩
  .simp at h
end
end Go.Lft
