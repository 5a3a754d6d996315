/- A typed pk of the GN code, on plain data: vP. -/
import Derived.WalkKit
import Derived.Orders
import Derived.MapKept
theorem j4{α β:Type _}(a:α)(f:α->Option β):(some a).bind f=f a:=rfl
theorem j5{α:Type _}(a b:α):(some a=some b)=(a=b):=Option.some.injEq a b
theorem j6{α:Sort _}{a b:α}:cond true a b=a:=rfl
theorem j7{α:Sort _}{a b:α}:cond false a b=b:=rfl
theorem j8(n:Nat):Int.toNat (n:Int)=n:=rfl
theorem j9{α β:Type _}(a:α)(b:β)(c:α)(d:β):((a,b)=(c,d))=(a=c/\b=d):=Prod.mk.injEq a b c d
theorem ja{a b:Prop}(h:a)(g:b):a/\b:=And.intro h g
abbrev jb:=@List.drop_eq_getElem_cons
abbrev jc:=@Bool.and_eq_true
abbrev jd:=@List.drop_of_length_le
abbrev je:=@List.mem_cons
abbrev jf:=@List.getElem_mem
abbrev jg:=@List.length_append
abbrev jh:=@bne_self_eq_false
abbrev ji:=@Array.getElem?_eq_some_iff
abbrev jj:=@List.append_assoc
abbrev jk:=@List.getElem?_eq_getElem
abbrev jl:=@Bool.not_true
abbrev jm:=@List.length_cons
abbrev jn:=@List.mem_append
abbrev jo:=@decide_eq_true_eq
abbrev jp:=@Classical.byContradiction
abbrev jq:=@congrArg
abbrev jr:=@List.drop_zero
abbrev js:=@Nat.le_refl
abbrev jt:=@List.mem_map
abbrev ju:=@Array.getElem?_eq_getElem
abbrev jv:=@List.nil_append
abbrev jw:=@Nat.mul_le_mul_right
abbrev jx:=@List.getElem?_eq_some_iff
abbrev jy:=@List.all_eq_true
abbrev jz:=@List.mem_append_left
abbrev k5:=@List.length_map
abbrev k7:=@List.mem_append_right
abbrev k9:=@Int.le_refl
abbrev ka:=@Bool.not_false
abbrev kb:=@List.eq_nil_of_length_eq_zero
abbrev kc:=@List.mem_of_getElem?
abbrev ke:=@List.map_cons
abbrev kf:=@Nat.zero_le
abbrev kg:=@Nat.zero_add
abbrev ki:=@List.pairwise_cons
abbrev kj:=@List.getElem?_append_right
abbrev kn:=@decide_eq_false_iff_not
abbrev ko:=@List.pairwise_iff_getElem
abbrev kp:=@Bool.not_eq_true'
abbrev kq:=@List.take_add_one
abbrev kr:=@List.mem_singleton
abbrev ku:=@List.length_singleton
abbrev kx:=@List.flatten_cons
abbrev kz:=@of_decide_eq_true
abbrev q7:=@Bool.false_eq_true
abbrev q8:=@Array.getElem?_toList
abbrev q9:=@Nat.le_trans
abbrev qa:=@Option.map_some
abbrev qb:=@List.nodup_cons
abbrev qc:=@List.length_nil
abbrev qd:=@beq_self_eq_true
abbrev qe:=@List.mem_of_mem_take
abbrev qf:=@List.contains_eq_mem
abbrev qg:=@Array.length_toList
abbrev qh:=@List.length_eq_zero_iff
abbrev qi:=@List.getElem?_map
abbrev qj:=@true_and
abbrev qk:=@Array.ext'
abbrev ql:=@Nat.mul_le_mul
abbrev qm:=@List.append_nil
abbrev qn:=@List.length_take
abbrev qo:=@List.mem_flatMap
abbrev qp:=@List.getElem?_eq_none
abbrev qq:=@Nat.le_of_ble_eq_true
abbrev qr:=@List.mem_cons_of_mem
abbrev qs:=@Int.le_trans
abbrev qt:=@List.length_filter_le
abbrev qu:=@List.mem_filter
abbrev qv:=@Nat.lt_of_lt_of_le
abbrev qw:=@List.pairwise_append
abbrev qx:=@Nat.lt_or_ge
abbrev qy:=@Int.tdiv_eq_ediv_of_nonneg
abbrev qz:=@List.flatMap_cons
abbrev z6:=@Bool.eq_false_iff
abbrev z7:=@List.any_eq_false
abbrev z8:=@List.filterMap_cons
abbrev za:=@List.map_append
abbrev zb:=@List.take_append_drop
abbrev zd:=@List.mem_iff_getElem?
abbrev ze:=@List.take_append_of_le_length
abbrev zf:=@List.getElem?_take
abbrev zg:=@Option.getD_some
abbrev zh:=@List.any_eq_true
abbrev zj:=@Bool.true_or
abbrev zk:=@Option.isSome_some
abbrev zm:=@List.mem_of_mem_drop
abbrev zo:=@if_false
abbrev zp:=@List.ext_getElem?
abbrev zq:=@Array.getD_eq_getD_getElem?
abbrev zr:=@Bool.eq_iff_iff
abbrev zt:=@Bool.false_or
abbrev zu:=@List.range'_succ
abbrev zv:=@List.cons_append
abbrev zw:=@List.not_mem_nil
abbrev v2:=@List.mem_cons_self
abbrev v6:=@List.nodup_nil
abbrev v7:=@List.mem_filterMap
abbrev v8:=@Option.isSome_none
abbrev va:=@List.eq_nil_or_concat
abbrev vb:=@List.concat_eq_append
abbrev vc:=@List.getElem?_take_of_lt
abbrev vd:=@Int.mul_le_mul_of_nonneg_right
abbrev ve:=@Array.toList_eq_nil_iff
abbrev vf:=@List.getLast?_singleton
abbrev vg:=@List.getElem_of_mem
abbrev vi:=@List.length_drop
abbrev vj:=@beq_iff_eq
abbrev vk:=@List.filter_append
abbrev vp:=@List.set_append_right
abbrev vq:=@List.length_set
abbrev vr:=@Bool.or_eq_true
abbrev vu:=@Bool.and_self
abbrev vv:=@List.size_toArray
abbrev vw:=@Nat.lt_trichotomy
abbrev vz:=@Bool.or_eq_false_iff
abbrev y8:=@List.dropLast_concat
abbrev y9:=@List.getLast?_append
abbrev ya:=@List.take_take
abbrev yb:=@List.drop_left
abbrev yc:=@Int.mul_nonneg
abbrev yd:=@Nat.succ_mul
abbrev ye:=@Int.ediv_le_self
abbrev yf:=@Int.add_zero
abbrev yg:=@List.take_succ_eq_append_getElem
abbrev yh:=@List.flatten_append
abbrev yi:=@List.map_congr_left
abbrev yj:=@List.getElem?_cons_succ
abbrev yk:=@List.pairwise_singleton
abbrev yl:=@Bool.true_and
abbrev ym:=@Nat.mul_div_cancel
abbrev yn:=@Int.tmod_lt_of_pos
abbrev yo:=@Int.ediv_nonneg
abbrev yp:=@List.drop_eq_nil_of_le
abbrev yq:=@decide_eq_true
abbrev yt:=@List.mem_range
set_option linter.unusedVariables false
namespace Go.Lft
inductive Ty where
 |int (k:IntKind)
 |bool
 |str
 |unit
 |wrap (a:Ty)
 |pair (a b:Ty)
 |list (a:Ty)
 |arr (n:Nat) (a:Ty)
 deriving DecidableEq
@[reducible] def Ty.den:Ty->Type
 |.int _=>Int
 |.bool=>Bool
 |.str=>ByteArray
 |.unit=>Unit
 |.wrap a=>a.den
 |.pair a b=>a.den×b.den
 |.list a=>List a.den
 |.arr _ a=>List a.den
def Ty.dflt:(t:Ty)->t.den
 |.int _=>(0:Int)
 |.bool=>false
 |.str=>ByteArray.empty
 |.unit=>()
 |.wrap a=>a.dflt
 |.pair a b=>(a.dflt,b.dflt)
 |.list _=>[]
 |.arr n a=>List.replicate n a.dflt
def Ty.size:Ty->Nat
 |.int _|.bool|.str|.list _=>1
 |.unit=>0
 |.wrap a=>a.size
 |.pair a b=>a.size+b.size
 |.arr n a=>n*a.size
def Ty.flat:Ty->Bool
 |.int _|.bool|.str|.unit=>true
 |.wrap a=>a.flat
 |.pair a b=>a.flat&&b.flat
 |.list _=>false
 |.arr _ a=>a.flat
def Ty.leafy:Ty->Bool
 |.int _|.bool|.str|.list _=>true
 |_=>false
structure TV where
 t:Ty
 v:t.den
def TV.to(t:Ty)(x:TV):Option t.den:=if h:x.t=t then some (h▸x.v) else none
inductive Cap where
 |v (x:TV)
 |p (ls:List TV)
inductive Leaf where
 |dead
 |nil
 |d (t:Ty) (v:t.den)
 |ol (k:Nat)
 |bp (k:Nat) (c:Nat)
 |ep (k:Nat) (i:Nat) (c:Nat)
 |tl (k:Nat) (i:Nat)
 |hd (k:Nat) (i:Nat)
 |ip (ls:List TV)
 |clo (f:Nat) (bF:List Cap)
inductive Cel where
 |one (x:Leaf)
 |st (ls:List Leaf)
 |av (n:Nat) (a:Ty) (xs:List a.den)
inductive Slot where
 |one (c:Cel)
 |tup (l:List Cel)
 |cnd (s:Nat) (want:Bool) (c:Cel)
 |und
def ej{α β:Type}[BEq α](xs:List (α×β))(k:α):Bool:=xs.any λx=>k==x.1
def dx{α β:Type}[BEq α](d:β):List (α×β)->α->β
 |[],_=>d
 |x::r,k=>cond (k==x.1) x.2 (dx d r k)
def ea{α β:Type}[BEq α]:List (α×β)->α->β->List (α×β)
 |[],k,v=>[(k,v)]
 |x::r,k,v=>cond (k==x.1) ((k,v)::r) (x::ea r k v)
@[reducible] def Ty.keq:(t:Ty)->BEq t.den
 |.int _=>⟨λ(a b:Int)=>a==b⟩
 |.str=>⟨λ(a b:ByteArray)=>a==b⟩
 |_=>⟨λ_ _=>false⟩
def Ty.isKey:Ty->Bool
 |.int _|.str=>true
 |_=>false
def dn(s:ByteArray)(i:Int):Int:=(s.data.getD i.toNat 0).toNat
def isM(e:Nat):Bool:=Nat.ble 4294967296 e
inductive Bx where
 |cell (ls:List Leaf) (frz:Bool)
 |lst (e:Nat) (a:Ty) (xs:List a.den) (frz:Bool)
 |arr (n:Nat) (a:Ty) (xs:List a.den)
inductive BS where
 |free|gone|live (b:Bx)
def mskM(rd:Nat->BS)(k:Nat):BS:=match rd k with
 |.live (.lst e a xs f)=>if isM e then .gone else .live (.lst e a xs f)
 |b=>b
structure St where
 sl:Nat->Slot
 bx:Nat->BS
def St.setS(σ:St)(i:Nat)(s:Slot):St:={ σ with sl:=λj=>if j=i then s else σ.sl j }
def St.setB(σ:St)(k:Nat)(b:BS):St:={ σ with bx:=λj=>if j=k then b else σ.bx j }
inductive Item where
 |s (c:Cel)
 |b (x:BS)
abbrev Snap:=List Item
inductive Arg where
 |v (x:TV)
 |ref (ls:List TV)
 |rl (e:Nat) (x:TV)
 |ip (ls:List TV)
 |clo (f:Nat) (bF:List Cap)
 |mv (e:Nat) (x:TV)
inductive RV where
 |v (x:TV)
 |own (e:Nat) (x:TV)
 |box (ls:List TV)
 |hd (n:Nat)
 |vn (x:TV) (ns:List Nat)
 |clo (f:Nat) (bF:List Cap)
inductive Out where
 |ref (ls:List TV)
 |rl (x:TV)
structure Ret where
 vals:List RV
 outs:List Out
inductive Ex where
 |normal|exit (id:Nat)|ret
 deriving DecidableEq
inductive Loc where
 |slot (i:Nat)
 |cell (k c:Nat)
 deriving DecidableEq
structure po where
 name:Nat
 e:Nat
 a:Ty
 locs:List Loc
 frz:Bool
structure Keep where
 slots:List Nat
 boxes:List Nat
 lists:List po
 datas:List (Loc×Ty):=[]
structure TyI where
 size:Nat
 agg:Bool
 ty:Option Ty
 flds:List (Nat×Nat)
 elem:Nat
 cmp:List Ty:=[]
 mp:Option (Nat×Nat):=none
def parK(np k:Nat):Bool:=decide (k%64=0)&&decide (k/64<np)
structure NT where
 n:Nat
 pin:Nat->Bool
instance(n:Nat):OfNat NT n:=⟨⟨n,λ_=>false⟩⟩
def NT.ok(N:NT)(d:Nat):Prop:=d<N.n/\N.pin d=false
structure Env where
 N:NT
 np:Nat
 T:Nat->Option TyI
 C:Nat->List Arg->(R:Type)->(Ret->Option R)->Option R
 modes:Nat->List Bool
 L:Nat->Snap->(R:Type)->(Ex->Snap->Option R)->Option R
 keep:Nat->Keep
 keepX:Nat->Ex->Keep
 ro:List Bool
 dw:Nat->List (List Nat):=λ_=>[]
 nz:Bool:=false
 hd:Bool:=false
 ns:List Nat:=[]
 bw:Nat->Option (Bool×Ty):=λ_=>none
 ks:Nat->Bool:=λ_=>false
 mvf:Nat->Bool:=λ_=>false
 mr:Nat->Option (Nat×Nat):=λ_=>none
 M:Nat->Snap->(R:Type)->(Snap->Option R)->Option R:=λ_ _ _ _=>none
def insI(x:Int):List Int->List Int
 |[]=>[x]
 |y::ys=>cond (decide (x<=y)) (x::y::ys) (y::insI x ys)
def nH:List Int->List Int
 |[]=>[]
 |x::xs=>insI x (nH xs)
def Cp{β:Type}(xs:List (Int×β)):Bool:=Nat.ble xs.length 1000000&&xs.all λx=>decide (-9223372036854775808<=x.1)&&decide (x.1<=9223372036854775807)
def lh{β:Type}(xs:List (Int×β)):List Int:=nH (xs.map λx=>x.1)
def SP:(a:Ty)->List a.den->Option (Bool×List Int)
 |.pair (.int .i64) _,xs=>some (Cp xs,lh xs)
 |_,_=>none
def Kg:Value->Leaf
 |.int k n=> .d (.int k) n
 |.bool b=> .d .bool b
 |.string s=> .d .str s
 |.slice none 0 0=> .nil
 |_=> .dead
def St.ev(σ:St):Operand->Slot
 |.tmp t=>σ.sl t
 |.const v=> .one (.one (Kg v))
 |.func f=> .one (.one (.clo f []))
 |.global _=> .one (.one .dead)
def pq(ops:Array Oper)(o:Oper):Option (Nat×Bool):=
 match o.guard with
 |none=>none
 |some (j,w)=>match ops[j]? with
  |some oj=>match oj.dst with
   |some s=>some (s,w)
   |none=>none
  |none=>none
def St.chain(σ:St):Nat->Nat×Bool->List (Nat×Bool)
 |0,g=>[g]
 |n+1,g=>match σ.sl g.1 with
  |.cnd s w _=>g::σ.chain n (s,w)
  |_=>[g]
def Slot.cel(act:List (Nat×Bool)):Slot->Cel
 |.one c=>c
 |.tup _=> .one .dead
 |.und=> .one .dead
 |.cnd s w c=>if act.contains (s,w) then c else .one .dead
abbrev Ups:=List (Nat×BS)
def scat:(t:Ty)->t.den->List TV
 |.unit,_=>[]
 |.wrap a,v=>scat a v
 |.pair a b,v=>scat a v.1++scat b v.2
 |.arr n a,v=>(List.range n).flatMap λi=>scat a (List.getD v i a.dflt)
 |t,v=>[⟨t,v⟩]
def TV.leaf(x:TV):Leaf:= .d x.t x.v
def s5:Ty->List Leaf
 |.unit=>[]
 |.wrap a=>s5 a
 |.pair a b=>s5 a++s5 b
 |.arr n a=>(List.range n).flatMap λ_=>s5 a
 |.list _=>[.nil]
 |t=>[.d t t.dflt]
def lj(rd:Nat->BS)(t:Ty):Leaf->Option (t.den×Ups)
 |.d t' v=>match (TV.mk t' v).to t with
  |some v'=>some (v',[])
  |none=>none
 |.nil=>match t with
  |.list _=>some ([],[])
  |_=>none
 |.ol k=>match rd k with
  |.live (.lst e a xs _)=>match (TV.mk (.list a) xs).to t with
   |some v'=>some (v',[(k,.live (.lst e a xs true))])
   |none=>none
  |_=>none
 |_=>none
def gath(rd:Nat->BS):(t:Ty)->List Leaf->Option (t.den×List Leaf×Ups)
 |.unit,ls=>some ((),ls,[])
 |.wrap a,ls=>match gath rd a ls with
  |some (x,r,u)=>some (x,r,u)
  |none=>none
 |.pair a b,ls=>match gath rd a ls with
  |some (x,r,u)=>match gath rd b r with
   |some (y,r',u')=>some ((x,y),r',u++u')
   |none=>none
  |none=>none
 |.arr _ _,_=>none
 |t,l::ls=>match lj rd t l with
  |some (v,u)=>some (v,ls,u)
  |none=>none
 |_,[]=>none
def Ty.agg:Ty->Bool
 |.unit|.wrap _|.pair _ _=>true
 |_=>false
def qC(rd:Nat->BS)(t:Ty):Cel->Option (t.den×Ups)
 |.one l=>if t.agg then none else match gath rd t [l]with
  |some (v,[],u)=>some (v,u)
  |_=>none
 |.st ls=>if t.agg then match gath rd t ls with
  |some (v,[],u)=>some (v,u)
  |_=>none
  else none
 |.av n a xs=>match (TV.mk (.arr n a) xs).to t with
  |some v=>some (v,[])
  |none=>none
def oH:(t:Ty)->t.den->Cel
 |.arr n a,v=> .av n a v
 |t,v=>if t.agg then .st ((scat t v).map TV.leaf) else .one (.d t v)
def Cel.leaves:Cel->Option (List Leaf)
 |.one .dead=>none
 |.one l=>some [l]
 |.st ls=>some ls
 |.av _ _ _=>none
def cmpI(op:BinOp)(x y:Int):Option Bool:=
 match op with
 |.eql=>some (x==y)
 |.neq=>some (x != y)
 |.lss=>some (decide (x<y))
 |.leq=>some (decide (x<=y))
 |.gtr=>some (decide (x>y))
 |.geq=>some (decide (x>=y))
 |_=>none
def eqT:TV->TV->Option Bool
 |⟨.int k,x⟩,⟨.int k',y⟩=>if k=k' then some ((show Int from x)==(show Int from y)) else none
 |⟨.bool,x⟩,⟨.bool,y⟩=>some ((show Bool from x)==(show Bool from y))
 |⟨.str,x⟩,⟨.str,y⟩=>some ((show ByteArray from x).toList==(show ByteArray from y).toList)
 |_,_=>none
def eqL:List Ty->List Leaf->List Leaf->Option Bool
 |[],[],[]=>some true
 |k::ks,.d t x::l,.d t' y::l'=>if t=k/\t'=k then match eqT ⟨t,x⟩ ⟨t',y⟩with
  |some b=>match ks with
   |[]=>match l,l' with
    |[],[]=>some b
    |_,_=>none
   |ks=>match eqL ks l l' with
    |some b'=>some (b&&b')
    |none=>none
  |none=>none
  else none
 |_,_,_=>none
def binI(op:BinOp)(k:IntKind)(x y:Int):Option (Bool×Leaf):=
 match op with
 |.add=>some (true,.d (.int k) (k.wrap (x+y)))
 |.sub=>some (true,.d (.int k) (k.wrap (x-y)))
 |.mul=>some (true,.d (.int k) (k.wrap (x*y)))
 |.quo=>some (!(y==0),.d (.int k) (k.wrap (x.tdiv y)))
 |.rem=>some (!(y==0),.d (.int k) (x.tmod y))
 |.shr=>if decide ((0:Int)<=y) then some (true,.d (.int k) (Int.fdiv x (2^min (Int.toNat y) k.bits))) else none
 |.and|.or|.xor|.andNot|.shl=>none
 |op=>match cmpI op x y with
  |some b=>some (true,.d .bool b)
  |none=>none
def SQ(ti:Option TyI):Bool:=match ti with
 |some t=>decide (t.ty=some .bool)
 |none=>false
def vQ(ti:Option TyI):List Ty:=match ti with
 |some t=>t.cmp
 |none=>[]
def binC(ti:Option TyI)(op:BinOp):Cel->Cel->Option (Bool×Leaf)
 |.one (.d (.int k) x),.one (.d (.int k') y)=>if k=k' then binI op k x y else
  match op with
  |.shr=>if decide ((0:Int)<=y) then some (true,.d (.int k) (Int.fdiv x (2^min (Int.toNat y) k.bits))) else none
  |_=>none
 |.one (.d .bool x),.one (.d .bool y)=>if SQ ti then match op with
  |.eql=>some (true,.d .bool ((show Bool from x)==(show Bool from y)))
  |.neq=>some (true,.d .bool (!((show Bool from x)==(show Bool from y))))
  |_=>none
  else none
 |.one (.d .str x),.one (.d .str y)=>match op with
  |.eql=>some (true,.d .bool ((show ByteArray from x).toList==(show ByteArray from y).toList))
  |.neq=>some (true,.d .bool (!((show ByteArray from x).toList==(show ByteArray from y).toList)))
  |_=>none
 |.st l,.st l'=>if (vQ ti).isEmpty then none else match op with
  |.eql=>match eqL (vQ ti) l l' with
   |some b=>some (true,.d .bool b)
   |none=>none
  |.neq=>match eqL (vQ ti) l l' with
   |some b=>some (true,.d .bool (!b))
   |none=>none
  |_=>none
 |_,_=>none
def unC(op:UnOp):Cel->Option Leaf
 |.one (.d .bool x)=>match op with
  |.not=>some (.d .bool (!(show Bool from x)))
  |_=>none
 |.one (.d (.int k) x)=>match op with
  |.neg=>some (.d (.int k) (k.wrap (0-(show Int from x))))
  |_=>none
 |_=>none
def tO(ti:TyI)(ls:List Leaf):Option Cel:=
 if ti.agg then (if ls.length=ti.size then some (.st ls) else none)
 else match ls with
  |[l]=>some (.one l)
  |_=>none
def ru(rd:Nat->BS)(ti:TyI):Leaf->Option Cel
 |.bp k c=>match rd k with
  |.live (.cell ls _)=>tO ti ((ls.drop c).take ti.size)
  |.live (.arr n a xs)=>if c=0/\ti.ty=some (.arr n a) then some (.av n a xs) else none
  |_=>none
 |.ep k i c=>match rd k with
  |.live (.lst e a xs _)=>tO ti ((((scat a (List.getD xs i a.dflt)).map TV.leaf).drop c).take ti.size)
  |.live (.arr _ a xs)=>tO ti ((((scat a (List.getD xs i a.dflt)).map TV.leaf).drop c).take ti.size)
  |_=>none
 |.ip ls=>tO ti ((ls.map TV.leaf).take ti.size)
 |_=>none
def rv(ls:List Leaf)(c:Nat)(new:List Leaf):List Leaf:=ls.take c++new++ls.drop (c+new.length)
def vR(rd rdf:Nat->BS)(sz:Nat)(val:Cel):Leaf->Option Ups
 |.bp k c=>match rd k with
  |.live (.cell ls false)=>match val.leaves with
   |some new=>if new.length=sz/\c+new.length<=ls.length then some [(k,.live (.cell (rv ls c new) false))] else none
   |none=>none
  |.live (.arr n a _)=>if c=0 then match val with
    |.av n' a' ys=>match (TV.mk (.arr n' a') ys).to (.arr n a) with
     |some Kh=>if sz=n*a.size then some [(k,.live (.arr n a Kh))] else none
     |none=>none
    |_=>none
   else none
  |_=>none
 |.ep k i c=>match rd k with
  |.live (.lst el a xs false)=>match val.leaves with
   |some new=>if new.length=sz/\c+new.length<=a.size then match gath rdf a (rv ((scat a (List.getD xs i a.dflt)).map TV.leaf) c new) with
    |some (e,[],u)=>if u.any (λy=>y.1==k) then none else some (u++[(k,.live (.lst el a (List.set xs i e) false))])
    |_=>none
    else none
   |none=>none
  |.live (.arr n a xs)=>match val.leaves with
   |some new=>if new.length=sz/\c+new.length<=a.size then match gath rdf a (rv ((scat a (List.getD xs i a.dflt)).map TV.leaf) c new) with
    |some (e,[],u)=>if u.any (λy=>y.1==k) then none else some (u++[(k,.live (.arr n a (List.set xs i e)))])
    |_=>none
    else none
   |none=>none
  |_=>none
 |_=>none
def isLive:BS->Bool
 |.live _=>true
 |_=>false
def qD(rd:Nat->BS)(ti:TyI)(i:Nat):Leaf->Option Leaf
 |.bp k c=>match ti.flds[i]? with
  |some f=>if isLive (rd k) then some (.bp k (c+f.1)) else none
  |none=>none
 |.ep k j c=>match ti.flds[i]? with
  |some f=>if isLive (rd k) then some (.ep k j (c+f.1)) else none
  |none=>none
 |.ip ls=>match ti.flds[i]? with
  |some f=>some (.ip (ls.drop f.1))
  |none=>none
 |_=>none
def tP(t:Option Ty):Bool:=match t with
 |some (.list _)=>true
 |_=>false
def inR(i:Int)(n:Nat):Bool:=decide (0<=i)&&decide (i<(n:Int))
def tQ(rd:Nat->BS)(ti:TyI):Leaf->Leaf->Option (Bool×Leaf)
 |.ol k,.d (.int _) i=>match rd k with
  |.live (.lst e a xs _)=>if ti.ty=some (.list a) then some (inR i xs.length,.ep k (Int.toNat i) 0) else none
  |_=>none
 |.d (.list a) xs,.d (.int _) i=>if ti.ty=some (.list a) then some (inR i (List.length xs),.ip (scat a (List.getD xs (Int.toNat i) a.dflt))) else none
 |.bp k 0,.d (.int _) i=>match rd k with
  |.live (.arr n a _)=>if ti.ty=some (.arr n a) then some (inR i n,.ep k (Int.toNat i) 0) else none
  |_=>none
 |.tl k j,.d (.int _) i=>match rd k with
  |.live (.lst e a xs _)=>if ti.ty=some (.list a) then some (inR i (xs.length-j),.ep k (j+Int.toNat i) 0) else none
  |_=>none
 |_,_=>none
def idxV(ti:TyI):Cel->Leaf->Option (Bool×Cel)
 |.av n a xs,.d (.int _) i=>if ti.ty=some (.arr n a) then some (inR i n,oH a (List.getD xs (Int.toNat i) a.dflt)) else none
 |.one (.d .str s),.d (.int _) i=>if ti.ty=some .str then some (inR i s.size,.one (.d (.int .u8) (dn s i))) else none
 |_,_=>none
def AB(ti:TyI)(sz:Nat->Option Nat):List Leaf->List (Nat×Cel)->Option (List Leaf)
 |ls,[]=>some ls
 |ls,(i,c)::r=>match ti.flds[i]? with
  |some f=>match c.leaves with
   |some new=>if sz f.2=some new.length/\f.1+new.length<=ls.length then AB ti sz (rv ls f.1 new) r else none
   |none=>none
  |none=>none
def kF(rd:Nat->BS)(a:Ty):List a.den->Ups->List (Nat×Cel)->Option (List a.den×Ups)
 |xs,u,[]=>some (xs,u)
 |xs,u,(i,c)::r=>match qC rd a c with
  |some (x,u')=>if i<xs.length then kF rd a (xs.set i x) (u++u') r else none
  |none=>none
def lenC(rd:Nat->BS)(t:Option Ty):Leaf->Option Leaf
 |.nil=>if tP t then some (.d (.int .i64) (0:Int)) else none
 |.ol k=>match rd k with
  |.live (.lst _ _ xs _)=>if tP t then some (.d (.int .i64) (xs.length:Int)) else none
  |_=>none
 |.d (.list _) xs=>if tP t then some (.d (.int .i64) ((List.length xs:Nat):Int)) else none
 |.d .str s=>if t=some .str then some (.d (.int .i64) ((ByteArray.size s:Nat):Int)) else none
 |.tl k j=>match rd k with
  |.live (.lst _ _ xs _)=>if tP t then some (.d (.int .i64) ((xs.length-j:Nat):Int)) else none
  |_=>none
 |.hd k i=>match rd k with
  |.live (.lst _ _ _ _)=>if tP t then some (.d (.int .i64) (i:Int)) else none
  |_=>none
 |_=>none
def minC:List Cel->Option Leaf
 |[.one (.d (.int k) x),.one (.d (.int k') y)]=>if k=k' then some (.d (.int k) (if (show Int from y)<x then y else x:Int)) else none
 |_=>none
def maxC:List Cel->Option Leaf
 |[.one (.d (.int k) x),.one (.d (.int k') y)]=>if k=k' then some (.d (.int k) (if (show Int from y)>x then y else x:Int)) else none
 |_=>none
def iO:BS->Bool
 |.free=>true
 |_=>false
def aN:Nat:=4294967296
def appS(rd:Nat->BS)(e:Nat)(a:Ty):Leaf->Option (List a.den×Bool×Ups)
 |.ol k=>match rd k with
  |.live (.lst e' a' xs frz)=>match (TV.mk (.list a') xs).to (.list a) with
   |some dg=>if e'=e then some (dg,frz,[(k,.gone)]) else none
   |none=>none
  |_=>none
 |.nil=>some ([],false,[])
 |_=>none
def appX(rd:Nat->BS)(a:Ty):Leaf->Option (List a.den)
 |.ol k=>match rd k with
  |.live (.lst _ a' xs _)=>(TV.mk (.list a') xs).to (.list a)
  |_=>none
 |.d t xs=>(TV.mk t xs).to (.list a)
 |.nil=>some []
 |.tl k j=>match rd k with
  |.live (.lst _ a' xs _)=>match (TV.mk (.list a') xs).to (.list a) with
   |some dg=>some (List.drop j dg)
   |none=>none
  |_=>none
 |_=>none
def bnd(d:Nat):Option Leaf->Option Int
 |none=>some d
 |some (.d (.int _) i)=>some i
 |some _=>none
def AD(par:Nat->Bool)(rd:Nat->BS)(ti:TyI)(n:Nat)(x:Leaf)(lo hi:Option Leaf):Option (Bool×Leaf×Ups):=
 match x with
 |.d (.list a) xs=>if ti.ty=some (.list a) then match bnd 0 lo,bnd (List.length xs) hi with
  |some i,some j=>some (decide (0<=i)&&(decide (i<=j)&&decide (j<=(List.length xs:Int))),.d (.list a) (List.drop (Int.toNat i) (List.take (Int.toNat j) xs)),[])
  |_,_=>none
  else none
 |.ol k=>match hi with
  |none=>match rd k with
   |.live (.lst _ a xs _)=>if ti.ty=some (.list a) then match bnd 0 lo with
    |some i=>some (decide (0<=i)&&decide (i<=(xs.length:Int)),.tl k (Int.toNat i),[])
    |none=>none
    else none
   |_=>none
  |some _=>match rd k with
   |.live (.lst e a xs f)=>if ti.ty=some (.list a) then match bnd 0 lo,bnd xs.length hi with
    |some i,some j=>if par k then
      (if lo.isNone then some (decide (0<=j)&&decide (j<=(xs.length:Int)),.hd k (Int.toNat j),[]) else none)
     else if lo.isNone && !f then
      (if iO (rd n) then some (decide (0<=j)&&decide (j<=(xs.length:Int)),.ol n,[(k,.gone),(n,.live (.lst e a (List.take (Int.toNat j) xs) false))]) else none)
     else some (decide (0<=i)&&(decide (i<=j)&&decide (j<=(xs.length:Int))),.d (.list a) (List.drop (Int.toNat i) (List.take (Int.toNat j) xs)),[(k,.live (.lst e a xs true))])
    |_,_=>none
    else none
   |_=>none
 |.hd k _=>match rd k with
  |.live (.lst _ a xs _)=>if ti.ty=some (.list a)/\hi.isSome=true then match bnd 0 lo,bnd 0 hi with
   |some i,some j=>some (decide (0<=i)&&(decide (i<=j)&&decide (j=(xs.length:Int))),.tl k (Int.toNat i),[])
   |_,_=>none
   else none
  |_=>none
 |_=>none
def AE(rd:Nat->BS)(ti:TyI)(x:Leaf)(lo hi:Option Leaf)(mx:Leaf):Option Bool:=
 match x,lo,hi,mx with
 |.ol k,some (.d (.int _) i),some (.d (.int _) j),.d (.int _) m=>match rd k with
  |.live (.lst _ a xs _)=>if ti.ty=some (.list a) then some (decide ((0:Int)<=i)&&(decide ((show Int from i)<=j)&&(decide ((show Int from j)<=m)&&decide (m<=(xs.length:Int))))) else none
  |_=>none
 |_,_,_,_=>none
def appH(rd:Nat->BS)(el:Nat)(a:Ty)(s x:Leaf):Option (Bool×Leaf×Ups):=
 match s,x with
 |.hd k i,.tl k' j=>if k=k' then match rd k with
  |.live (.lst e b xs false)=>if b=a/\e=el then some (decide (i<=j),.hd k (i+(xs.length-j)),[(k,.live (.lst e b (List.take i xs++(List.drop j xs++List.drop (i+(xs.length-j)) xs)) false))]) else none
  |_=>none
  else none
 |_,_=>none
def GO:Leaf->Option (Nat×Nat)
 |.ol k=>some (k,0)
 |.tl k i=>some (k,i)
 |_=>none
def over{α:Type}(xs:List α)(i:Nat)(ys:List α):List α:=List.take i xs++(List.take (xs.length-i) ys++List.drop (i+ys.length) xs)
def AF(rd:Nat->BS)(t:Option Ty)(x y:Leaf):Option (Leaf×Ups):=
 match GO x with
 |some (k,i)=>match rd k with
  |.live (.lst e a xs false)=>if t=some (.list a) then match appX rd a y with
   |some ys=>some (.d (.int .i64) ((min ys.length (xs.length-i):Nat):Int),[(k,.live (.lst e a (over xs i ys) false))])
   |none=>none
   else none
  |_=>none
 |none=>none
def AG(rd:Nat->BS)(t:Option Ty)(x:Leaf):Option Ups:=
 match GO x with
 |some (k,i)=>match rd k with
  |.live (.lst e a xs false)=>if t=some (.list a) then some [(k,.live (.lst e a (List.take i xs++List.replicate (xs.length-i) a.dflt) false))] else none
  |_=>none
 |none=>none
inductive Act where
 |val (kG:Bool) (s:Slot) (ups:Ups)
 |call (f:Nat) (args:List Arg) (mk:Ret->Option (Slot×Ups))
def Act.leaf(x:Leaf):Act:= .val true (.one (.one x)) []
def Act.cel(x:Cel):Act:= .val true (.one x) []
def nI(x:Option Leaf):Option Act:=match x with
 |some c=>some (.leaf c)
 |none=>none
def oCel(x:Option Cel):Option Act:=match x with
 |some c=>some (.cel c)
 |none=>none
def oChk(x:Option (Bool×Leaf)):Option Act:=match x with
 |some (b,c)=>some (.val b (.one (.one c)) [])
 |none=>none
def tvs(rd:Nat->BS):List Leaf->Option (List TV×Ups)
 |[]=>some ([],[])
 |l::ls=>match tvs rd ls with
  |some (xs,u)=>match l with
   |.d t v=>some (⟨t,v⟩::xs,u)
   |.ol k=>match rd k with
    |.live (.lst e a es _)=>some (⟨.list a,es⟩::xs,(k,.live (.lst e a es true))::u)
    |_=>none
   |_=>none
  |none=>none
def vS(rd:Nat->BS):List Cel->Option (List Cap×Ups)
 |[]=>some ([],[])
 |c::r=>match vS rd r with
  |some (l,u)=>match c with
   |.one (.d t v)=>if t.leafy then some (.v ⟨t,v⟩::l,u) else none
   |.one (.bp k 0)=>match rd k with
    |.live (.cell ls _)=>match tvs rd ls with
     |some (xs,u')=>if (u++u').any (λy=>y.1==k) then none else some (.p xs::l,(u++u')++[(k,.live (.cell (xs.map TV.leaf) true))])
     |none=>none
    |_=>none
   |_=>none
  |none=>none
inductive Bk where
 |ref (k:Nat)
 |rl (k e:Nat) (a:Ty)
 |mv (k e:Nat) (a:Ty)
def Bk.name:Bk->Nat
 |.ref k=>k
 |.rl k _ _=>k
 |.mv k _ _=>k
def Bk.isMv:Bk->Bool
 |.mv _ _ _=>true
 |_=>false
def vT(rd rdf:Nat->BS)(t:Option TyI)(mv rl:Bool)(c:Cel):Option (Arg×Ups×Option Bk):=
 match c with
 |.one (.bp k 0)=>match rd k with
  |.live (.cell ls true)=>match tvs rdf ls with
   |some (xs,u)=>some (.ip xs,u,none)
   |none=>none
  |.live (.cell ls false)=>match tvs rdf ls with
   |some (xs,u)=>some (.ref xs,u,some (.ref k))
   |none=>none
  |_=>none
 |.one (.ip ls)=>some (.ip ls,[],none)
 |.one (.clo f bF)=>some (.clo f bF,[],none)
 |.one (.ol k)=>match rl with
  |true=>cond mv (match rdf k with
   |.live (.lst e a xs false)=>some (.mv e ⟨.list a,xs⟩,[],some (.mv k e a))
   |_=>none) (match rd k with
   |.live (.lst e a xs false)=>some (.rl e ⟨.list a,xs⟩,[],some (.rl k e a))
   |_=>none)
  |false=>match rdf k with
   |.live (.lst e a xs _)=>some (.v ⟨.list a,xs⟩,[(k,.live (.lst e a xs true))],none)
   |_=>none
 |c=>match t with
  |some ti=>match ti.ty with
   |some ty=>match qC rdf ty c with
    |some (x,u)=>some (.v ⟨ty,x⟩,u,none)
    |none=>none
   |none=>none
  |none=>none
def qE(rd rdf:Nat->BS)(T:Nat->Option TyI)(mv:Bool):List Nat->List Bool->List Cel->Option (List Arg×Ups×List Bk)
 |_,_,[]=>some ([],[],[])
 |ts,ms,c::r=>match vT rd rdf (ts.head?.bind T) mv (ms.headD false) c with
  |some (a,u,f)=>match qE rd rdf T mv ts.tail ms.tail r with
   |some (as,us,fs)=>some (a::as,u++us,f.toList++fs)
   |none=>none
  |none=>none
def pr:Cap->Arg
 |.v x=> .v x
 |.p ls=> .ip ls
def GP:Bk->Out->Option (Nat×BS)
 |.ref k,.ref ys=>some (k,.live (.cell (ys.map TV.leaf) false))
 |.rl k e a,.rl y=>match y.to (.list a) with
  |some ys=>some (k,.live (.lst e a ys false))
  |none=>none
 |_,_=>none
def mq:List Bk->List Out->Option Ups
 |[],[]=>some []
 |.mv k _ _::fs,xs=>match mq fs xs with
  |some u=>some ((k,.gone)::u)
  |none=>none
 |f::fs,x::xs=>match GP f x with
  |some y=>match mq fs xs with
   |some u=>some (y::u)
   |none=>none
  |none=>none
 |_,_=>none
def qF:List Nat->Bool
 |[]=>true
 |x::xs=> !xs.contains x&&qF xs
def bkOk(us:Ups)(fs:List Bk):Bool:=qF (fs.map Bk.name)&&us.all λx=> !(fs.map Bk.name).contains x.1
def GQ(n:Nat):RV->Option (Cel×Ups)
 |.v x=>some (oH x.t x.v,[])
 |.own e ⟨.list a,xs⟩=>some (.one (.ol n),[(n,.live (.lst e a xs false))])
 |.own _ _=>none
 |.box ls=>some (.one (.bp n 0),[(n,.live (.cell (ls.map TV.leaf) false))])
 |.hd _=>none
 |.vn x ns=>match oH x.t x.v with
  |.st ls=>some (.st (ls.zipIdx.map λy=>if ns.contains y.2 then .nil else y.1),[])
  |c=>some (c,[])
 |.clo f bF=>some (.one (.clo f bF),[])
def vU:Nat->List RV->Option (List Cel×Ups)
 |_,[]=>some ([],[])
 |n,r::rs=>match GQ n r with
  |some (c,u)=>match vU (n+1) rs with
   |some (cs,us)=>some (c::cs,u++us)
   |none=>none
  |none=>none
def RV.flat:RV->Bool
 |.v x=>x.t.flat
 |.own _ x=>match x.t with
  |.list a=>a.flat
  |_=>false
 |.box _=>false
 |.hd _=>false
 |.vn _ _=>false
 |.clo _ _=>false
def Out.flat:Out->Bool
 |.ref ls=>ls.all λx=>x.t.flat
 |.rl x=>x.t.flat
def mkHd(rd rdf:Nat->BS)(n:Nat)(us:Ups)(fs:List Bk)(m:Nat)(os:List Out):Option (Slot×Ups):=
 match fs,os with
 |.rl k e a::_,.rl y::_=>match mq fs os,y.to (.list a) with
  |some uo,some ys=>if iO (rd n)&&isLive (rdf k) then some (.one (.one (.ol n)),us++uo++[(k,.gone),(n,.live (.lst e a (List.take m ys) false))]) else none
  |_,_=>none
 |_,_=>none
def SR:List Cel->Slot
 |[c]=> .one c
 |cs=> .tup cs
def xw(rd rdf:Nat->BS)(n:Nat)(us:Ups)(fs:List Bk)(r:Ret):Option (Slot×Ups):=
 match r.vals with
 |[.hd m]=>mkHd rd rdf n us fs m r.outs
 |_=>match mq fs r.outs with
 |some uo=>match vU n r.vals with
  |some (cs,un)=>
   if un.all (λe=>iO (rd e.1)) then
    let u:=(if r.vals.all RV.flat&&r.outs.all Out.flat then [] else us)++uo++un
    match cs with
    |[c]=>some (.one c,u)
    |cs=>some (.tup cs,u)
   else none
  |none=>none
 |none=>none
def lf(c:Cel):Leaf:=match c with|.one y=>y|_=> .dead
def GR(x:Operand)(b:Bool)(act:List (Nat×Bool)):List (Nat×Bool):=match x with
 |.tmp s=>(s,b)::act
 |_=>act
def ry(T:Nat->Option TyI)(t:Nat):Option (Ty×Ty):=match T t with
 |some ti=>match ti.mp with
  |some (k,v)=>match T k,T v with
   |some tk,some tv=>match tk.ty,tv.ty with
    |some k,some v=>if k.isKey then some (k,v) else none
    |_,_=>none
   |_,_=>none
  |none=>none
 |none=>none
def mapC(rw:Nat->BS)(t:Nat)(k v:Ty)(x y:Leaf):Option (Nat×List (k.den×v.den)×k.den):=match x,y with
 |.ol b,.d tk key=>match rw b with
  |.live (.lst e a xs false)=>if e=4294967296+t then match (TV.mk (.list a) xs).to (.list (.pair k v)),(TV.mk tk key).to k with
    |some ys,some q=>some (b,ys,q)
    |_,_=>none
   else none
  |_=>none
 |_,_=>none
def dX(E:Env)(ev:Operand->Slot)(rw:Nat->BS)(act:List (Nat×Bool))(o:Oper):Option Act:=
 let rd:=mskM rw
 let c (x:Operand):Cel:=(ev x).cel act
 let l (x:Operand):Leaf:=lf (c x)
 let n:=(o.dst.getD 0)*64
 let rdf (k:Nat):BS:=if parK E.np k then .gone else rd k
 match o.op with
 |.move x|.assign x=>match ev x with
  |.tup l=>some (.val true (.tup l) [])
  |s=>some (.cel (s.cel act))
 |.pick x a b=>match l x with
  |.d .bool v=>
   match (ev a).cel (GR x true act),(ev b).cel (GR x false act) with
   |.one (.d t p),.one (.d t' q)=>match (TV.mk t' q).to t with
    |some q'=>some (.leaf (.d t (cond v p q')))
    |none=>none
   |.one (.d t p),.one .dead=>some (.val v (.one (.one (.d t p))) [])
   |.one .dead,.one (.d t q)=>some (.val (!(show Bool from v)) (.one (.one (.d t q))) [])
   |_,_=>none
  |_=>none
 |.alloc t=>match E.T t with
  |some ti=>if iO (rd n) then match ti.ty with
    |some (.arr k a)=>some (.val true (.one (.one (.bp n 0))) [(n,.live (.arr k a (List.replicate k a.dflt)))])
    |some ty=>some (.val true (.one (.one (.bp n 0))) [(n,.live (.cell (s5 ty) false))])
    |none=>none
   else none
  |none=>none
 |.box _ x=>if iO (rd n) then match c x with
   |.av k a xs=>some (.val true (.one (.one (.bp n 0))) [(n,.live (.arr k a xs))])
   |v=>match v.leaves with
    |some ls=>some (.val true (.one (.one (.bp n 0))) [(n,.live (.cell ls false))])
    |none=>none
  else none
 |.build t ps=>match E.T t with
  |some ti=>match ti.ty with
   |some (.arr k a)=>match kF rdf a (List.replicate k a.dflt) [] (ps.toList.map λp=>(p.1,c p.2)) with
    |some (xs,u)=>some (.val true (.one (.av k a xs)) u)
    |none=>none
   |some ty=>if ty.agg then match AB ti (λt=>(E.T t).map (·.size)) (s5 ty) (ps.toList.map λp=>(p.1,c p.2)) with
    |some ls=>some (.cel (.st ls))
    |none=>none
    else none
   |none=>none
  |none=>none
 |.buildSlice t len ps=>match E.T t with
  |some ti=>match ti.ty with
   |some (.list a)=>if 16777216<len*a.size then none else match kF rdf a (List.replicate len a.dflt) [] (ps.toList.map λp=>(p.1,c p.2)) with
    |some (xs,u)=>if iO (rd n) then some (.val true (.one (.one (.ol n))) (u++[(n,.live (.lst ti.elem a xs false))])) else none
    |none=>none
   |_=>none
  |none=>none
 |.load t x=>match E.T t with
  |some ti=>oCel (ru rd ti (l x))
  |none=>none
 |.store t x y=>match E.T t with
  |some ti=>match vR rd rdf ti.size (c y) (l x) with
   |some u=>some (.val true (.one (.one .dead)) u)
   |none=>none
  |none=>none
 |.nilCheck x=>match l x with
  |.bp k p=>if isLive (rd k) then some (.leaf (.bp k p)) else none
  |.ep k i p=>if isLive (rd k) then some (.leaf (.ep k i p)) else none
  |.ip ls=>some (.leaf (.ip ls))
  |_=>none
 |.binOp op t x y _=>oChk (binC (E.T t) op (c x) (c y))
 |.unOp op _ x=>nI (unC op (c x))
 |.convert src dst x=>match E.T src,E.T dst with
  |some ts,some ti=>match l x,ts.ty,ti.ty with
   |.d (.int _) v,some (.int _),some (.int k)=>some (.leaf (.d (.int k) (k.wrap v)))
   |_,_,_=>none
  |_,_=>none
 |.makeFunc (.func f) first bF=>if first.isEmpty then (match vS rdf (bF.toList.map c) with
   |some (l,u)=>some (.val true (.one (.one (.clo f l))) u)
   |none=>none)
  else none
 |.fieldAddr t x i=>match E.T t with
  |some ti=>nI (qD rd ti i (l x))
  |none=>none
 |.field t x i=>match E.T t with
  |some ti=>match c x,ti.flds[i]? with
   |.st ls,some f=>match E.T f.2 with
    |some tf=>oCel (tO tf ((ls.drop f.1).take tf.size))
    |none=>none
   |_,_=>none
  |none=>none
 |.indexAddr t x i=>match E.T t with
  |some ti=>oChk (tQ rd ti (l x) (l i))
  |none=>none
 |.index t x i=>match E.T t with
  |some ti=>match idxV ti (c x) (l i) with
   |some (b,v)=>some (.val b (.one v) [])
   |none=>none
  |none=>none
 |.makeMap t none=>match ry E.T t with
  |some (k,v)=>if iO (rd n) then some (.val true (.one (.one (.ol n))) [(n,.live (.lst (4294967296+t) (.pair k v) [] false))]) else none
  |none=>none
 |.lookup t x i ok=>match ry E.T t with
  |some (k,v)=>match mapC rw t k v (l x) (l i) with
   |some (_,ys,q)=>match ok with
    |true=>some (.val true (.tup [oH v (@dx _ _ k.keq v.dflt ys q),.one (.d .bool (@ej _ _ k.keq ys q))]) [])
    |false=>some (.cel (oH v (@dx _ _ k.keq v.dflt ys q)))
   |none=>none
  |none=>none
 |.mapUpdate t x i y=>match ry E.T t with
  |some (k,v)=>match mapC rw t k v (l x) (l i),qC rdf v (c y) with
   |some (b,ys,q),some (z,u)=>some (.val true (.one (.one .dead)) (u++[(b,.live (.lst (4294967296+t) (.pair k v) (@ea _ _ k.keq ys q z) false))]))
   |_,_=>none
  |none=>none
 |.extract x i=>match ev x with
  |.tup l=>match l[i]? with
   |some c=>some (.cel c)
   |none=>none
  |_=>none
 |.call cl=>match cl.callee with
  |.builtin .len=>match cl.args.toList,cl.argTypes.toList with
   |[x],[t]=>match E.T t with
    |some ti=>nI (lenC rd ti.ty (l x))
    |none=>none
   |_,_=>none
  |.builtin .min=>nI (minC (cl.args.toList.map c))
  |.builtin .max=>nI (maxC (cl.args.toList.map c))
  |.builtin .append=>match cl.argTypes.toList,cl.args.toList with
   |[t,t'],[s,x]=>if t=t' then match E.T t with
     |some ti=>match ti.ty with
      |some (.list a)=>match appH rd ti.elem a (l s) (l x) with
       |some (b,v,u)=>some (.val b (.one (.one v)) u)
       |none=>match appS rdf ti.elem a (l s),appX rd a (l x) with
        |some (xs,frz,u),some ys=>
         if iO (rd n) then some (.val (decide (xs.length+ys.length<=aN)) (.one (.one (.ol n))) (u++[(n,.live (.lst ti.elem a (xs++ys) frz))])) else none
        |_,_=>none
      |_=>none
     |none=>none
    else none
   |_,_=>none
  |.value f=>match l f with
   |.clo g bF=>match qE rw rdf E.T (E.mvf g) cl.argTypes.toList (E.modes g) (cl.args.toList.map c) with
    |some (as,us,fs)=>if bkOk us fs then some (.call g (as++bF.map pr) (xw rd rdf n us fs)) else none
    |none=>none
   |_=>none
  |.builtin .copy=>match cl.argTypes.toList,cl.args.toList with
   |[t,t'],[x,y]=>if t=t' then match E.T t with
     |some ti=>match AF rd ti.ty (l x) (l y) with
      |some (v,u)=>some (.val true (.one (.one v)) u)
      |none=>none
     |none=>none
    else none
   |_,_=>none
  |.builtin .clear=>match cl.argTypes.toList,cl.args.toList with
   |[t],[x]=>match E.T t with
    |some ti=>match AG rd ti.ty (l x) with
     |some u=>some (.val true (.one (.one .dead)) u)
     |none=>none
    |none=>none
   |_,_=>none
  |_=>none
 |.slice t x lo hi none=>match E.T t with
  |some ti=>match AD (parK E.np) rd ti n (l x) (lo.map l) (hi.map l) with
   |some (b,v,u)=>some (.val b (.one (.one v)) u)
   |none=>none
  |none=>none
 |.slice t x lo hi (some mx)=>match E.T t with
  |some ti=>match AE rd ti (l x) (lo.map l) (hi.map l) (l mx) with
   |some b=>some (.val b (.one (.one .dead)) [])
   |none=>none
  |none=>none
 |_=>none
def St.upd(σ:St):Ups->St
 |[]=>σ
 |e::u=>(σ.setB e.1 e.2).upd u
def kill(d:Nat):Slot->Slot
 |.cnd s w c=>if s=d then .one (.one .dead) else .cnd s w c
 |x=>x
def St.put(σ:St)(d:Option Nat)(s:Slot):St:=
 match d with
 |none=>σ
 |some d=>{ σ with sl:=λj=>kill d (if j=d then s else σ.sl j) }
def St.setD(σ:St)(d:Option Nat)(s:Slot):St:=
 match d with
 |none=>σ
 |some d=>σ.setS d s
def jFu:Slot->Slot
 |.cnd _ _ _=> .one (.one .dead)
 |x=>x
def St.clear(σ:St):St:={ σ with sl:=λj=>jFu (σ.sl j) }
def mu(N:NT)(o:Oper):Bool:=
 match o.dst with
 |none=>true
 |some d=>decide (d<N.n) && !N.pin d
noncomputable def xx{R:Type}(e:Bool)(t f:Option R):Option R:=open Classical in cond e (if t=f then f else none) f
theorem jsO{R:Type}(e:Bool)(t:Option R):xx e t t=t:=by cases e<;>simp[xx]
theorem jsP{R:Type}{e:Bool}{t f:Option R}{r:R}(h:xx e t f=some r):f=some r/\(e=true->t=some r):=by
 cases e with
 |false=>exact⟨h,λh'=>by simp at h'⟩
 |true=>
  simp only[xx,j6]at h;split at h
  .rename_i he;exact⟨h,λ_=>he.trans h⟩
  .simp at h
def nilT(E:Env)(σ:St)(o:Oper):Option Bool:=
 match o.op with
 |.binOp .eql t x y _=>match σ.ev x,σ.ev y,E.T t with
  |.one (.one (.d (.list _) xs)),.one (.one .nil),some ti=>if tP ti.ty then some (List.isEmpty xs) else none
  |_,_,_=>none
 |_=>none
noncomputable section
variable(E:Env){R:Type}
def run1(p:Bool)(σ:St)(act:List (Nat×Bool))(o:Oper)(k:St->Option R):Option R:=
 match cond E.nz (nilT E σ o) none with
 |some e=>xx e (k (cond p (σ.put o.dst (.one (.one (.d .bool true)))) (σ.setD o.dst (.one (.one (.d .bool true)))))) (k (cond p (σ.put o.dst (.one (.one (.d .bool false)))) (σ.setD o.dst (.one (.one (.d .bool false))))))
 |none=>
 match dX E σ.ev σ.bx act o with
 |none=>none
 |some (.val kG s u)=>cond kG (k (cond p ((σ.upd u).put o.dst s) ((σ.upd u).setD o.dst s))) none
 |some (.call f args mk)=>E.C f args R λret=>match mk ret with
  |some (s,u)=>k (cond p ((σ.upd u).put o.dst s) ((σ.upd u).setD o.dst s))
  |none=>none
def gval(σ:St)(s:Nat):Option Bool:=
 match σ.sl s with
 |.one (.one (.d .bool v))=>some v
 |.cnd _ _ (.one (.d .bool v))=>some v
 |_=>none
def Ki(r:List (Nat×Bool))(σ:St)(s:Nat):Option Bool:=
 match σ.sl s with
 |.one (.one (.d .bool v))=>some v
 |.cnd s' w' (.one (.d .bool v))=>if r.contains (s',w') then some v else none
 |_=>none
def actB(σ:St):List (Nat×Bool)->Option Bool
 |[]=>some true
 |(s,w)::r=>match gval σ s with
  |some v=>match r with
   |[]=>some (cond w v (!v))
   |r=>match actB σ r with
    |some b=>some (b&&cond w v (!v))
    |none=>none
  |none=>none
def vV:List (Nat×Bool)->St->(St->Bool->Option R)->Option R
 |[],σ,k=>k σ true
 |(s,w)::r,σ,k=>vV r σ λσ1 a=>match a with
  |true=>match Ki r σ1 s with
   |some v=>cond v (k (σ1.setS s (.one (.one (.d .bool true)))) w) (k (σ1.setS s (.one (.one (.d .bool false)))) (!w))
   |none=>none
  |false=>k σ1 false
def Cq(ops:Array Oper)(σ:St)(o:Oper)(k:St->Option R):Option R:=
 match pq ops o with
 |none=>match o.guard with
  |none=>run1 E true σ [] o k
  |some _=>none
 |some g=>
  let ch:=σ.chain 40 g
  let rz:=vV ch σ λσ' a=>match a with
   |true=>run1 E true σ' ch o k
   |false=>k (σ'.put o.dst (.one (.one .dead)))
  match dX E σ.ev σ.bx ch o with
  |some (.val kG (.one c) [])=>match actB σ ch with
   |some ab=>cond (kG || !ab) (k (σ.put o.dst (.cnd g.1 g.2 c))) none
   |none=>rz
  |_=>rz
def mZ:List Oper->St->(St->Option R)->Option R
 |[],σ,k=>k σ
 |o::os,σ,k=>if mu E.N o then run1 E false σ [] o λσ'=>mZ os σ' k else none
def AH(ops:Array Oper):List Oper->St->(St->Option R)->Option R
 |[],σ,k=>k σ.clear
 |o::os,σ,k=>if mu E.N o then Cq E ops σ o λσ'=>AH ops os σ' k else none
def bare(ops:Array Oper):Bool:=ops.toList.all λo=>o.guard.isNone
def qG(ops:Array Oper)(σ:St)(k:St->Option R):Option R:=
 if bare ops then mZ E ops.toList σ k else AH E ops ops.toList σ k
end
noncomputable section
variable(E:Env){R:Type}
def Kj(σ:St)(o o2:Oper):Option (Bool×St):=
 match o.op,o2.op with
 |.call c1,.call c2=>match c1.callee,c1.args.toList,c2.callee,c2.args.toList with
  |.value f1,[x],.value f2,[.tmp d]=>match σ.ev f1,σ.ev x,(σ.setD o.dst (.one (.one .dead))).ev f2 with
   |.one (.one (.clo fK [])),.one (.one (.ol b)),.one (.one (.clo fS []))=>match E.bw fS,σ.bx b with
    |some (true,.arr Kk (.arr e .bool)),.live (.lst em a xs _)=>match SP a xs with
     |some (c,ys)=>if Kk=fK/\o.dst=some d/\isM em=true/\isM e=false/\iO (σ.bx ((o2.dst.getD 0)*64))=true then
      some (c,((σ.setD o.dst (.one (.one .dead))).setB ((o2.dst.getD 0)*64) (.live (.lst e (.int .i64) ys false))).setD o2.dst (.one (.one (.ol ((o2.dst.getD 0)*64))))) else none
     |none=>none
    |_,_=>none
   |_,_,_=>none
  |_,_,_,_=>none
 |_,_=>none
def Kl(σ:St)(o:Oper):Option (Bool×St):=
 match o.op with
 |.call c1=>match c1.callee,c1.args.toList with
  |.value f1,[x,y]=>match σ.ev f1,σ.ev x,σ.ev y with
   |.one (.one (.clo fG [])),.one (.one .nil),.one (.one (.d (.int .i64) n))=>match E.bw fG,E.T o.type with
    |some (true,.arr e (.arr sz .unit)),some ti=>match ti.ty with
     |some (.list a)=>if a.size=sz/\isM e=false/\iO (σ.bx ((o.dst.getD 0)*64))=true then
      some (decide (0<=n)&&decide (n<=1000000),(σ.setB ((o.dst.getD 0)*64) (.live (.lst e a [] false))).setD o.dst (.one (.one (.ol ((o.dst.getD 0)*64))))) else none
     |_=>none
    |_,_=>none
   |_,_,_=>none
  |_,_=>none
 |_=>none
def runK(σ:St)(o:Oper)(k:St->Option R):Option R:=
 match Kl E σ o with
 |some (c,σ')=>cond c (k σ') none
 |none=>run1 E false σ [] o k
def tR:List Oper->St->(St->Option R)->Option R
 |[],σ,k=>k σ
 |[o],σ,k=>if mu E.N o then runK E σ o k else none
 |o::o2::os,σ,k=>if mu E.N o then match Kj E σ o o2 with
   |some (c,σ')=>if mu E.N o2 then cond c (tR os σ' k) none else none
   |none=>runK E σ o λσ'=>tR (o2::os) σ' k
  else none
def Cr(ops:Array Oper)(σ:St)(k:St->Option R):Option R:=if bare ops then tR E ops.toList σ k else none
end
def pt(o:Oper):List Nat:=o.after.toList.filterMap λe=>if Region.binds .any e then some e.on else none
def rA(o:Oper):Bool:=match o.op with
 |.nilCheck _|.fieldAddr _ _ _|.indexAddr _ _ _=>true
 |_=>false
def tT(o:Oper):Bool:=match o.op with
 |.store _ _ _=>true
 |_=>false
def jDX(cls:List Nat)(o:Oper):Nat:=(pt o).foldl (λm j=>m|||(2^j|||cls.getD j 0)) 0
def Cs:List Oper->List Nat->List Nat
 |[],cls=>cls
 |o::os,cls=>Cs os (cls++[jDX cls o])
def Ct(cl:List Nat)(i j:Nat):Bool:=i==j||(cl.getD i 0).testBit j||(cl.getD j 0).testBit i
def jFv(a b:List Nat):Bool:=a.all λk=> !b.contains k
def GS(ops:Array Oper)(cl:List Nat)(A:List (List Nat))(i:Nat)(oi:Oper)(j:Nat)(oj:Oper):Bool:=
 (match oj.dst with
 |some t=>i==j||(oi.dst != some t&&(!(oi.looksAt ops).contains t||Ct cl i j))
 |none=>true)&&(A.isEmpty||Ct cl i j||jFv (A.getD i []) (A.getD j []))
def SS(ops:Array Oper)(cl:List Nat)(A:List (List Nat)):Bool:=
 ops.toList.zipIdx.all λx=>(pt x.1).all (λj=>decide (j<x.2))&&(A.isEmpty || !rA x.1||(A.getD x.2 []).isEmpty)&&ops.toList.zipIdx.all λy=>GS ops cl A x.2 x.1 y.2 y.1
def tU(ops:Array Oper)(cl:List Nat)(A:List (List Nat))(i:Nat)(oi:Oper):List Nat:=
 if A.isEmpty then [] else ops.toList.zipIdx.flatMap λx=>if Ct cl i x.2||(rA oi&&tT x.1) then [] else A.getD x.2 []
def jF(M:List Nat)(rd:Nat->BS)(k:Nat):BS:=if M.contains k then .gone else rd k
noncomputable section
variable(E:Env){R:Type}
def runD(M Ai:List Nat)(σ:St)(o:Oper)(k:St->Option R):Option R:=
 match dX E σ.ev (jF M σ.bx) [] o with
 |none=>none
 |some (.val kG s u)=>if u.all (λe=>Ai.contains e.1) then cond kG (k ((σ.upd u).setD o.dst s)) none else none
 |some (.call f args mk)=>E.C f args R λret=>match mk ret with
  |some (s,u)=>if u.all (λe=>Ai.contains e.1) then k ((σ.upd u).setD o.dst s) else none
  |none=>none
def Km(σ:St)(o:Oper)(k:St->Option R):Option R:=k (σ.setD o.dst .und)
def Cu(ops:Array Oper)(M Ai:List Nat)(σ:St)(o:Oper)(k:St->Option R):Option R:=
 match o.guard with
 |none=>runD E M Ai σ o k
 |some _=>match pq ops o with
  |some (s,wn)=>match σ.sl s with
   |.one (.one (.d .bool v))=>
    cond v (cond wn (runD E M Ai (σ.setS s (.one (.one (.d .bool true)))) o k) (Km (σ.setS s (.one (.one (.d .bool true)))) o k))
     (cond wn (Km (σ.setS s (.one (.one (.d .bool false)))) o k) (runD E M Ai (σ.setS s (.one (.one (.d .bool false)))) o k))
   |.und=>Km σ o k
   |_=>none
  |none=>none
def AJ(ops:Array Oper)(cl:List Nat)(A:List (List Nat)):List Oper->Nat->St->(St->Option R)->Option R
 |[],_,σ,k=>k σ
 |o::os,i,σ,k=>if mu E.N o then Cu E ops (tU ops cl A i o) (A.getD i []) σ o λσ'=>AJ ops cl A os (i+1) σ' k else none
def Cv(ops:Array Oper)(A:List (List Nat))(σ:St)(k:St->Option R):Option R:=
 if SS ops (Cs ops.toList []) A then AJ E ops (Cs ops.toList []) A ops.toList 0 σ k else none
end
def jG(σ:St):Loc->Leaf
 |.slot i=>match σ.sl i with
  |.one (.one x)=>x
  |_=> .dead
 |.cell k c=>match σ.bx k with
  |.live (.cell ls false)=>ls.getD c .dead
  |_=> .dead
def Cw(K:Keep)(l:Loc):Option Nat:=(K.lists.find? λx=>x.locs.contains l).map (·.name)
def qH(K:Keep)(loc:Option Loc):Leaf->Leaf
 |.dead=> .dead
 |.nil=>match loc.bind (Cw K) with
  |some n=> .ol n
  |none=> .nil
 |.d t v=> .d t v
 |.ol k=>if K.boxes.contains k then .ol k else match loc.bind (Cw K) with
  |some n=> .ol n
  |none=> .dead
 |.bp k c=>if K.boxes.contains k then .bp k c else .dead
 |.ep _ _ _=> .dead
 |.tl k i=>if K.boxes.contains k then .tl k i else .dead
 |.hd k i=>if K.boxes.contains k then .hd k i else .dead
 |.ip ls=> .ip ls
 |.clo f bF=> .clo f bF
def GU(K:Keep)(i:Nat):Slot->Cel
 |.one (.one x)=> .one (qH K (some (.slot i)) x)
 |.one (.st ls)=> .st (ls.map (qH K none))
 |.one (.av n a xs)=> .av n a xs
 |_=> .one .dead
def vW(K:Keep)(k:Nat):BS->BS
 |.live (.cell ls frz)=> .live (.cell (ls.zipIdx.map λx=>qH K (if frz then none else some (.cell k x.2)) x.1) frz)
 |.live (.arr n a xs)=> .live (.arr n a xs)
 |.live (.lst e a xs frz)=> .live (.lst e a xs frz)
 |_=> .gone
def AK(σ:St)(e:Nat)(a:Ty)(l:Loc):Option (Option Nat×List a.den×Bool):=
 match jG σ l with
 |.nil=>if isM e then none else some (none,[],false)
 |.ol k=>match σ.bx k with
  |.live (.lst e' a' xs frz)=>match (TV.mk (.list a') xs).to (.list a) with
   |some dg=>if e'=e then some (some k,dg,frz) else none
   |none=>none
  |_=>none
 |_=>none
def xy(σ:St)(e:Nat)(a:Ty):List Loc->Option (Option Nat×List a.den×Bool)
 |[]=>none
 |[l]=>AK σ e a l
 |l::ls=>match AK σ e a l,xy σ e a ls with
  |some (k,xs,f),some (k',_,_)=>if k=k' then some (k,xs,f) else none
  |_,_=>none
def AL(np:Nat)(σ:St)(bs:List Nat):List po->Option (List Item×List Nat)
 |[]=>some ([],[])
 |x::r=>match xy σ x.e x.a x.locs,AL np σ bs r with
  |some (k,xs,f),some (is,ks)=>match k with
   |none=>some (.b (.live (.lst x.e x.a xs x.frz))::is,ks)
   |some k=>if ks.contains k||bs.contains k||parK np k then none else some (.b (.live (.lst x.e x.a xs f))::is,k::ks)
  |_,_=>none
def vX(np:Nat):List po->St->Option St
 |[],σ=>some σ
 |x::r,σ=>if x.frz then match x.locs with
   |l::_=>match jG σ l with
    |.ol k=>match σ.bx k with
     |.live (.lst e a xs _)=>if parK np k||isM e then none else vX np r (σ.setB k (.live (.lst e a xs true)))
     |_=>none
    |_=>vX np r σ
   |[]=>vX np r σ
  else vX np r σ
def Keep.ok(np:Nat)(K:Keep):Bool:=qF (K.lists.map (·.name))&&K.lists.all λx=> !K.boxes.contains x.name && !parK np x.name
def xz(σ:St)(l:Loc)(x:Leaf):St:=
 match l with
 |.slot i=>match σ.sl i with
  |.one (.one _)=>σ.setS i (.one (.one x))
  |_=>σ
 |.cell k c=>match σ.bx k with
  |.live (.cell ls false)=>σ.setB k (.live (.cell (ls.set c x) false))
  |_=>σ
def Cx(np:Nat):List (Loc×Ty)->St->Option St
 |[],σ=>some σ
 |(l,t)::r,σ=>match lj (λk=>if parK np k then .gone else mskM σ.bx k) t (jG σ l) with
  |some (v,u)=>Cx np r (xz (σ.upd u) l (.d t v))
  |none=>none
def Kn(np:Nat)(K:Keep)(σ:St):Option Snap:=
 match AL np σ K.boxes K.lists with
 |some (is,_)=>if K.ok np then some ((K.slots.map λi=> .s (GU K i (σ.sl i)))++((K.boxes.map λk=> .b (vW K k (σ.bx k)))++is)) else none
 |none=>none
def iP(np:Nat)(K:Keep)(σ:St):Option Snap:=
 match Cx np K.datas σ with
 |some σ1=>match vX np K.lists σ1 with
  |some σ2=>Kn np K σ2
  |none=>none
 |none=>none
def xA:Option Item->Slot
 |some (.s c)=> .one c
 |_=> .one (.one .dead)
def vY:Option Item->BS
 |some (.b b)=>b
 |_=> .gone
def cJ(np:Nat)(K:Keep)(s:Snap):St where
 sl:=λi=>match K.slots.idxOf? i with
  |some j=>xA s[j]?
  |none=> .one (.one .dead)
 bx:=λn=>match K.boxes.idxOf? n with
  |some j=>vY s[K.slots.length+j]?
  |none=>match (K.lists.map (·.name)).idxOf? n with
   |some j=>vY s[K.slots.length+K.boxes.length+j]?
   |none=>if parK np n then .gone else .free
def SU(o:Oper):Bool:=
 match o.op with
 |.defer _=>false
 |_=>true
def dM:Code->Bool
 |.skip=>true
 |.region _ ops _=>ops.toList.all SU
 |.seq x y=>dM x&&dM y
 |.cond _ x y=>dM x&&dM y
 |.block _ c=>dM c
 |.scope c=>dM c
 |.label _=>true
 |.exit _=>true
 |.ret=>true
 |_=>false
def vZ:Code->List Nat
 |.region _ ops _=>ops.toList.filterMap (·.dst)
 |.seq x y=>vZ x++vZ y
 |.cond _ x y=>vZ x++vZ y
 |.block _ c=>vZ c
 |.scope c=>vZ c
 |_=>[]
def AM(ps:Array Nat)(x y:Code)(i:Nat):Bool:= !(ps.toList.contains i) && !((vZ x++vZ y).contains i)
def pinK(ps:Array Nat)(x y:Code)(K:Keep):Bool:=K.slots.all (AM ps x y)
def Env.rnd(E:Env)(ps:Array Nat)(x y:Code):Env:={ E with N:=⟨E.N.n,AM ps x y⟩ }
def isRf:Code->Bool
 |.rangeFunc .. => true
 |_=>false
def Cy(kd:Bool)(n:Nat):Int:=cond kd 1 (Int.ofNat n)
def Ko(kd:Bool)(n:Nat)(c:Int):Bool:=cond kd (decide (Int.ofNat n<=c)) (decide (c<=0))
def itOk(kd:Bool)(n:Nat)(c:Int):Bool:=cond kd (decide (1<=c)) (decide (c<=Int.ofNat n))
def Cz(kd:Bool)(c:Int):Int:=cond kd (c+1) (c-1)
def chgV:(t:Ty)->List t.den->Int->List TV
 |.pair (.int .i64) (.pair (.int .i64) (.int .i64)),xs,c=>[⟨.pair (.int .i64) (.pair (.int .i64) (.int .i64)),
  ((List.getD xs c.toNat ((0:Int),((0:Int),(0:Int)))).1,((List.getD xs (c-1).toNat ((0:Int),((0:Int),(0:Int)))).2.2,(List.getD xs c.toNat ((0:Int),((0:Int),(0:Int)))).2.2))⟩]
 |_,_,_=>[]
def CA(kd:Bool)(t:Ty)(xs:List t.den)(c:Int):List TV:=cond kd (chgV t xs c) [⟨.int .i64,c-1⟩,⟨t,List.getD xs (c-1).toNat t.dflt⟩]
def setL(l:List (Nat×TV))(σ:St):St:=l.foldl (λσ q=>σ.setS q.1 (.one (oH q.2.t q.2.v))) σ
def qI:List Nat->Bool
 |[]=>true
 |x::r=> !(r.contains x)&&qI r
abbrev segT:Ty:= .pair (.int .i64) (.pair (.int .i64) (.int .i64))
def rfK(E:Env)(b f:Nat)(t:Ty)(ps:Array Nat)(x y:Code):Option Bool:=match E.bw f with
 |some q=>cond (decide (q.2=t)&&(cond q.1 (decide (t=segT)) true&&(decide (ps.toList.length=cond q.1 1 2)&&(qI ps.toList&&(ps.toList.all (λp=>decide (p<E.N.n))&&(dM x&&(dM y&&pinK ps x y (E.keep b)))))))) (some q.1) none
 |none=>none
def qJ{α β:Type}(G:α->β->Option β):List (α×β)->Option (List (α×β))
 |[]=>some []
 |x::r=>(G x.1 x.2).bind λz=>(qJ G r).bind λr'=>some ((x.1,z)::r')
def gF(s:Snap)(em:Nat)(v:Ty)(zs:List (Int×v.den)):Snap:=s.dropLast++[.b (.live (.lst em (.pair (.int .i64) v) zs false))]
def wa(em:Nat)(v:Ty)(s:Snap):Option (List (Int×v.den)):=match s.getLast? with
 |some (.b (.live (.lst e a xs false)))=>if e=em then (TV.mk (.list a) xs).to (.list (.pair (.int .i64) v)) else none
 |_=>none
structure MrP where
 it:Nat
 d1:Nat
 c2:Nat
 d3:Nat
 b6:Nat
 ops:Array Oper
 rest:Code
def SV(o:Oper):Option (Nat×Nat):=match o.op,o.dst,o.guard with
 |.next (.tmp it) false,some d,none=>some (it,d)
 |_,_,_=>none
def fstO(o:Oper):Option (Nat×Nat):=match o.op,o.dst,o.guard with
 |.extract (.tmp d) 0,some c,none=>some (d,c)
 |_,_,_=>none
def entO(o:Oper):Option (Nat×Nat):=match o.op,o.dst,o.guard with
 |.entry (.tmp it),some d,none=>some (it,d)
 |_,_,_=>none
def mrP(b:Nat):Code->Option MrP
 |.seq (.region _ ops false) (.seq (.cond (.tmp c) .skip (.exit b')) (.block b6 (.seq (.region _ tV false) rest)))=>match ops.toList,tV.toList with
  |[o1,o2],o3::_=>match SV o1,fstO o2,entO o3 with
   |some (it,d1),some (SX,c2),some (SY,d3)=>if SX=d1/\SY=it/\c=c2/\b'=b then some ⟨it,d1,c2,d3,b6,tV,rest⟩ else none
   |_,_,_=>none
  |_,_=>none
 |_=>none
def mrC(E:Env)(b:Nat)(p:MrP)(m:Nat):Bool:=
 bare p.ops&&(dM p.rest&&(!(Nat.beq p.it p.d1)&&(!(Nat.beq p.it p.c2)&&(!(Nat.beq p.it p.d3)&&(!(Nat.beq m p.it)&&(!(Nat.beq m p.d1)&&(!(Nat.beq m p.c2)&&(!(Nat.beq m p.d3) &&
  (Nat.blt p.it E.N.n&&(Nat.blt p.d1 E.N.n&&(Nat.blt p.c2 E.N.n&&(Nat.blt p.d3 E.N.n&&(!(E.keep b).slots.contains p.it&&(!(E.keep b).slots.contains p.d1 && !(E.keep b).slots.contains p.c2))))))))))))))
def AN(E:Env):Code->Code->Bool
 |.region _ _ false,.block b (.loop _)=>(E.mr b).isSome
 |_,_=>false
def Kp:BS->Bool
 |.live (.lst e _ _ _)=>isM e
 |_=>false
def Env.mrE(E:Env)(it m:Nat):Env:={ E with N:=⟨E.N.n,λi=>Nat.beq i it||Nat.beq i m⟩,mr:=λ_=>none }
noncomputable section
variable(E:Env){R:Type}
def mrGo(b m m1:Nat)(k:Ex->St->Option R)(σ:St):Option R:=match σ.sl m1,σ.sl m with
 |.one (.one (.ol n)),.one (.one (.ol n'))=>cond (Nat.beq n n'&&Kp (σ.bx n)) (match iP E.np (E.keep b) σ with
  |some s=>E.M b s R λs'=>k .normal (cJ E.np (E.keep b) s')
  |none=>none) none
 |_,_=>none
def CB(x y:Code)(σ:St)(k:Ex->St->Option R):Option R:=match x,y with
 |.region _ ops false,.block b (.loop c)=>match E.mr b,mrP b c,ops.toList.getLast? with
  |some (m,_),some p,some o=>match o.op,o.dst with
   |.range t (.tmp m1),some it=>cond (bare ops&&(Nat.beq it p.it&&(mrC E b p m&&(ry E.T t).isSome))) (mZ E ops.toList.dropLast σ (mrGo E b m m1 k)) none
   |_,_=>none
  |_,_,_=>none
 |_,_=>none
end
noncomputable section
variable(E:Env){R:Type}
def fV:Nat->Code->St->(Ex->St->Option R)->Option R
 |_,.skip,σ,k=>k .normal σ
 |_,.region id ops false,σ,k=>cond (E.ks id) (Cr E ops σ λσ'=>k .normal σ') (qG E ops σ λσ'=>k .normal σ')
 |_,.region id ops true,σ,k=>Cv E ops (E.dw id) σ λσ'=>k .normal σ'
 |b,.seq x y,σ,k=>cond (AN E x y) (CB E x y σ k) (fV b x σ λe σ'=>match e with
  |.normal=>fV b y σ' k
  |e=>k e σ')
 |b,.cond c x y,σ,k=>match σ.ev c with
  |.one (.one (.d .bool v))=>cond v (fV b x σ k) (fV b y σ k)
  |_=>none
 |_,.block id c,σ,k=>fV id c σ λe σ'=>match e with
  |.exit i=>if i=id then k .normal σ' else k (.exit i) σ'
  |e=>k e σ'
 |b,.loop c,σ,k=>cond (isRf c) none (match iP E.np (E.keep b) σ with
  |some s=>E.L b s R λe s'=>k e (cJ E.np (E.keepX b e) s')
  |none=>none)
 |b,.rangeFunc g ps x y,σ,k=>match σ.ev g with
  |.one (.one (.clo f [.p [⟨.list t,xs⟩]]))=>match rfK E b f t ps x y with
   |some kd=>match iP E.np (E.keep b) σ with
    |some s=>E.L b (.s (.one (.d (.int .i64) (Cy kd (List.length xs))))::s) R λe s'=>k e (cJ E.np (E.keepX b e) s')
    |none=>none
   |none=>none
  |_=>none
 |b,.scope c,σ,k=>fV b c σ k
 |_,.label _,σ,k=>k .normal σ
 |_,.exit i,σ,k=>k (.exit i) σ
 |_,.ret,σ,k=>k .ret σ
 |_,_,_,_=>none
def xB(b:Nat)(c:Code)(s:Snap):Option (Snap ⊕ Ex×Snap):=
 fV E b c (cJ E.np (E.keep b) s) λe σ=>match e with
  |.normal=>match iP E.np (E.keep b) σ with
   |some s'=>some (.inl s')
   |none=>none
  |e=>match iP E.np (E.keepX b e) σ with
   |some s'=>some (.inr (e,s'))
   |none=>none
def CC(b:Nat)(g:Operand)(ps:Array Nat)(x y:Code)(s:Snap)(K:Option (List Item)->Ex->St->Option R):Option R:=
 match s with
 |.s (.one (.d (.int .i64) n))::s0=>match (cJ E.np (E.keep b) s0).ev g with
  |.one (.one (.clo f [.p [⟨.list t,xs⟩]]))=>match rfK E b f t ps x y with
   |some kd=>cond (Ko kd (List.length xs) n) (K none .normal (cJ E.np (E.keep b) s0)) (cond (itOk kd (List.length xs) n)
    (fV (E.rnd ps x y) 0 x (setL (ps.toList.zip (CA kd t xs n)) (cJ E.np (E.keep b) s0)) λe σ=>match e with
     |.normal=>fV (E.rnd ps x y) 0 y σ (K (some [.s (.one (.d (.int .i64) (Cz kd n)))]))
     |_=>none) none)
   |none=>none
  |_=>none
 |_=>none
def AO(b:Nat)(g:Operand)(ps:Array Nat)(x y:Code)(s:Snap):Option (Snap ⊕ Ex×Snap):=
 CC E b g ps x y s λp e σ=>match p,e with
  |some q,.normal=>match iP E.np (E.keep b) σ with
   |some s'=>some (.inl (q++s'))
   |none=>none
  |_,e=>cond (pinK ps x y (E.keepX b e)) (match iP E.np (E.keepX b e) σ with
   |some s'=>some (.inr (e,s'))
   |none=>none) none
def mrNx(b6:Nat):Ex->Bool
 |.normal=>true
 |.exit i=>Nat.beq i b6
 |.ret=>false
def AP(b:Nat)(p:MrP)(m:Nat)(s:Snap)(v:Ty)(q:Int)(z:v.den)(k:Snap->Option R):Option R:=
 mZ (E.mrE p.it m) p.ops.toList.tail ((cJ E.np (E.keep b) s).setD (some p.d3) (.tup [.one (.d (.int .i64) q),oH v z])) λσ1=>
  fV (E.mrE p.it m) p.b6 p.rest σ1 λe σ2=>cond (mrNx p.b6 e) (match iP E.np (E.keep b) σ2 with
   |some s'=>k s'
   |none=>none) none
def Kq(b:Nat):Code->Snap->Option (Snap ⊕ Ex×Snap)
 |.rangeFunc g ps x y,s=>AO E b g ps x y s
 |c,s=>xB E b c s
end
def loopN{α β:Type}(f:α->Option (α ⊕ β)):Nat->α->Option β
 |0,_=>none
 |n+1,s=>match f s with
  |some (.inl s')=>loopN f n s'
  |some (.inr x)=>some x
  |none=>none
def GV(i:Nat):Arg->Cel
 |.v x=>oH x.t x.v
 |.ref _=> .one (.bp (i*64) 0)
 |.rl _ _=> .one (.ol (i*64))
 |.ip ls=> .one (.ip ls)
 |.clo f bF=> .one (.clo f bF)
 |.mv _ _=> .one (.ol (i*64+63))
def na:Option Arg->BS
 |some (.ref ls)=> .live (.cell (ls.map TV.leaf) false)
 |some (.rl e ⟨.list a,xs⟩)=> .live (.lst e a xs false)
 |_=> .free
def tW:Option Arg->BS
 |some (.mv e ⟨.list a,xs⟩)=> .live (.lst e a xs false)
 |_=> .free
def St.init(args:List Arg):St where
 sl:=λi=>match args[i]? with
  |some a=> .one (GV i a)
  |none=> .one (.one .dead)
 bx:=λn=>if n%64=0 then na args[n/64]? else if n%64=63 then tW args[n/64]? else .free
def rvOf(E:Env)(rd:Nat->BS)(own:Bool)(t:Nat)(c:Cel):Option (RV×List Nat×Ups):=
 match c with
 |.one (.bp k 0)=>match rd k with
  |.live (.cell ls false)=>match tvs rd ls with
   |some (xs,u)=>some (.box xs,[k],u)
   |none=>none
  |_=>none
 |.one (.clo f bF)=>some (.clo f bF,[],[])
 |c=>match E.T t with
  |some ti=>match ti.ty with
   |some ty=>match own with
    |true=>match c,ty with
     |.one .nil,.list a=>some (.own ti.elem ⟨.list a,[]⟩,[],[])
     |.one (.ol k),_=>match rd k with
      |.live (.lst e a xs false)=>some (.own e ⟨.list a,xs⟩,[k],[])
      |_=>none
     |_,_=>none
    |false=>match qC rd ty c with
     |some (x,u)=>some (.v ⟨ty,x⟩,[],u)
     |none=>none
   |none=>none
  |none=>none
def AQ(E:Env)(σ:St):ResultVar->Option Cel
 |.tmp t=>match σ.sl t with
  |.one c=>some c
  |_=>none
 |.cell a t=>match E.T t,σ.sl a with
  |some ti,.one (.one x)=>ru (mskM σ.bx) ti x
  |_,_=>none
def tX(E:Env)(σ:St):List Bool->List ResultVar->List Nat->Option (List RV×List Nat×Ups)
 |_,[],_=>some ([],[],[])
 |os,r::rs,ts=>match AQ E σ r with
  |some c=>match rvOf E (λk=>if parK E.np k then .gone else mskM σ.bx k) (os.headD false) (ts.headD 0) c with
   |some (v,ks,u)=>match tX E σ os.tail rs ts.tail with
    |some (vs,SZ,u')=>some (v::vs,ks++SZ,u++u')
    |none=>none
   |none=>none
  |none=>none
def outs(np:Nat)(σ:St):Nat->List Arg->Option (List Out×Ups)
 |_,[]=>some ([],[])
 |i,a::as=>match outs np σ (i+1) as with
  |some (os,u)=>match a with
   |.ref _=>match σ.bx (i*64) with
    |.live (.cell ls false)=>match tvs (λk=>if parK np k then .gone else mskM σ.bx k) ls with
     |some (xs,u')=>some (.ref xs::os,u'++u)
     |none=>none
    |_=>none
   |.rl e x=>match σ.bx (i*64) with
    |.live (.lst e' a xs false)=>if e'=e/\x.t = .list a then some (.rl ⟨.list a,xs⟩::os,u) else none
    |_=>none
   |_=>some (os,u)
  |none=>none
def hdOf(σ:St):Leaf->Option Nat
 |.ol 0=>match σ.bx 0 with
  |.live (.lst e _ xs false)=>if isM e then none else some xs.length
  |_=>none
 |.hd 0 i=>match σ.bx 0 with
  |.live (.lst _ _ _ false)=>some i
  |_=>none
 |_=>none
def S7(E:Env)(fn:Func)(args:List Arg)(σ:St):Option Ret:=
 match args,fn.results.toList with
 |.rl _ _::_,[r]=>match AQ E σ r,outs E.np σ 0 args with
  |some (.one l),some (os,_)=>match hdOf σ l with
   |some m=>some ⟨[.hd m],os⟩
   |none=>none
  |_,_=>none
 |_,_=>none
def nilV(E:Env)(σ:St)(rs:List ResultVar)(vs:List RV):Option (List RV):=
 if E.ns.isEmpty then some vs else match rs,vs with
  |[r],[.v x]=>match AQ E σ r with
   |some (.st ls)=>if E.ns.all (λi=>match ls[i]? with|some .nil=>true|_=>false) then some [.vn x E.ns] else none
   |_=>none
  |_,_=>none
def xC(E:Env)(fn:Func)(args:List Arg)(σ:St):Option Ret:=
 if E.hd then S7 E fn args σ else
 match tX E σ E.ro fn.results.toList fn.resultTypes.toList,outs E.np σ 0 args with
 |some (vs,ks,u),some (os,u')=>
  if qF ks&&(u++u').all (λe=> !ks.contains e.1) then match nilV E σ fn.results.toList vs with
   |some ma=>some ⟨ma,os⟩
   |none=>none
  else none
 |_,_=>none
noncomputable def tY(E:Env){R:Type}(fn:Func)(args:List Arg)(k:Ret->Option R):Option R:=
 if args.length=E.np then match fn.body with
 |some c=>fV E 0 c (St.init args) λe σ=>match e with
  |.exit _=>none
  |_=>match xC E fn args σ with
   |some r=>k r
   |none=>none
 |none=>none
 else none
def All2{α β:Type}(R:α->β->Prop):List α->List β->Prop
 |[],[]=>True
 |a::as,b::bs=>R a b/\All2 R as bs
 |_,_=>False
section All2
variable{α β γ:Type}{R R':α->β->Prop}
theorem All2.length:∀{as:List α}{bs:List β},All2 R as bs->as.length=bs.length
 |[],[],_=>rfl
 |_::_,_::_,h=>by simp[All2.length h.2]
 |[],_::_,h=>h.elim
 |_::_,[],h=>h.elim
theorem All2.mono(hr:∀a b,R a b->R' a b):∀{as:List α}{bs:List β},All2 R as bs->All2 R' as bs
 |[],[],_=>trivial
 |_::_,_::_,h=>⟨hr _ _ h.1,All2.mono hr h.2⟩
 |[],_::_,h=>h.elim
 |_::_,[],h=>h.elim
theorem All2.get:∀{as:List α}{bs:List β},All2 R as bs->∀(i:Nat)(a:α),as[i]? = some a->∃b,bs[i]? = some b/\R a b
 |[],[],_,i,a,h=>by simp at h
 |a::as,b::bs,h,0,a',he=>by simp at he;subst he;exact⟨b,by simp,h.1⟩
 |a::as,b::bs,h,i+1,a',he=>by
  obtain⟨b',hb,hr⟩:=All2.get h.2 i a' (by simpa using he);exact⟨b',by simpa using hb,hr⟩
 |[],_::_,h,_,_,_=>h.elim
 |_::_,[],h,_,_,_=>h.elim
theorem All2.append:∀{as:List α}{bs:List β}{GW:List α}{S8:List β},All2 R as bs->All2 R GW S8->All2 R (as++GW) (bs++S8)
 |[],[],_,_,_,h'=>h'
 |_::_,_::_,_,_,h,h'=>⟨h.1,All2.append h.2 h'⟩
 |[],_::_,_,_,h,_=>h.elim
 |_::_,[],_,_,h,_=>h.elim
theorem All2.take:∀{as:List α}{bs:List β},All2 R as bs->∀n,All2 R (as.take n) (bs.take n)
 |[],[],_,n=>by simp[All2]
 |_::_,_::_,_,0=>by simp[All2]
 |_::_,_::_,h,n+1=>⟨h.1,All2.take h.2 n⟩
 |[],_::_,h,_=>h.elim
 |_::_,[],h,_=>h.elim
theorem All2.drop:∀{as:List α}{bs:List β},All2 R as bs->∀n,All2 R (as.drop n) (bs.drop n)
 |[],[],_,n=>by simp[All2]
 |_::_,_::_,h,0=>h
 |_::_,_::_,h,n+1=>All2.drop h.2 n
 |[],_::_,h,_=>h.elim
 |_::_,[],h,_=>h.elim
theorem All2.set:∀{as:List α}{bs:List β},All2 R as bs->∀i a b,R a b->All2 R (as.set i a) (bs.set i b)
 |[],[],_,i,_,_,_=>by simp[All2]
 |_::_,_::_,h,0,_,_,hr=>⟨hr,h.2⟩
 |_::_,_::_,h,i+1,_,_,hr=>⟨h.1,All2.set h.2 i _ _ hr⟩
 |[],_::_,h,_,_,_,_=>h.elim
 |_::_,[],h,_,_,_,_=>h.elim
theorem All2.map_left{f:γ->α}:∀{cs:List γ}{bs:List β},All2 R (cs.map f) bs↔All2 (λc b=>R (f c) b) cs bs
 |[],[]=>Iff.rfl
 |_::_,_::_=>and_congr_right λ_=>All2.map_left
 |[],_::_=>Iff.rfl
 |_::_,[]=>Iff.rfl
theorem All2.mem_right:∀{as:List α}{bs:List β},All2 R as bs->∀b∈bs,∃a∈as,R a b
 |[],[],_,b,hb=>by simp at hb
 |a::as,b::bs,h,b',hb=>by
  rcases je.1 hb with rfl|hb
  .exact⟨a,by simp,h.1⟩
  .obtain⟨a',ha,hr⟩:=All2.mem_right h.2 b' hb;exact⟨a',by simp[ha],hr⟩
 |[],_::_,h,_,_=>h.elim
 |_::_,[],h,_,_=>h.elim
end All2
theorem GX{α β γ:Type}{R:α->β->Prop}{R':γ->β->Prop}{ls:List α}{xs:List γ}{l:List β}(h:All2 R ls (l.take ls.length))(h':All2 R' xs (l.take ls.length)):xs.length=ls.length:=
 h'.length.trans h.length.symm
def One(u:Value):Prop:=u.oneCell'=true
abbrev aP:=Nat->Nat->Prop
def Lies(S:aP)(w:World)(g o:Nat)(cs:List Value):Prop:=
 ∀j v,cs[j]? = some v->S g (o+j)/\w.cell? ⟨g,o+j,none⟩=some v
def Rep(S:aP)(w:World):(t:Ty)->t.den->List Value->Prop
 |.int k,n,cs=>cs=[.int k n]
 |.bool,b,cs=>cs=[.bool b]
 |.str,s,cs=>cs=[.string s]
 |.unit,_,cs=>cs=[]
 |.wrap a,v,cs=>Rep S w a v cs
 |.pair a b,v,cs=>∃c1 c2,cs=c1++c2/\Rep S w a v.1 c1/\Rep S w b v.2 c2
 |.list a,xs,cs=>∃ad cap,cs=[.slice ad (List.length xs) cap]/\List.length xs<=cap/\cap<=maxLen/\(ad=none->cap=0)/\
  ∀b,ad=some b->(xs≠[]->b.spot=none)/\∃css,All2 (λx c=>Rep S w a x c) xs css/\Lies S w b.block b.off css.flatten
 |.arr n a,xs,cs=>List.length xs=n/\∃css,All2 (λx c=>Rep S w a x c) xs css/\cs=css.flatten
def dP(S:aP)(w:World)(S':aP)(w':World):Prop:=
 ∀g o,S g o->S' g o/\w'.cell? ⟨g,o,none⟩=w.cell? ⟨g,o,none⟩
theorem dP.refl(S:aP)(w:World):dP S w S w:=λ_ _ h=>⟨h,rfl⟩
theorem dP.trans{S S' S9:aP}{w w' xD:World}(h:dP S w S' w')(h':dP S' w' S9 xD):dP S w S9 xD:=
 λg o hs=>⟨(h' g o (h g o hs).1).1,((h' g o (h g o hs).1).2).trans (h g o hs).2⟩
theorem Lies.keep{S S':aP}{w w':World}(h:dP S w S' w'){g o:Nat}{cs:List Value}(hl:Lies S w g o cs):Lies S' w' g o cs:=
 λj v hv=>let ⟨hs,hc⟩:=hl j v hv;⟨(h _ _ hs).1,(h _ _ hs).2.trans hc⟩
theorem Rep.keep{S S':aP}{w w':World}(h:dP S w S' w'):∀(t:Ty)(v:t.den)(cs:List Value),Rep S w t v cs->Rep S' w' t v cs
 |.int _,_,_,hr=>hr
 |.bool,_,_,hr=>hr
 |.str,_,_,hr=>hr
 |.unit,_,_,hr=>hr
 |.wrap a,v,cs,hr=>Rep.keep h a v cs hr
 |.pair a b,_,_,⟨c1,c2,e,h1,h2⟩=>⟨c1,c2,e,Rep.keep h a _ _ h1,Rep.keep h b _ _ h2⟩
 |.list a,_,_,⟨ad,cap,e,h1,h2,h3,h4⟩=>⟨ad,cap,e,h1,h2,h3,λb hb=>by
  obtain⟨hs,css,ha,hl⟩:=h4 b hb;exact⟨hs,css,ha.mono (λx c hx=>Rep.keep h a x c hx),hl.keep h⟩⟩
 |.arr _ a,_,_,⟨hn,css,ha,e⟩=>⟨hn,css,ha.mono (λx c hx=>Rep.keep h a x c hx),e⟩
theorem All2.flatten_length{α:Type}{R:α->List Value->Prop}{n:Nat}(hr:∀x c,R x c->c.length=n) :
  ∀{xs:List α}{css:List (List Value)},All2 R xs css->css.flatten.length=xs.length*n
 |[],[],_=>by simp
 |_::xs,c::css,h=>by
  have:=All2.flatten_length hr h.2;simp only[kx,jg,hr _ _ h.1,this,jm,Nat.add_mul];omega
 |[],_::_,h=>h.elim
 |_::_,[],h=>h.elim
theorem Rep.length{S:aP}{w:World}:∀(t:Ty)(v:t.den)(cs:List Value),Rep S w t v cs->cs.length=t.size
 |.int _,_,_,hr=>by rw[hr];rfl
 |.bool,_,_,hr=>by rw[hr];rfl
 |.str,_,_,hr=>by rw[hr];rfl
 |.unit,_,_,hr=>by rw[hr];rfl
 |.wrap a,v,cs,hr=>Rep.length a v cs hr
 |.pair a b,_,_,⟨c1,c2,e,h1,h2⟩=>by rw[e,jg,Rep.length a _ _ h1,Rep.length b _ _ h2];rfl
 |.list _,_,_,⟨ad,cap,e,_⟩=>by rw[e];rfl
 |.arr n a,xs,cs,⟨hn,css,ha,e⟩=>by
  rw[e,All2.flatten_length (λx c hx=>Rep.length a x c hx) ha,hn];rfl
theorem Rep.one{S:aP}{w:World}:∀(t:Ty)(v:t.den)(cs:List Value),Rep S w t v cs->∀u∈cs,One u
 |.int _,_,_,hr=>by rw[hr];intro u hu;simp at hu;subst hu;rfl
 |.bool,_,_,hr=>by rw[hr];intro u hu;simp at hu;subst hu;rfl
 |.str,_,_,hr=>by rw[hr];intro u hu;simp at hu;subst hu;rfl
 |.unit,_,_,hr=>by rw[hr];intro u hu;simp at hu
 |.wrap a,v,cs,hr=>Rep.one a v cs hr
 |.pair a b,_,_,⟨c1,c2,e,h1,h2⟩=>by
  rw[e];intro u hu;rcases jn.1 hu with hu|hu
  .exact Rep.one a _ _ h1 u hu
  .exact Rep.one b _ _ h2 u hu
 |.list _,_,_,⟨ad,cap,e,_⟩=>by rw[e];intro u hu;simp at hu;subst hu;rfl
 |.arr n a,xs,cs,⟨hn,css,ha,e⟩=>by
  rw[e];intro u hu;obtain⟨c,hc,xE⟩:=List.mem_flatten.1 hu;obtain⟨x,_,hx⟩:=ha.mem_right c hc;exact Rep.one a x c hx u xE
def jR(S:aP)(w:World):Cap->Value->Prop
 |.v x,u=>x.t.leafy=true/\Rep S w x.t x.v [u]
 |.p ls,u=>∃g o cs,u = .pointer (some ⟨g,o,none⟩)/\All2 (λx z=>Rep S w x.t x.v [z]) ls cs/\Lies S w g o cs
def bZ(S:aP)(w:World)(γ:Nat->Value)(bx:Nat->BS):Leaf->Value->Prop
 |.dead,_=>True
 |.nil,u=>u = .slice none 0 0
 |.d t v,u=>Rep S w t v [u]
 |.ol k,u=>bx k ≠ .free/\One u/\∀b,bx k = .live b->u=γ k
 |.bp k c,u=>bx k ≠ .free/\One u/\∀b,bx k = .live b->∃g,γ k = .pointer (some ⟨g,0,none⟩)/\u = .pointer (some ⟨g,c,none⟩)
 |.ep k i c,u=>bx k ≠ .free/\One u/\∀b,bx k = .live b->match b with
  |.lst e a xs _=>isM e=false/\i<xs.length/\∃g cap,γ k = .slice (some ⟨g,0,none⟩) xs.length cap/\u = .pointer (some ⟨g,i*a.size+c,none⟩)
  |.arr n a _=>i<n/\∃g,γ k = .pointer (some ⟨g,0,none⟩)/\u = .pointer (some ⟨g,i*a.size+c,none⟩)
  |.cell _ _=>False
 |.tl k i,u=>bx k ≠ .free/\One u/\∀b,bx k = .live b->match b with
  |.lst e a xs _=>isM e=false/\i<=xs.length/\∃ad cap,γ k = .slice ad xs.length cap/\u = .slice (if cap=i then ad else ad.map (·.add (i*a.size))) (xs.length-i) (cap-i)
  |.arr _ _ _=>False
  |.cell _ _=>False
 |.hd k i,u=>bx k ≠ .free/\One u/\∀b,bx k = .live b->match b with
  |.lst e _ xs _=>isM e=false/\i<=xs.length/\∃ad cap,γ k = .slice ad xs.length cap/\u = .slice ad i cap
  |.arr _ _ _=>False
  |.cell _ _=>False
 |.ip ls,u=>∃g o cs,u = .pointer (some ⟨g,o,none⟩)/\All2 (λx z=>Rep S w x.t x.v [z]) ls cs/\Lies S w g o cs
 |.clo f bF,u=>∃cv:Array Value,u = .func (.func f) #[] cv/\All2 (jR S w) bF cv.toList
def cd(S:aP)(w:World)(γ:Nat->Value)(bx:Nat->BS):Cel->Value->Prop
 |.one x,u=>bZ S w γ bx x u/\(x ≠ .dead->One u)
 |.st ls,u=>∃cs:Array Value,u = .agg cs/\All2 (bZ S w γ bx) ls cs.toList/\∀x∈cs.toList,One x
 |.av n a xs,u=>∃cs:Array Value,u = .agg cs/\Rep S w (.arr n a) xs cs.toList
def iH(S:aP)(w:World)(γ:Nat->Value)(bx:Nat->BS)(tm:Nat->Value):Slot->Value->Prop
 |.one c,u=>cd S w γ bx c u
 |.tup l,u=>∃vs:Array Value,u = .tuple vs/\All2 (cd S w γ bx) l vs.toList
 |.cnd s b c,u=>(tm s = .bool b/\cd S w γ bx c u)\/(tm s ≠ .bool b/\u=undef)
 |.und,u=>u=undef
def blk:Value->Option Nat
 |.pointer (some a)=>some a.block
 |.slice (some a) _ _=>some a.block
 |.map (some g)=>some g
 |_=>none
def jS:Ty->Bool
 |.arr _ _=>true
 |t=>t.agg
def VRep(S:aP)(w:World)(x:TV)(u:Value):Prop:=
 Rep S w x.t x.v u.cells.toList/\(jS x.t=true->∃cs,u = .agg cs)/\(jS x.t=false->One u)
theorem VRep.keep{S S':aP}{w w':World}(h:dP S w S' w'){x:TV}{u:Value}(hv:VRep S w x u):VRep S' w' x u:=
 ⟨Rep.keep h _ _ _ hv.1,hv.2⟩
def wb(es:Array MapEntry)(clock:Nat):Prop:=MapKept.Stamped es clock/\es.toList.map (·.born)=List.range clock
def CD(S:aP)(w:World):(a:Ty)->List a.den->Value->Prop
 |.pair k b,xs,u=>∃g es clock,u = .map (some g)/\w.heap[g]? = some (.map es clock)/\All2 (λ(x:k.den×b.den)(e:MapEntry)=>Rep S w k x.1 [e.key]/\VRep S w ⟨b,x.2⟩ e.val) xs es.toList/\wb es clock
 |_,_,_=>False
def rB(S:aP)(w:World)(e:Nat)(a:Ty)(xs:List a.den)(u:Value):Prop:=
 (isM e=false/\∃css,w.ownsRow 0 e a.size u xs.length css.flatten/\All2 (λx c=>Rep S w a x c) xs css)\/(isM e=true/\CD S w a xs u)
theorem CD.keep{S S':aP}{w w':World}(h:dP S w S' w'):∀{a:Ty}{xs:List a.den}{u:Value},(∀g,blk u=some g->w'.heap[g]? = w.heap[g]?)->CD S w a xs u->CD S' w' a xs u
 |.pair k b,xs,u,hg,⟨g,es,clock,hu,hh,ha,hq⟩=>⟨g,es,clock,hu,(hg g (by rw[hu];rfl)).trans hh,ha.mono λx e hx=>⟨Rep.keep h _ _ _ hx.1,VRep.keep h hx.2⟩,hq⟩
theorem rB.keep{S S':aP}{w w':World}(h:dP S w S' w'){e:Nat}{a:Ty}{xs:List a.den}{u:Value}(hg:∀g,blk u=some g->w'.heap[g]? = w.heap[g]?)(hl:rB S w e a xs u):rB S' w' e a xs u:=by
 rcases hl with⟨hm,css,h1,h2⟩|⟨hm,h1⟩
 .refine .inl ⟨hm,css,⟨h1.1,?_⟩,h2.mono (λx c hx=>Rep.keep h _ _ _ hx)⟩;rcases h1.2 with hn|⟨g,cap,cur,hv,fW,hh,rest⟩
  .exact .inl hn
  .exact .inr ⟨g,cap,cur,hv,fW,(hg g (by rw[hv];rfl)).trans hh,rest⟩
 .exact .inr ⟨hm,h1.keep h hg⟩
theorem rB.lt{S:aP}{w:World}{e:Nat}{a:Ty}{xs:List a.den}{u:Value}(hl:rB S w e a xs u){g:Nat}(hg:blk u=some g):g<w.heap.size:=by
 rcases hl with⟨hm,css,h1,h2⟩|⟨hm,h1⟩
 .rcases h1.2 with⟨hn,_⟩|⟨g',cap,cur,hv,fW,hh,rest⟩
  .rw[hn]at hg;simp[blk]at hg
  .rw[hv]at hg;simp[blk]at hg;subst hg;exact(ji.1 hh).1
 .revert h1
  cases a with
  |pair k b=>
   rintro⟨g',es,clock,hu,hh,ha⟩
   rw[hu]at hg;simp[blk]at hg;subst hg;exact(ji.1 hh).1
  |_=>exactλh=>h.elim
theorem rB.one{S:aP}{w:World}{e:Nat}{a:Ty}{xs:List a.den}{u:Value}(hl:rB S w e a xs u):One u:=by
 rcases hl with⟨hm,css,h1,h2⟩|⟨hm,h1⟩
 .rcases h1.2 with⟨hn,_⟩|⟨g',cap,cur,hv,_⟩
  .rw[hn];rfl
  .rw[hv];rfl
 .revert h1
  cases a with
  |pair k b=>rintro⟨g',es,clock,hu,_⟩;rw[hu];rfl
  |_=>exactλh=>h.elim
def fy(S:aP)(w:World)(γ:Nat->Value)(bx:Nat->BS)(k:Nat):Bx->Prop
 |.cell ls frz=>∃g cur e,γ k = .pointer (some ⟨g,0,none⟩)/\w.heap[g]? = some (.cells cur e (0,0))/\All2 (bZ S w γ bx) ls (cur.toList.take ls.length)/\
  (∀u∈cur.toList.take ls.length,One u)/\(frz=false->∀o,¬S g o)/\(frz=true->∀o,o<cur.size->S g o)
 |.lst e a xs frz=>rB S w e a xs (γ k)/\
  ∀g,blk (γ k)=some g->(frz=false->∀o,¬S g o)/\(frz=true->∀o,S g o↔o<xs.length*a.size)
 |.arr n a xs=>∃g cur e,γ k = .pointer (some ⟨g,0,none⟩)/\w.heap[g]? = some (.cells cur e (0,0))/\Rep S w (.arr n a) xs cur.toList/\∀o,¬S g o
theorem jH{S:aP}{w:World}{γ:Nat->Value}{bx:Nat->BS}{k e:Nat}{a:Ty}{xs:List a.den}{frz:Bool}(hm:isM e=false)(h:fy S w γ bx k (.lst e a xs frz)) :
  ∃css,w.ownsRow 0 e a.size (γ k) xs.length css.flatten/\All2 (λx c=>Rep S w a x c) xs css/\
   ∀g,blk (γ k)=some g->(frz=false->∀o,¬S g o)/\(frz=true->∀o,S g o↔o<xs.length*a.size):=by
 obtain⟨h1,h2⟩:=h;rcases h1 with⟨_,css,h3,h4⟩|⟨h3,_⟩
 .exact⟨css,h3,h4,h2⟩
 .rw[hm]at h3;simp at h3
theorem GY{S:aP}{w:World}{γ:Nat->Value}{bx:Nat->BS}{k e:Nat}{a:Ty}{xs:List a.den}{frz:Bool}{ad:Option Addr}{n c:Nat}(hs:γ k = .slice ad n c)(h:fy S w γ bx k (.lst e a xs frz)) :
  ∃css,w.ownsRow 0 e a.size (γ k) xs.length css.flatten/\All2 (λx c=>Rep S w a x c) xs css/\
   ∀g,blk (γ k)=some g->(frz=false->∀o,¬S g o)/\(frz=true->∀o,S g o↔o<xs.length*a.size):=by
 obtain⟨h1,h2⟩:=h;rcases h1 with⟨_,css,h3,h4⟩|⟨_,h3⟩
 .exact⟨css,h3,h4,h2⟩
 .revert h3
  rw[hs];cases a with
  |pair k b=>rintro⟨g',es,clock,hu,_⟩;simp at hu
  |_=>exactλh=>h.elim
theorem Ta{S:aP}{w:World}{γ:Nat->Value}{bx:Nat->BS}{k e:Nat}{a:Ty}{xs:List a.den}{frz:Bool}{ad:Option Addr}{n c:Nat}(hs:γ k = .slice ad n c)(h:fy S w γ bx k (.lst e a xs frz)):isM e=false:=by
 rcases h.1 with⟨h1,_⟩|⟨_,h3⟩
 .exact h1
 .revert h3
  rw[hs];cases a with
  |pair k b=>rintro⟨g',es,clock,hu,_⟩;simp at hu
  |_=>exactλh=>h.elim
theorem CE{S:aP}{w:World}{γ:Nat->Value}{bx:Nat->BS}{k e:Nat}{a:Ty}{xs:List a.den}{frz:Bool}(hm:isM e=false) (h:∃css,w.ownsRow 0 e a.size (γ k) xs.length css.flatten/\All2 (λx c=>Rep S w a x c) xs css/\
  ∀g,blk (γ k)=some g->(frz=false->∀o,¬S g o)/\(frz=true->∀o,S g o↔o<xs.length*a.size)):fy S w γ bx k (.lst e a xs frz):=by
 obtain⟨css,h1,h2,h3⟩:=h;exact⟨.inl ⟨hm,css,h1,h2⟩,h3⟩
def kH:Bx->Bx->Prop
 |.cell _ _,.cell _ _=>True
 |.lst e a xs _,.lst e' a' dg _=>e=e'/\a=a'/\(isM e=false->xs.length=dg.length)
 |.arr n a _,.arr n' a' _=>n=n'/\a=a'
 |_,_=>False
theorem kH.refl(b:Bx):kH b b:=by cases b<;>simp[kH]
theorem kH.trans{a b c:Bx}(h:kH a b)(h':kH b c):kH a c:=by
 cases a<;>cases b<;>cases c<;>simp only[kH]at h h' ⊢ <;> first
  |exact h.elim
  |exact h'.elim
  |(obtain⟨rfl,rfl,h3⟩:=h;obtain⟨rfl,rfl,h4⟩:=h';exact⟨rfl,rfl,λhm=>(h3 hm).trans (h4 hm)⟩)
  |exact⟨h.1.trans h'.1,h.2.trans h'.2⟩
def BxLe(γ:Nat->Value)(bx:Nat->BS)(γ':Nat->Value)(bx':Nat->BS):Prop:=
 ∀k,bx k ≠ .free->bx' k ≠ .free/\γ' k=γ k/\∀b',bx' k = .live b'->∃b,bx k = .live b/\kH b b'
theorem BxLe.refl(γ:Nat->Value)(bx:Nat->BS):BxLe γ bx γ bx:=λ_ h=>⟨h,rfl,λb hb=>⟨b,hb,.refl b⟩⟩
section keeps
variable{S S':aP}{w w':World}{γ γ':Nat->Value}{bx bx':Nat->BS}(hk:dP S w S' w')(hb:BxLe γ bx γ' bx')
include hk
theorem jR.keep{x:Cap}{u:Value}(h:jR S w x u):jR S' w' x u:=by
 cases x with
 |v x=>exact⟨h.1,Rep.keep hk _ _ _ h.2⟩
 |p ls=>obtain⟨g,o,cs,hu,ha,hl⟩:=h;exact⟨g,o,cs,hu,ha.mono (λx z hx=>Rep.keep hk _ _ _ hx),hl.keep hk⟩
include hb
theorem bZ.keep{x:Leaf}{u:Value}(h:bZ S w γ bx x u):bZ S' w' γ' bx' x u:=by
 cases x with
 |dead=>trivial
 |nil=>exact h
 |d t v=>exact Rep.keep hk _ _ _ h
 |ol k=>obtain⟨h1,h2,h3⟩:=h;obtain⟨b1,b2,b3⟩:=hb k h1;exact⟨b1,h2,λb aT=>by obtain⟨b0,fW,_⟩:=b3 b aT;rw[b2];exact h3 b0 fW⟩
 |bp k c=>obtain⟨h1,h2,h3⟩:=h;obtain⟨b1,b2,b3⟩:=hb k h1;exact⟨b1,h2,λb aT=>by obtain⟨b0,fW,_⟩:=b3 b aT;rw[b2];exact h3 b0 fW⟩
 |ep k i c=>
  obtain⟨h1,h2,h3⟩:=h;obtain⟨b1,b2,b3⟩:=hb k h1;refine⟨b1,h2,λb aT=>?_⟩;obtain⟨b0,fW,hs⟩:=b3 b aT;have h4:=h3 b0 fW;rw[b2]
  cases b0<;>cases b<;>simp only[kH]at hs<;>first
   |exact hs.elim
   |exact h4.elim
   |(obtain⟨rfl,rfl,hl⟩:=hs;simp only at h4 ⊢;obtain⟨hm,h4⟩:=h4;rw[<-hl hm];exact⟨hm,h4⟩)
   |(obtain⟨rfl,rfl⟩:=hs;exact h4)
 |tl k i=>
  obtain⟨h1,h2,h3⟩:=h;obtain⟨b1,b2,b3⟩:=hb k h1;refine⟨b1,h2,λb aT=>?_⟩;obtain⟨b0,fW,hs⟩:=b3 b aT;have h4:=h3 b0 fW;rw[b2]
  cases b0<;>cases b<;>simp only[kH]at hs<;>first
   |exact hs.elim
   |exact h4.elim
   |(obtain⟨rfl,rfl,hl⟩:=hs;simp only at h4 ⊢;obtain⟨hm,h4⟩:=h4;rw[<-hl hm];exact⟨hm,h4⟩)
 |hd k i=>
  obtain⟨h1,h2,h3⟩:=h;obtain⟨b1,b2,b3⟩:=hb k h1;refine⟨b1,h2,λb aT=>?_⟩;obtain⟨b0,fW,hs⟩:=b3 b aT;have h4:=h3 b0 fW;rw[b2]
  cases b0<;>cases b<;>simp only[kH]at hs<;>first
   |exact hs.elim
   |exact h4.elim
   |(obtain⟨rfl,rfl,hl⟩:=hs;simp only at h4 ⊢;obtain⟨hm,h4⟩:=h4;rw[<-hl hm];exact⟨hm,h4⟩)
 |ip ls=>obtain⟨g,o,cs,hu,ha,hl⟩:=h;exact⟨g,o,cs,hu,ha.mono (λx z hx=>Rep.keep hk _ _ _ hx),hl.keep hk⟩
 |clo f bF=>obtain⟨cv,hu,ha⟩:=h;exact⟨cv,hu,ha.mono (λx z hx=>jR.keep hk hx)⟩
theorem cd.keep{x:Cel}{u:Value}(h:cd S w γ bx x u):cd S' w' γ' bx' x u:=by
 cases x with
 |one x=>exact⟨bZ.keep hk hb h.1,h.2⟩
 |st ls=>obtain⟨cs,hu,ha,h1⟩:=h;exact⟨cs,hu,ha.mono (λx z hx=>bZ.keep hk hb hx),h1⟩
 |av n a xs=>obtain⟨cs,hu,ha⟩:=h;exact⟨cs,hu,Rep.keep hk _ _ _ ha⟩
theorem iH.keep{tm:Nat->Value}{x:Slot}{u:Value}(h:iH S w γ bx tm x u):iH S' w' γ' bx' tm x u:=by
 cases x with
 |one c=>exact cd.keep hk hb h
 |tup l=>obtain⟨vs,hu,ha⟩:=h;exact⟨vs,hu,ha.mono (λx z hx=>cd.keep hk hb hx)⟩
 |cnd s b c=>exact h.imp (λh=>⟨h.1,cd.keep hk hb h.2⟩) id
 |und=>exact h
end keeps
structure Refs where
 blks:List Nat
 val:Nat->Option Value
 ds:List Deferred:=[]
 kw:Nat->Option Obj:=λ_=>none
 fix:Nat->Option Value:=λ_=>none
 mv:List Nat:=[]
instance:Membership Nat Refs:=⟨λr g=>g∈r.blks⟩
def Own(w0:World)(refs:Refs)(g:Nat):Prop:=w0.heap.size<=g\/(g∈refs.mv/\g∈refs)
theorem Own.nil{w0:World}{refs:Refs}{g:Nat}(h:Own w0 refs g)(hm:refs.mv=[]):w0.heap.size<=g:=h.elim id λh=>by rw[hm]at h;exact absurd h.1 (by simp)
theorem Own.swap{w0:World}{refs refs':Refs}{g:Nat}(h:Own w0 refs g)(hb:refs'.blks=refs.blks)(hm:refs'.mv=refs.mv):Own w0 refs' g:=h.imp id λh=>⟨hm▸h.1,by show g∈refs'.blks;rw[hb];exact h.2⟩
theorem Own.no{w0:World}{refs:Refs}{g:Nat}(h:Own w0 refs g)(h1:g<w0.heap.size)(h2:g∉refs):False:=h.elim (λh=>by omega) λh=>h2 h.2
structure Rel(N:NT)(np:Nat)(S0:aP)(w0:World)(refs:Refs)(σ:St)(a:Go.Act)(w:World)(S:aP)(γ:Nat->Value):Prop where
 size:a.tmps.size=N.n
 defers:a.defers=refs.ds
 slot:∀i,iH S w γ σ.bx (λj=>a.tmps.getD j undef) (σ.sl i) (a.tmps.getD i undef)
 box:∀k b,σ.bx k = .live b->fy S w γ σ.bx k b
 own:∀k b g,σ.bx k = .live b->blk (γ k)=some g->Own w0 refs g\/(g∈refs/\parK np k=true)
 apart:∀k k' b b' g,k≠k'->σ.bx k = .live b->σ.bx k' = .live b'->blk (γ k)=some g->blk (γ k')≠some g
 ext:∀g o,S0 g o->S g o
 new:∀g o,S g o->S0 g o\/Own w0 refs g
 here:∀g o,S g o->g<w.heap.size
 below:∀g,g<w0.heap.size->g∉refs->w.heap[g]? = w0.heap[g]?
 grow:w0.heap.size<=w.heap.size
 os:w.os=w0.os
 tape:w.tape=w0.tape
 output:w.output=w0.output
 par:∀k v,refs.val k=some v->parK np k=true/\σ.bx k ≠ .free/\γ k=v
 kept:∀g o,refs.kw g=some o->w.heap[g]? = some o/\∀k b,σ.bx k = .live b->blk (γ k)≠some g
 fix:∀i v,refs.fix i=some v->N.pin i=true/\a.tmps.getD i undef=v
section
variable{N:NT}{np:Nat}{S0:aP}{w0:World}{refs:Refs}{σ:St}{a:Go.Act}{w:World}{S:aP}{γ:Nat->Value}
theorem Rel.kw_live(hR:Rel N np S0 w0 refs σ a w S γ){k:Nat}{b:Bx}{g:Nat}(hk:σ.bx k = .live b)(hg:blk (γ k)=some g):refs.kw g=none:=by
 cases h:refs.kw g with
 |none=>rfl
 |some o=>exact absurd hg ((hR.kept g o h).2 k b hk)
theorem Rel.kw_new(hR:Rel N np S0 w0 refs σ a w S γ){g:Nat}(hg:w.heap.size<=g):refs.kw g=none:=by
 cases h:refs.kw g with
 |none=>rfl
 |some o=>have:=(ji.1 (hR.kept g o h).1).1;omega
end
def kI:Ty->List Value
 |.int k=>[.int k 0]
 |.bool=>[.bool false]
 |.str=>[.string ByteArray.empty]
 |.unit=>[]
 |.wrap a=>kI a
 |.pair a b=>kI a++kI b
 |.list _=>[.slice none 0 0]
 |.arr n a=>(List.replicate n (kI a)).flatten
def Kr:Value->Value->Bool
 |.int k n,.int k' n'=>decide (k=k')&&decide (n=n')
 |.bool b,.bool b'=>b==b'
 |.string s,.string s'=>decide (s.data.toList=s'.data.toList)
 |.slice none 0 0,.slice none 0 0=>true
 |_,_=>false
def AR:List Value->List Value->Bool
 |[],[]=>true
 |a::l,b::l'=>Kr a b&&AR l l'
 |_,_=>false
theorem jA6{a b:Value}(h:Kr a b=true):a=b:=by
 unfold Kr at h;split at h<;>simp_all;rename_i s s';cases s;cases s';simp_all
theorem Tb:∀{l l':List Value},AR l l'=true->l=l'
 |[],[],_=>rfl
 |a::l,b::l',h=>by
  simp only[AR,jc]at h;rw[jA6 h.1,Tb h.2]
 |[],_::_,h=>by simp[AR]at h
 |_::_,[],h=>by simp[AR]at h
def aggD:TypeDesc->Bool
 |.struct _|.array _ _=>true
 |_=>false
def GZ(T:Nat->Option TyI)(e:Nat)(a:Ty):Bool:=
 match T e with
 |some te=>decide (te.ty=some a)
 |none=>false
def lu(T:Nat->Option TyI)(ti:TyI)(t:Ty):TypeDesc->Bool
 |.int k=>decide (t = .int k)
 |.bool=>decide (t = .bool)
 |.string=>decide (t = .str)
 |.slice e=>match t with
  |.list a=>decide (e=ti.elem)&&GZ T e a&&decide (0<a.size)
  |_=>false
 |.array n e=>match t with
  |.arr n' a=>decide (n=n')&&decide (e=ti.elem)&&GZ T e a&&decide (0<a.size)
  |_=>false
 |.struct _=>t.agg
 |_=>false
def CF(T:Nat->Option TyI)(ti:TyI):TypeDesc->Bool
 |.struct fs=>decide (fs.toList.map (λf=>(f.offset,f.type))=ti.flds)&&fs.toList.all (λf=>match T f.type with|some tf=>decide (0<tf.size)|none=>false)
 |_=>ti.flds.isEmpty
def CG(P:Program)(f:TypeId->Option (List Ty)):Nat->List Field->Option (List Ty)
 |_,[]=>some []
 | n, x :: xs => if x.name != "_" && decide (x.offset = n) then
   match f x.type with
   |some ks=>if (P.info? x.type).map (·.size)=some ks.length then match CG P f (n+ks.length) xs with
     |some r=>some (ks++r)
     |none=>none
    else none
   |none=>none
  else none
def wc(P:Program):Nat->TypeId->Option (List Ty)
 |0,_=>none
 |d+1,t=>match P.underlying t with
  |some (.int k)=>some [.int k]
  |some .bool=>some [.bool]
  |some .string=>some [.str]
  |some (.struct fs)=>if P.stoodInHeld t then none else CG P (wc P d) 0 fs.toList
  |_=>none
def Ks(P:Program)(t:TypeId)(ks:List Ty):Bool:=
 decide (wc P 12 t=some ks) && !P.eqGuardType P.depth t&&(match P.underlying t with|some (.struct _)=>true|_=>false)
def mpOk(ti:TyI)(d:TypeDesc):Bool:=match ti.mp with
 |none=>true
 |some (k,v)=>match d with
  |.map k' v'=>decide (k=k')&&decide (v=v')
  |_=>false
def zOk(i:TypeInfo)(d:TypeDesc):Bool:=match i.zero with
 |some (.agg _)=>aggD d
 |some (.tuple _)=>false
 |_=> !aggD d
def tyOk(P:Program)(T:Nat->Option TyI)(n:Nat)(ti:TyI):Bool:=
 match P.info? n,P.underlying n with
 |some i,some d=>decide (i.size=ti.size)&&decide (i.bytes<=32768)&&decide (ti.agg=aggD d)&&CF T ti d&&(((ti.cmp.isEmpty||Ks P n ti.cmp)&&mpOk ti d)&&(zOk i d && !isM ti.elem)) &&
  match ti.ty with
  |none=>true
  |some t=>decide (t.size=ti.size)&&(match i.zero with|some z=>AR z.cells.toList (kI t)|none=>false)&&lu T ti t d
 |_,_=>false
def cO(P:Program)(T:Nat->Option TyI):Prop:=∀n ti,T n=some ti->tyOk P T n ti=true
def tab(l:List (Option TyI))(n:Nat):Option TyI:=l.getD n none
theorem jA7(P:Program)(l:List (Option TyI))(h:(l.zipIdx.all λx=>match x.1 with|some ti=>tyOk P (tab l) x.2 ti|none=>true)=true):cO P (tab l):=by
 intro n ti hn;rw[jy]at h
 have hm:(some ti,n)∈l.zipIdx:=by
  rw[List.mem_zipIdx_iff_getElem?];unfold tab at hn;rw[List.getD_eq_getElem?_getD]at hn;cases hl:l[n]? with
  |none=>simp[hl]at hn
  |some x=>simp[hl]at hn;simp[hn]
 exact h _ hm
section
variable{P:Program}{T:Nat->Option TyI}(hT:cO P T){n:Nat}{ti:TyI}(hn:T n=some ti)
include hT hn
theorem jCD(hc:ti.cmp.isEmpty=false):Ks P n ti.cmp=true:=by
 have h:=hT n ti hn;unfold tyOk at h;split at h
 .simp only[jc,hc,zt]at h;exact h.1.2.1.1
 .simp at h
theorem jCE{k v:Nat}(hm:ti.mp=some (k,v)):P.underlying n=some (.map k v):=by
 have h:=hT n ti hn;unfold tyOk at h;split at h
 .rename_i i d hi hd;simp only[jc]at h;have h2:=h.1.2.1.2;simp only[mpOk,hm]at h2;split at h2
  .simp only[jc,jo]at h2;rw[hd,h2.1,h2.2]
  .simp at h2
 .simp at h
theorem nf:∃i d,P.info? n=some i/\P.underlying n=some d/\i.size=ti.size/\i.bytes<=32768/\ti.agg=aggD d/\CF T ti d=true/\
  ∀t,ti.ty=some t->t.size=ti.size/\(∃z,i.zero=some z/\z.cells.toList=kI t)/\lu T ti t d=true:=by
 have h:=hT n ti hn;unfold tyOk at h;split at h
 .rename_i i d hi hd;simp only[jc,jo]at h;obtain⟨⟨⟨⟨⟨h1,h2⟩,h3⟩,h4⟩,_⟩,h5⟩:=h;refine⟨i,d,hi,hd,h1,h2,h3,h4,λt ht=>?_⟩;simp only[ht,jc,jo]at h5;obtain⟨⟨h6,h7⟩,h8⟩:=h5;refine⟨h6,?_,h8⟩;split at h7
  .rename_i z hz;exact⟨z,hz,Tb h7⟩
  .simp at h7
 .simp at h
theorem kJ(w:World):(sizeOf n).run P w = .ok ti.size w:=by
 obtain⟨i,d,hi,hd,hs,_⟩:=nf hT hn;simp[sizeOf,typeInfo,hi,hs]
theorem AS(w:World):(isAgg n).run P w = .ok ti.agg w:=by
 obtain⟨i,d,hi,hd,hs,_,ha,_⟩:=nf hT hn;simp only[isAgg,Sem.run_bind,run_underlying hd,Result.andThen_ok];rw[ha];cases d<;>rfl
theorem CH(w:World){t:Ty}(ht:ti.ty=some t):∃z,(zeroValue n).run P w = .ok z w/\z.cells.toList=kI t:=by
 obtain⟨i,d,hi,hd,hs,_,ha,_,h⟩:=nf hT hn;obtain⟨_,⟨z,hz,hc⟩,_⟩:=h t ht;exact⟨z,by simp[zeroValue,typeInfo,hi,hz],hc⟩
theorem jA8{i:TypeInfo}{d:TypeDesc}(hi:P.info? n=some i)(hd:P.underlying n=some d):zOk i d=true:=by
 have h:=hT n ti hn;unfold tyOk at h;rw[hi,hd]at h;simp only[jc]at h;exact h.1.2.2.1
theorem Kt:isM ti.elem=false:=by
 have h:=hT n ti hn;unfold tyOk at h;split at h
 .simp only[jc]at h;simpa using h.1.2.2.2
 .simp at h
theorem nJ{t:Ty}(ht:ti.ty=some t):t.size=ti.size:=by
 obtain⟨i,d,hi,hd,hs,_,ha,_,h⟩:=nf hT hn;exact(h t ht).1
theorem Ku{k:IntKind}(ht:ti.ty=some (.int k)):P.underlying n=some (.int k):=by
 obtain⟨i,d,hi,hd,hs,_,ha,_,h⟩:=nf hT hn;have:=(h _ ht).2.2;cases d<;>simp_all[lu,Ty.agg]
theorem oI{a:Ty}(ht:ti.ty=some (.list a)):P.underlying n=some (.slice ti.elem)/\0<a.size/\∃te,T ti.elem=some te/\te.ty=some a:=by
 obtain⟨i,d,hi,hd,hs,_,ha,_,h⟩:=nf hT hn;have gx:=(h _ ht).2.2;cases d with
 |slice e=>
  simp only[lu,jc,jo]at gx;obtain⟨⟨rfl,h2⟩,h3⟩:=gx;refine⟨hd,h3,?_⟩;unfold GZ at h2;split at h2
  .rename_i te c9;exact⟨te,c9,by simpa using h2⟩
  .simp at h2
 |_=>simp_all[lu,Ty.agg]
theorem G0{m:Nat}{a:Ty}(ht:ti.ty=some (.arr m a)):P.underlying n=some (.array m ti.elem)/\0<a.size/\∃te,T ti.elem=some te/\te.ty=some a:=by
 obtain⟨i,d,hi,hd,hs,_,ha,_,h⟩:=nf hT hn;have gx:=(h _ ht).2.2;cases d with
 |array m' e=>
  simp only[lu,jc,jo]at gx;obtain⟨⟨⟨rfl,rfl⟩,h2⟩,h3⟩:=gx;refine⟨hd,h3,?_⟩;unfold GZ at h2;split at h2
  .rename_i te c9;exact⟨te,c9,by simpa using h2⟩
  .simp at h2
 |_=>simp_all[lu,Ty.agg]
theorem Tc{j:Nat}{f:Nat×Nat}(hf:ti.flds[j]? = some f) :
  ∃fs,P.underlying n=some (.struct fs)/\∃fl,fs[j]? = some fl/\fl.offset=f.1/\fl.type=f.2/\∃tf,T f.2=some tf/\0<tf.size:=by
 obtain⟨i,d,hi,hd,_,_,nK,fk,_⟩:=nf hT hn;cases d with
 |struct fs=>
  simp only[CF,jc,jo]at fk;obtain⟨h1,h2⟩:=fk;rw[<-h1]at hf;rw[qi]at hf;cases hq:fs.toList[j]? with
  |none=>simp[hq]at hf
  |some fl=>
   simp only[hq,qa,j5]at hf;subst hf;refine⟨fs,hd,fl,by simpa using hq,rfl,rfl,?_⟩;have:=jy.1 h2 fl (kc hq);split at this
   .rename_i tf rC;exact⟨tf,rC,by simpa using this⟩
   .simp at this
 |_=>
  have:ti.flds=[]:=by simpa[CF]using fk
  simp[this]at hf
end
section
variable{N:NT}{np:Nat}{S0:aP}{w0:World}{refs:Refs}{σ:St}{a:Go.Act}{w:World}{S:aP}{γ:Nat->Value}
def tm(a:Go.Act)(j:Nat):Value:=a.tmps.getD j undef
def jFw(P:Program)(o:Oper)(a:Go.Act)(w:World)(v:Value)(w':World):Prop:=
 (execOp a.eval o).run P w = .ok (.value v) w'\/((execOp a.eval o).run P w = .ok .skip w'/\v=undef)
def Kv(P:Program)(N:NT)(np:Nat)(S0:aP)(w0:World)(refs:Refs)(o:Oper)(σ:St)(a:Go.Act)(w:World)(S:aP)(γ:Nat->Value)(s:Slot)(u:Ups):Prop:=
 ∃v w' S' γ',jFw P o a w v w'/\Rel N np S0 w0 refs (σ.upd u) a w' S' γ'/\iH S' w' γ' (σ.upd u).bx (tm a) s v
theorem mb{P:Program}{o:Oper}{s:Slot}{v:Value}(hR:Rel N np S0 w0 refs σ a w S γ)(hr:(execOp a.eval o).run P w = .ok (.value v) w)
  (hs:iH S w γ σ.bx (tm a) s v):Kv P N np S0 w0 refs o σ a w S γ s []:=
 ⟨v,w,S,γ,.inl hr,hR,hs⟩
theorem jsU(v:Value)(bx:Nat->BS):cd S w γ bx (.one (Kg v)) v:=by
 unfold Kg
 split<;>first
  |exact⟨rfl,λ_=>rfl⟩
  |exact⟨trivial,λh=>absurd rfl h⟩
theorem mw(hR:Rel N np S0 w0 refs σ a w S γ)(x:Operand):iH S w γ σ.bx (tm a) (σ.ev x) (a.eval x):=by
 cases x with
 |tmp t=>exact hR.slot t
 |const v=>exact jsU v _
 |global g=>exact⟨trivial,λh=>absurd rfl h⟩
 |func f=>exact⟨⟨#[],rfl,trivial⟩,λ_=>rfl⟩
def rD(tm:Nat->Value)(act:List (Nat×Bool)):Prop:=∀g∈act,tm g.1 = .bool g.2
theorem Kw{bx:Nat->BS}{t:Nat->Value}{act:List (Nat×Bool)}(aZ:rD t act){s:Slot}{u:Value}(h:iH S w γ bx t s u):cd S w γ bx (s.cel act) u:=by
 cases s with
 |one c=>exact h
 |tup l=>exact⟨trivial,λh=>absurd rfl h⟩
 |und=>exact⟨trivial,λh=>absurd rfl h⟩
 |cnd s b c=>
  simp only[Slot.cel];split
  .rename_i hc;have hm:(s,b)∈act:=by simpa using hc
   have:=aZ _ hm;rcases h with h|h
   .exact h.2
   .exact absurd this h.1
  .exact⟨trivial,λh=>absurd rfl h⟩
theorem eY(hR:Rel N np S0 w0 refs σ a w S γ){act:List (Nat×Bool)}(aZ:rD (tm a) act)(x:Operand) :
 cd S w γ σ.bx ((σ.ev x).cel act) (a.eval x):=Kw aZ (mw hR x)
theorem iQ{bx:Nat->BS}{c:Cel}{u:Value}(h:cd S w γ bx c u):bZ S w γ bx (lf c) u:=by
 cases c with
 |one x=>exact h.1
 |st ls=>trivial
 |av n a xs=>trivial
theorem pw{k:IntKind}{n:(Ty.int k).den}{u:Value}(h:Rep S w (.int k) n [u]):u = .int k n:=by simpa[Rep]using h
theorem Kx{n:Ty.bool.den}{u:Value}(h:Rep S w .bool n [u]):u = .bool n:=by simpa[Rep]using h
theorem CI{n:Ty.str.den}{u:Value}(h:Rep S w .str n [u]):u = .string n:=by simpa[Rep]using h
theorem ng{t:Ty}{x:TV}{v:t.den}(h:x.to t=some v):x=⟨t,v⟩:=by
 unfold TV.to at h;split at h
 .rename_i e;obtain⟨t',v'⟩:=x;subst e;simp at h;rw[h]
 .simp at h
theorem Td{P:Program}(op:BinOp)(t:TypeId)(x y:Operand)(k k':IntKind)(p q:Int) :
  (eqGuard op t x y (.int k p) (.int k' q)).run P w = .ok () w:=by
 unfold eqGuard;cases op<;>simp
theorem Te{P:Program}(op:BinOp)(t:TypeId)(x y:Operand)(p q:Bool):(eqGuard op t x y (.bool p) (.bool q)).run P w = .ok () w:=by
 unfold eqGuard;cases op<;>simp
theorem Tf{P:Program}(op:BinOp)(t:TypeId)(x y:Operand)(p q:ByteArray):(eqGuard op t x y (.string p) (.string q)).run P w = .ok () w:=by
 unfold eqGuard;cases op<;>simp
theorem Tg{P:Program}(t:TypeId){k k':IntKind}{x y:Int}(h:0<=y) :
  (binOp .shr t (.int k x) (.int k' y)).run P w = .ok (.int k (Int.fdiv x (2^min (Int.toNat y) k.bits))) w:=by
 have h':¬y<0:=by omega
 simp[binOp,Op.shift,h']
theorem jA9{P:Program}{op:BinOp}{k:IntKind}{x y:Int}{l:Leaf}{bx:Nat->BS}(t:TypeId)(h:binI op k x y=some (true,l)) :
  ∃u,(binOp op t (.int k x) (.int k y)).run P w = .ok u w/\bZ S w γ bx l u/\One u:=by
 cases op with
 |add=>simp[binI]at h;subst h;exact⟨_,by simp[binOp,Op.intArith],rfl,rfl⟩
 |sub=>simp[binI]at h;subst h;exact⟨_,by simp[binOp,Op.intArith],rfl,rfl⟩
 |mul=>simp[binI]at h;subst h;exact⟨_,by simp[binOp,Op.intArith],rfl,rfl⟩
 |quo=>simp only[binI,j5,j9,kp,beq_eq_false_iff_ne]at h;obtain⟨h0,rfl⟩:=h;exact⟨_,by simp[binOp,Op.intDiv,h0],rfl,rfl⟩
 |rem=>simp only[binI,j5,j9,kp,beq_eq_false_iff_ne]at h;obtain⟨h0,rfl⟩:=h;exact⟨_,by simp[binOp,Op.intDiv,h0],rfl,rfl⟩
 |shr=>
  simp only[binI]at h;split at h
  .rename_i h0;simp only[j5,j9,qj]at h;subst h;exact⟨_,Tg t (by simpa using h0),rfl,rfl⟩
  .simp at h
 |and=>simp[binI]at h
 |or=>simp[binI]at h
 |xor=>simp[binI]at h
 |andNot=>simp[binI]at h
 |shl=>simp[binI]at h
 |eql=>simp[binI,cmpI]at h;subst h;exact⟨_,by simp[binOp,Op.intCmp],rfl,rfl⟩
 |neq=>simp[binI,cmpI]at h;subst h;exact⟨_,by simp[binOp,Op.intCmp],rfl,rfl⟩
 |lss=>simp[binI,cmpI]at h;subst h;exact⟨_,by simp[binOp,Op.intCmp],rfl,rfl⟩
 |leq=>simp[binI,cmpI]at h;subst h;exact⟨_,by simp[binOp,Op.intCmp],rfl,rfl⟩
 |gtr=>simp[binI,cmpI]at h;subst h;exact⟨_,by simp[binOp,Op.intCmp],rfl,rfl⟩
 |geq=>simp[binI,cmpI]at h;subst h;exact⟨_,by simp[binOp,Op.intCmp],rfl,rfl⟩
end
def Ky:Ty->Value->Value->Bool->Prop
 |.int k,u,v,b=>∃x y:Int,u = .int k x/\v = .int k y/\b=(x==y)
 |.bool,u,v,b=>∃x y:Bool,u = .bool x/\v = .bool y/\b=(x==y)
 |.str,u,v,b=>∃x y:ByteArray,u = .string x/\v = .string y/\b=(x.toList==y.toList)
 |_,_,_,_=>False
def iz:List Ty->List Value->List Value->Bool->Prop
 |[],[],[],b=>b=true
 |k::ks,u::us,v::vs,b=>∃b1 b2,Ky k u v b1/\iz ks us vs b2/\b=(b1&&b2)
 |_,_,_,_=>False
theorem iz.length:∀{ks:List Ty}{us vs:List Value}{b:Bool},iz ks us vs b->us.length=ks.length/\vs.length=ks.length
 |[],[],[],_,_=>⟨rfl,rfl⟩
 |_::_,_::_,_::_,_,⟨_,_,_,h,_⟩=>by have:=iz.length h;simp[this.1,this.2]
 |[],_::_,_,_,h=>by simp[iz]at h
 |[],[],_::_,_,h=>by simp[iz]at h
 |_::_,[],_,_,h=>by simp[iz]at h
 |_::_,_::_,[],_,h=>by simp[iz]at h
theorem iz.split:∀{k1 k2:List Ty}{us vs:List Value}{b:Bool},iz (k1++k2) us vs b->
  ∃b1 b2,iz k1 (us.take k1.length) (vs.take k1.length) b1/\iz k2 (us.drop k1.length) (vs.drop k1.length) b2/\b=(b1&&b2)
 |[],k2,us,vs,b,h=>⟨true,b,by simp[iz],by simpa using h,by simp⟩
 |k::k1,k2,u::us,v::vs,b,⟨b1,b2,h1,h2,hb⟩=>by
  obtain⟨c1,c2,h3,h4,hc⟩:=iz.split h2;exact⟨b1&&c1,c2,⟨b1,c1,h1,h3,rfl⟩,h4,by rw[hb,hc,Bool.and_assoc]⟩
 |_::_,_,[],_,_,h=>by simp[iz]at h
 |_::_,_,_::_,[],_,h=>by simp[iz]at h
theorem iz.single{k:Ty}{us vs:List Value}{b:Bool}(h:iz [k] us vs b):∃u v,us=[u]/\vs=[v]/\Ky k u v b:=by
 have hl:=h.length;match us,vs,hl with
 |[u],[v],_=>obtain⟨b1,b2,h1,h2,hb⟩:=h;simp only[iz]at h2;subst h2;rw[Bool.and_true]at hb;exact⟨u,v,rfl,rfl,hb▸h1⟩
def qK(P:Program)(t:TypeId)(us:List Value):Value:=
 match P.underlying t with
 |some (.struct _)=> .agg us.toArray
 |_=>us.headD undef
theorem Th{P:Program}{w:World}{t:TypeId}{us:List Value}{o n:Nat}{i:TypeInfo}{d:TypeDesc}(hi:P.info? t=some i)(hn:i.size=n)
  (hd:P.underlying t=some d)(hl:o+n<=us.length)(h1:(∃fs,d = .struct fs)\/((∀fs,d ≠ .struct fs)/\(∀m e,d ≠ .array m e)/\n=1)) :
  (part t us.toArray o).run P w = .ok (qK P t ((us.drop o).take n)) w:=by
 rcases h1 with⟨fs,rfl⟩|⟨h1,h2,rfl⟩
 .simp[part,isAgg,run_underlying hd,sizeOf,typeInfo,hi,hn,qK,hd,List.take_drop]
 .have hv:qK P t ((us.drop o).take 1)=us[o]:=by
   have:(us.drop o).take 1=[us[o]]:=by rw[jb (by omega)];rfl
   unfold qK;rw[this,hd];cases d<;>first|rfl|exact absurd rfl (h1 _)
  have ha:(isAgg t).run P w = .ok false w:=by simp only[isAgg,Sem.run_bind,run_underlying hd,Result.andThen_ok];cases d<;>first|rfl|exact absurd rfl (h1 _)|exact absurd rfl (h2 _ _)
  rw[hv];simp only[part,Sem.run_bind,ha,Result.andThen_ok,q7,zo];rw[show us.toArray[o]? = some us[o] by simp];rfl
theorem Ti(P:Program)(w:World):∀(k:Nat)(t:TypeId)(ks:List Ty),wc P k t=some ks->∀d,k<=d->∀us vs b,iz ks us vs b->
  (Op.equalIn d t (qK P t us) (qK P t vs)).run P w = .ok b w
 |0,_,_,h,_,_,_,_,_,_=>by simp[wc]at h
 |k+1,t,ks,h,d,hd,us,vs,b,he=>by
  obtain⟨d,rfl⟩:∃d',d=d'+1:=⟨d-1,by omega⟩;unfold wc at h;split at h
  .rename_i kk hu;simp at h;subst h;obtain⟨u,v,rfl,rfl,hc⟩:=he.single;obtain⟨x,y,rfl,rfl,hb⟩:=hc;simp[qK,hu,run_equalIn_int w d t _ _ _ _ hu,hb]
  .rename_i hu;simp at h;subst h;obtain⟨u,v,rfl,rfl,hc⟩:=he.single;obtain⟨x,y,rfl,rfl,hb⟩:=hc;simp[qK,hu,run_equalIn_bool' w d t _ _ hu,hb]
  .rename_i hu;simp at h;subst h;obtain⟨u,v,rfl,rfl,hc⟩:=he.single;obtain⟨x,y,rfl,rfl,hb⟩:=hc;simp[qK,hu,run_equalIn_string w d t _ _ hu,hb]
  .rename_i fs hu;split at h
   .simp at h
   rename_i aM;have hf:P.fieldsOf t=fs:=by simp[Program.fieldsOf,hu]
   have fm:∀us:List Value,qK P t us = .agg us.toArray:=λus=>by simp[qK,hu]
   rw[fm,fm,run_equalIn_agg w d t _ _ (by rw[hf];exact hu) (by simpa using aM),hf]
   have key:∀(fl:List Field)(n:Nat)(ks:List Ty),CG P (wc P k) n fl=some ks->∀b,n<=us.length->n<=vs.length->iz ks (us.drop n) (vs.drop n) b->
     (Op.eqFields d us.toArray vs.toArray fl).run P w = .ok b w:=by
    intro fl;induction fl with
    |nil=>intro n ks hk b hnu hnv hc;simp[CG]at hk;subst hk;have hl:=hc.length;have:us.drop n=[]:=kb hl.1;have h':vs.drop n=[]:=kb hl.2;rw[this,h']at hc;simp[iz]at hc;subst hc;rfl
    |cons x fl ih=>
     intro n ks hk b hnu hnv hc;simp only[CG,jc,bne_iff_ne,ne_eq,jo]at hk;split at hk
     .rename_i hx;split at hk
      .rename_i k1 dJ;split at hk
       .rename_i bU;split at hk
        .rename_i k2 ga;simp at hk;subst hk;obtain⟨b1,b2,eG,fg,hb⟩:=hc.split;have hlen:=hc.length;simp only[vi,jg]at hlen;cases hi:P.info? x.type with
         |none=>simp[hi]at bU
         |some i=>
          simp only[hi,qa,j5]at bU
          have xF:∃dd,P.underlying x.type=some dd/\((∃fs,dd = .struct fs)\/((∀fs,dd ≠ .struct fs)/\(∀m e,dd ≠ .array m e)/\k1.length=1)):=by
           cases k with
           |zero=>simp[wc]at dJ
           |succ k=>
            unfold wc at dJ;split at dJ
            .rename_i eJ;simp at dJ;subst dJ;exact⟨_,eJ,.inr ⟨by simp,by simp,rfl⟩⟩
            .rename_i eJ;simp at dJ;subst dJ;exact⟨_,eJ,.inr ⟨by simp,by simp,rfl⟩⟩
            .rename_i eJ;simp at dJ;subst dJ;exact⟨_,eJ,.inr ⟨by simp,by simp,rfl⟩⟩
            .rename_i eJ;exact⟨_,eJ,.inl ⟨_,rfl⟩⟩
            .simp at dJ
          obtain⟨dd,px,oJ⟩:=xF;have s7:=Th (P:=P) (w:=w) (us:=us) (o:=n) hi bU px (by omega) oJ;have xG:=Th (P:=P) (w:=w) (us:=vs) (o:=n) hi bU px (by omega) oJ;have gh:=Ti P w k x.type k1 dJ d (by omega) _ _ b1 eG;simp only[Op.eqFields];rw[if_pos hx.1];simp only[Sem.run_bind,hx.2,s7,Result.andThen_ok,xG,gh,Sem.run_ite];cases b1
          .simp[hb]
          .simp only[jl,q7,zo];rw[hb,yl];refine ih (n+k1.length) k2 ga b2 (by omega) (by omega) ?_;rw[<-List.drop_drop,<-List.drop_drop];exact fg
        .simp at hk
       .simp at hk
      .simp at hk
     .simp at hk
   exact key fs.toList 0 ks h b (by omega) (by omega) (by simpa using he)
  .simp at h
termination_by k=>k
section
variable{S:aP}{w:World}{γ:Nat->Value}{bx:Nat->BS}
theorem jCF{t t':Ty}{x:t.den}{y:t'.den}{b:Bool}{u v:Value}(h:eqT ⟨t,x⟩ ⟨t',y⟩=some b)(hx:Rep S w t x [u])(hy:Rep S w t' y [v])(ht:t'=t):Ky t u v b:=by
 subst ht;cases t' with
 |int k=>simp[eqT]at h;exact⟨x,y,pw hx,pw hy,h.symm⟩
 |bool=>simp[eqT]at h;exact⟨x,y,Kx hx,Kx hy,h.symm⟩
 |str=>simp[eqT]at h;exact⟨x,y,CI hx,CI hy,h.symm⟩
 |_=>simp[eqT]at h
theorem jCG(ks:List Ty):∀{l l':List Leaf}{b:Bool}{us vs:List Value},eqL ks l l'=some b->All2 (bZ S w γ bx) l us->All2 (bZ S w γ bx) l' vs->iz ks us vs b:=by
 induction ks with
 |nil=>
  intro l l' b us vs h h1 h2;cases l with
  |cons _ _=>simp[eqL]at h
  |nil=>
   cases l' with
   |cons _ _=>simp[eqL]at h
   |nil=>
    cases us with
    |cons _ _=>exact h1.elim
    |nil=>cases vs with
     |cons _ _=>exact h2.elim
     |nil=>simp[eqL]at h;simp[iz,h]
 |cons k ks ih=>
  intro l l' b us vs h h1 h2;cases l with
  |nil=>simp[eqL]at h
  |cons l0 l=>
   cases l' with
   |nil=>cases l0<;>simp[eqL]at h
   |cons m0 l'=>
    cases us with
    |nil=>exact h1.elim
    |cons u us=>
     cases vs with
     |nil=>exact h2.elim
     |cons v vs=>
      cases l0 with
      |d t x=>
       cases m0 with
       |d t' y=>
        simp only[eqL]at h;split at h
        .rename_i hk;obtain⟨rfl,rfl⟩:=hk;split at h
         .rename_i b1 eZ;have hc:=jCF eZ h1.1 h2.1 rfl;split at h
          .split at h
           .simp at h;subst h;cases us with
            |nil=>cases vs with
             |nil=>exact⟨b1,true,hc,by simp[iz],by simp⟩
             |cons _ _=>exact h2.2.elim
            |cons _ _=>exact h1.2.elim
           .simp at h
          .split at h
           .rename_i b2 gG;simp at h;subst h;exact⟨b1,b2,hc,ih gG h1.2 h2.2,rfl⟩
           .simp at h
         .simp at h
        .simp at h
       |_=>simp[eqL]at h
      |_=>simp[eqL]at h
theorem Tj{P:Program}{T:Nat->Option TyI}(hT:cO P T){t:TypeId}{l l':List Leaf}{b:Bool}{us vs:Array Value}
  (bk:(vQ (T t)).isEmpty=false)(h:eqL (vQ (T t)) l l'=some b)(h1:All2 (bZ S w γ bx) l us.toList)(h2:All2 (bZ S w γ bx) l' vs.toList) :
  P.eqGuardType P.depth t=false/\(Op.equalIn 10000 t (.agg us) (.agg vs)).run P w = .ok b w:=by
 cases ht:T t with
 |none=>simp[vQ,ht]at bk
 |some ti=>
  simp only[vQ,ht]at bk h;have hc:=jCD hT ht bk;simp only[Ks,jc,jo,kp]at hc;obtain⟨⟨hk,hg⟩,hs⟩:=hc;refine⟨hg,?_⟩;have he:=Ti P w 12 t _ hk 10000 (by omega) us.toList vs.toList b (jCG _ h h1 h2);split at hs
  .rename_i fs hu;simpa[qK,hu]using he
  .simp at hs
end
section
variable{N:NT}{np:Nat}{S0:aP}{w0:World}{refs:Refs}{σ:St}{a:Go.Act}{w:World}{S:aP}{γ:Nat->Value}{bx:Nat->BS}
theorem tZ{k:IntKind}{n:(Ty.int k).den}{u:Value}(h:cd S w γ bx (.one (.d (.int k) n)) u):u = .int k n:=pw (S:=S) (w:=w) h.1
theorem s9{n:Ty.bool.den}{u:Value}(h:cd S w γ bx (.one (.d .bool n)) u):u = .bool n:=Kx (S:=S) (w:=w) h.1
theorem Tk{n:Ty.str.den}{u:Value}(h:cd S w γ bx (.one (.d .str n)) u):u = .string n:=CI (S:=S) (w:=w) h.1
theorem jAa{P:Program}{T:Nat->Option TyI}(hT:cO P T){op:BinOp}{t:TypeId}{x y:Operand}{c c':Cel}{l:Leaf}{u v:Value}
  (h:binC (T t) op c c'=some (true,l))(hc:cd S w γ bx c u)(dq:cd S w γ bx c' v) :
  ∃z,(do eqGuard op t x y u v;binOp op t u v:Sem Value).run P w = .ok z w/\bZ S w γ bx l z/\One z:=by
 unfold binC at h;split at h
 .rename_i k p k' q;have hu:=tZ hc;have hv:=tZ dq;subst hu hv;split at h
  .rename_i hk;subst hk;obtain⟨z,hz,hl,h1⟩:=jA9 (P:=P) (w:=w) (S:=S) (γ:=γ) (bx:=bx) t h;exact⟨z,by simp only[Sem.run_bind,Td,Result.andThen_ok,hz],hl,h1⟩
  .split at h
   .split at h
    .rename_i h0;simp only[j5,j9,qj]at h;subst h;exact⟨_,by simp only[Sem.run_bind,Td,Result.andThen_ok,Tg t (by simpa using h0)],rfl,rfl⟩
    .simp at h
   .simp at h
 .rename_i p q;have hu:=s9 hc;have hv:=s9 dq;subst hu hv;split at h
  .rename_i hb
   have we:P.underlying t=some .bool:=by
    unfold SQ at hb;split at hb
    .rename_i ti wg;obtain⟨i,d,hi,hd,_,_,_,_,hh⟩:=nf hT wg;have:=(hh _ (by simpa using hb)).2.2;cases d<;>simp_all[lu,Ty.agg]
    .simp at hb
   split at h
   .simp only[j5,j9,qj]at h;subst h;refine⟨.bool (p==q),?_,rfl,rfl⟩;simp only[Sem.run_bind,Te,Result.andThen_ok,binOp];simp only[Op.equal,Op.maxDepth,run_equalIn_bool' w 9999 t p q we,Result.andThen_ok,Sem.run_pure]
   .simp only[j5,j9,qj]at h;subst h;refine⟨.bool (!(p==q)),?_,rfl,rfl⟩;simp only[Sem.run_bind,Te,Result.andThen_ok,binOp];simp only[Op.equal,Op.maxDepth,run_equalIn_bool' w 9999 t p q we,Result.andThen_ok,Sem.run_pure]
   .simp at h
  .simp at h
 .rename_i p q;have hu:=Tk hc;have hv:=Tk dq;subst hu hv;split at h
  .simp only[j5,j9,qj]at h;subst h;exact⟨_,by simp only[Sem.run_bind,Tf,Result.andThen_ok,binOp,Op.stringOp,Sem.run_pure],rfl,rfl⟩
  .simp only[j5,j9,qj]at h;subst h;exact⟨_,by simp only[Sem.run_bind,Tf,Result.andThen_ok,binOp,Op.stringOp,Sem.run_pure],rfl,rfl⟩
  .simp at h
 .rename_i p q;obtain⟨us,rfl,h1,_⟩:=hc;obtain⟨vs,rfl,h2,_⟩:=dq;split at h
  .simp at h
  rename_i bk;have bk:(vQ (T t)).isEmpty=false:=by simpa using bk
  split at h
  .split at h
   .rename_i b hb;simp only[j5,j9,qj]at h;subst h;obtain⟨hg,he⟩:=Tj hT bk hb h1 h2;exact⟨_,by simp only[Sem.run_bind,run_eqGuard_agg w .eql t x y us vs hg,Result.andThen_ok,run_eql_struct,he],rfl,rfl⟩
   .simp at h
  .split at h
   .rename_i b hb;simp only[j5,j9,qj]at h;subst h;obtain⟨hg,he⟩:=Tj hT bk hb h1 h2;exact⟨_,by simp only[Sem.run_bind,run_eqGuard_agg w .neq t x y us vs hg,Result.andThen_ok,run_neq_struct,he],rfl,rfl⟩
   .simp at h
  .simp at h
 .simp at h
theorem jCH{P:Program}{op:UnOp}{c:Cel}{l:Leaf}{u:Value}(h:unC op c=some l)(hc:cd S w γ bx c u) :
  ∃z,(Op.unary op u).run P w = .ok z w/\bZ S w γ bx l z/\One z:=by
 unfold unC at h;split at h
 .have hu:=s9 hc;subst hu;split at h
  .simp at h;subst h;exact⟨_,by simp[Op.unary],rfl,rfl⟩
  .simp at h
 .have hu:=tZ hc;subst hu;split at h
  .simp at h;subst h;exact⟨_,by simp[Op.unary,Op.intArith],rfl,rfl⟩
  .simp at h
 .simp at h
theorem jCI{P:Program}{cs:List Cel}{l:Leaf}{us:List Value}{ts:Array TypeId}{ty:TypeId}(h:minC cs=some l)(hc:All2 (cd S w γ bx) cs us) :
  ∃z,(Builtin.min_ ts ty us.toArray).run P w = .ok z w/\bZ S w γ bx l z/\One z:=by
 unfold minC at h;split at h
 .rename_i k p k' q;match us,hc with
  |[u,v],⟨h1,h2,_⟩=>
   have hu:=tZ h1;have hv:=tZ h2;subst hu hv;split at h
   .simp at h;subst h;exact⟨_,by simp[Builtin.min_,Builtin.min2],rfl,rfl⟩
   .simp at h
 .simp at h
theorem jCJ{P:Program}{cs:List Cel}{l:Leaf}{us:List Value}{ts:Array TypeId}{ty:TypeId}(h:maxC cs=some l)(hc:All2 (cd S w γ bx) cs us) :
  ∃z,(Builtin.max_ ts ty us.toArray).run P w = .ok z w/\bZ S w γ bx l z/\One z:=by
 unfold maxC at h;split at h
 .rename_i k p k' q;match us,hc with
  |[u,v],⟨h1,h2,_⟩=>
   have hu:=tZ h1;have hv:=tZ h2;subst hu hv;split at h
   .simp at h;subst h;exact⟨_,by simp[Builtin.max_,Builtin.max2],rfl,rfl⟩
   .simp at h
 .simp at h
theorem qL:∀(t:Ty)(v:t.den)(cs:List Value),Rep S w t v cs->All2 (λx z=>Rep S w x.t x.v [z]) (scat t v) cs
 |.int k,v,cs,h=>by rw[h];exact⟨rfl,trivial⟩
 |.bool,v,cs,h=>by rw[h];exact⟨rfl,trivial⟩
 |.str,v,cs,h=>by rw[h];exact⟨rfl,trivial⟩
 |.unit,v,cs,h=>by rw[h];exact trivial
 |.wrap a,v,cs,h=>qL a v cs h
 |.pair a b,v,cs,⟨c1,c2,e,h1,h2⟩=>by rw[e];exact(qL a v.1 c1 h1).append (qL b v.2 c2 h2)
 |.list a,v,cs,h=>by
  obtain⟨ad,cap,e,h'⟩:=h;subst e;exact⟨⟨ad,cap,rfl,h'⟩,trivial⟩
 |.arr n a,v,cs,⟨hn,css,ha,e⟩=>by
  have key:∀(xs:List a.den)(css:List (List Value)),All2 (λx c=>Rep S w a x c) xs css->
    All2 (λx z=>Rep S w x.t x.v [z]) (xs.flatMap (scat a)) css.flatten:=by
   intro xs;induction xs with
   |nil=>intro css h;cases css with|nil=>exact trivial|cons _ _=>exact h.elim
   |cons x xs ih=>
    intro css h;cases css with
    |nil=>exact h.elim
    |cons c css=>exact(qL a x c h.1).append (ih css h.2)
  have hw:∀l:List a.den,(List.range l.length).flatMap (λi=>scat a (l.getD i a.dflt))=l.flatMap (scat a):=by
   intro l;induction l with
   |nil=>rfl
   |cons x l ih=>rw[jm,List.range_succ_eq_map,qz,List.flatMap_map];simp only[qz];congr 1
  have hm:∀(l:List a.den)(m:Nat),l.length=m->(List.range m).flatMap (λi=>scat a (l.getD i a.dflt))=l.flatMap (scat a):=by intro l m hl;subst hl;exact hw l
  have he:scat (.arr n a) v=List.flatMap (scat a) v:=hm v n hn;rw[e,he];exact key v css ha
theorem tc:∀{xs:List TV}{cs:List Value},All2 (λx z=>Rep S w x.t x.v [z]) xs cs->All2 (bZ S w γ bx) (xs.map TV.leaf) cs:=
 λh=>All2.map_left.2 h
theorem Kz(t:Ty)(v:t.den)(cs:List Value)(u:Value)(h:Rep S w t v cs)(hu:(t.agg=true\/∃n a,t = .arr n a)->u = .agg cs.toArray)(eJ:t.agg=false->(∀n a,t ≠ .arr n a)->cs=[u]) :
  cd S w γ bx (oH t v) u:=by
 cases t with
 |int k=>have:=eJ rfl (by simp);subst this;exact⟨h,λ_=>Rep.one _ _ _ h u (by simp)⟩
 |bool=>have:=eJ rfl (by simp);subst this;exact⟨h,λ_=>Rep.one _ _ _ h u (by simp)⟩
 |str=>have:=eJ rfl (by simp);subst this;exact⟨h,λ_=>Rep.one _ _ _ h u (by simp)⟩
 |list a=>have:=eJ rfl (by simp);subst this;exact⟨h,λ_=>Rep.one _ _ _ h u (by simp)⟩
 |unit=>have:=hu (.inl rfl);subst this;exact⟨_,rfl,by simpa using tc (qL _ v cs h),by simpa using Rep.one _ _ _ h⟩
 |wrap a=>have:=hu (.inl rfl);subst this;exact⟨_,rfl,by simpa using tc (qL _ v cs h),by simpa using Rep.one _ _ _ h⟩
 |pair a b=>have:=hu (.inl rfl);subst this;exact⟨_,rfl,by simpa using tc (qL _ v cs h),by simpa using Rep.one _ _ _ h⟩
 |arr n a=>have:=hu (.inr ⟨n,a,rfl⟩);subst this;exact⟨_,rfl,by simpa using h⟩
theorem jxi{g o:Nat}{cs:List Value}(h:∀j v,cs[j]? = some v->w.cell? ⟨g,o+j,none⟩=some v)(P:Program) :
  (loadCells ⟨g,o,none⟩ cs.length).run P w = .ok cs.toArray w:=
 run_loadCells_list (P:=P) w ⟨g,o,none⟩ cs (λj v hv=>by rw[Addr.add_lit];exact h j v hv)
theorem jvO{P:Program}{T:Nat->Option TyI}(hT:cO P T){t:TypeId}{ti:TyI}(ht:T t=some ti){ls:List Leaf}{c:Cel}(h:tO ti ls=some c)
  {g o:Nat}{cs:List Value}(hr:All2 (bZ S w γ bx) ls cs)(h1:∀u∈cs,One u)(hl:∀j v,cs[j]? = some v->w.cell? ⟨g,o+j,none⟩=some v) :
  ∃u,(loadVar t ⟨g,o,none⟩).run P w = .ok u w/\cd S w γ bx c u:=by
 unfold tO at h;split at h
 .rename_i ha;split at h
  .rename_i hlen;simp at h;subst h;refine⟨.agg cs.toArray,?_,cs.toArray,rfl,by simpa using hr,by simpa using h1⟩;have hs:=jxi (w:=w) hl P;rw[<-hr.length,hlen]at hs;simp only[loadVar,Sem.run_bind,AS hT ht,ha,Result.andThen_ok,if_true,kJ hT ht,hs,Sem.run_pure]
  .simp at h
 .rename_i ha;split at h
  .simp at h;subst h;match cs,hr with
   |[u],⟨hr,_⟩=>refine⟨u,?_,hr,λ_=>h1 u (by simp)⟩;have dK:=hl 0 u rfl;simp only[loadVar,Sem.run_bind,AS hT ht,Result.andThen_ok,if_neg ha,run_load];rw[Nat.add_zero]at dK;simp[dK]
  .simp at h
end
theorem xH{α:Type}{R:α->List Value->Prop}{m:Nat}(hm:∀x c,R x c->c.length=m) :
  ∀{xs:List α}{css:List (List Value)},All2 R xs css->∀(i:Nat)(d:α),i<xs.length->
   ∃c,css[i]? = some c/\R (xs.getD i d) c/\∀(j:Nat)(v:Value),c[j]? = some v->css.flatten[i*m+j]? = some v
 |[],_,_,i,d,hi=>by simp at hi
 |x::xs,c::css,h,0,d,_=>⟨c,by simp,by simpa using h.1,λj v hv=>by
  have hj:j<c.length:=(jx.1 hv).1;simp[List.getElem?_append_left hj,hv]⟩
 |x::xs,c::css,h,i+1,d,hi=>by
  obtain⟨c',h1,h2,h3⟩:=xH hm h.2 i d (by simpa using hi);refine⟨c',by simpa using h1,by simpa using h2,λj v hv=>?_⟩;have hl:=hm _ _ h.1;rw[kx,kj (by rw[hl,yd];omega),hl];have:(i+1)*m+j-m=i*m+j:=by rw[yd];omega
  rw[this];exact h3 j v hv
 |_::_,[],h,_,_,_=>h.elim
section
variable{N:NT}{np:Nat}{S0:aP}{w0:World}{refs:Refs}{σ:St}{a:Go.Act}{w:World}{S:aP}{γ:Nat->Value}
def RdR(σ:St)(rd:Nat->BS):Prop:=∀k,rd k=σ.bx k\/rd k = .gone
theorem RdR.live{rd:Nat->BS}(h:RdR σ rd){k:Nat}{b:Bx}(hk:rd k = .live b):σ.bx k = .live b:=by
 rcases h k with h|h
 .rw[<-h,hk]
 .rw[h]at hk;simp at hk
theorem RdR.free{rd:Nat->BS}(h:RdR σ rd){k:Nat}(hk:iO (rd k)=true):σ.bx k = .free:=by
 rcases h k with h|h
 .rw[<-h];revert hk;cases rd k<;>simp[iO]
 .rw[h]at hk;simp[iO]at hk
def NoM(rd:Nat->BS):Prop:=∀(k e:Nat)(a:Ty)(xs:List a.den)(f:Bool),rd k = .live (.lst e a xs f)->isM e=false
def RdOk(σ:St)(rd:Nat->BS):Prop:=RdR σ rd/\NoM rd
theorem RdOk.live{rd:Nat->BS}(h:RdOk σ rd){k:Nat}{b:Bx}(hk:rd k = .live b):σ.bx k = .live b:=h.1.live hk
theorem RdOk.free{rd:Nat->BS}(h:RdOk σ rd){k:Nat}(hk:iO (rd k)=true):σ.bx k = .free:=h.1.free hk
theorem RdOk.nm{rd:Nat->BS}(h:RdOk σ rd){k e:Nat}{a:Ty}{xs:List a.den}{f:Bool}(hk:rd k = .live (.lst e a xs f)):isM e=false:=h.2 k e a xs f hk
theorem jxj{rd:Nat->BS}{k:Nat}{b:Bx}(h:mskM rd k = .live b):rd k = .live b/\∀(e:Nat)(a:Ty)(xs:List a.den)(f:Bool),b = .lst e a xs f->isM e=false:=by
 unfold mskM at h;split at h
 .rename_i e a xs f hk;split at h
  .simp at h
  .rename_i hm;rw[hk,h];refine⟨rfl,λe' a' dg f' hb=>?_⟩;simp only[BS.live.injEq]at h;rw[<-h]at hb;cases hb;simpa using hm
 .rename_i bk;refine⟨h,λe a xs f hb=>?_⟩;subst hb;exact absurd h (bk e a xs f)
theorem Tl{rd:Nat->BS}(k:Nat):mskM rd k=rd k\/mskM rd k = .gone:=by
 unfold mskM;split
 .rename_i e a xs f hk;split
  .exact .inr rfl
  .exact .inl hk.symm
 .exact .inl rfl
theorem jCK(rd:Nat->BS):NoM (mskM rd):=λk e a xs f h=>(jxj h).2 e a xs f rfl
theorem RdR.msk{rd:Nat->BS}(h:RdR σ rd):RdOk σ (mskM rd):=
 ⟨λk=>(Tl (rd:=rd) k).elim (λe=>(h k).imp (e.trans ·) (e.trans ·)) .inr,jCK rd⟩
theorem jAb(hR:Rel N np S0 w0 refs σ a w S γ){k e:Nat}{t:Ty}{xs:List t.den}{frz:Bool}(hk:σ.bx k = .live (.lst e t xs frz))
  {g cap:Nat}(hg:γ k = .slice (some ⟨g,0,none⟩) xs.length cap){i:Nat}(hi:i<xs.length) :
  ∃cs,Rep S w t (xs.getD i t.dflt) cs/\∀(j:Nat)(v:Value),cs[j]? = some v->w.cell? ⟨g,i*t.size+j,none⟩=some v:=by
 obtain⟨css,aU,ha,_⟩:=GY hg (hR.box k _ hk);obtain⟨c,h1,h2,h3⟩:=xH (λx c hx=>Rep.length t x c hx) ha i t.dflt hi;refine⟨c,h2,λj v hv=>?_⟩;have:=aU.cells (g:=g) (by rw[hg];rfl) (i*t.size+j) v (h3 j v hv);rwa[Addr.add_lit,kg]at this
theorem jAc(hR:Rel N np S0 w0 refs σ a w S γ){k n:Nat}{t:Ty}{xs:List t.den}(hk:σ.bx k = .live (.arr n t xs))
  {g:Nat}(hg:γ k = .pointer (some ⟨g,0,none⟩)){i:Nat}(hi:i<n) :
  ∃cs,Rep S w t (xs.getD i t.dflt) cs/\∀(j:Nat)(v:Value),cs[j]? = some v->w.cell? ⟨g,i*t.size+j,none⟩=some v:=by
 obtain⟨g',cur,e,ar,hh,⟨hn,css,ha,he⟩,_⟩:=hR.box k _ hk;rw[hg]at ar;simp at ar;subst ar;obtain⟨c,h1,h2,h3⟩:=xH (λx c hx=>Rep.length t x c hx) ha i t.dflt (by rw[hn];exact hi);refine⟨c,h2,λj v hv=>?_⟩;have:=h3 j v hv;rw[<-he]at this;rw[cell_of_row w g _ cur e (0,0) hh];simpa using this
theorem G1{l:List Value}{c n j:Nat}{v:Value}(h:((l.drop c).take n)[j]? = some v):l[c+j]? = some v:=by
 rw[zf]at h;split at h
 .rwa[List.getElem?_drop]at h
 .simp at h
theorem KA{l:List Value}{c n:Nat}{P:Value->Prop}(h:∀u∈l,P u):∀u∈(l.drop c).take n,P u:=
 λu hu=>h u (zm (qe hu))
theorem Tm{P:Program}{E:Env}(hT:cO P E.T)(hR:Rel N np S0 w0 refs σ a w S γ){rd:Nat->BS}(bc:RdOk σ rd){t:TypeId}{ti:TyI}(ht:E.T t=some ti)
  {x:Leaf}{c:Cel}{u:Value}(h:ru rd ti x=some c)(hx:bZ S w γ σ.bx x u) :
  ∃z,(Instr.loadAt t u).run P w = .ok z w/\cd S w γ σ.bx c z:=by
 have fin:∀(g o:Nat)(ls:List Leaf)(cs:List Value),u = .pointer (some ⟨g,o,none⟩)->tO ti ls=some c->All2 (bZ S w γ σ.bx) ls cs->(∀u∈cs,One u)->
   (∀(j:Nat)(v:Value),cs[j]? = some v->w.cell? ⟨g,o+j,none⟩=some v)->∃z,(Instr.loadAt t u).run P w = .ok z w/\cd S w γ σ.bx c z:=by
  intro g o ls cs hu hm hr h1 hl;obtain⟨z,hz,hc⟩:=jvO (P:=P) hT ht hm hr h1 hl;exact⟨z,by subst hu;simp only[Instr.loadAt,Sem.run_bind,Instr.sureAddr,Sem.run_pure,Result.andThen_ok,hz],hc⟩
 cases x with
 |bp k o=>
  obtain⟨_,_,hb⟩:=hx;simp only[ru]at h;split at h
  .rename_i ls frz hk;have hk:=bc.live hk;obtain⟨g,hg,hu⟩:=hb _ hk;obtain⟨g',cur,e,ar,hh,ha,h1,_⟩:=hR.box k _ hk;rw[hg]at ar;simp at ar;subst ar;refine fin g o _ (((cur.toList.take ls.length).drop o).take ti.size) hu h ((ha.drop o).take ti.size) (KA h1) (λj v hv=>?_);rw[cell_of_row w g _ cur e (0,0) hh];have hv:=G1 hv;rw[zf]at hv;split at hv
   .simpa using hv
   .simp at hv
  .rename_i n el xs hk;split at h
   .rename_i hc;obtain⟨rfl,bR⟩:=hc;simp at h;subst h;have hk:=bc.live hk;obtain⟨g,hg,hu⟩:=hb _ hk;obtain⟨g',cur,e,ar,hh,bS,_⟩:=hR.box k _ hk;rw[hg]at ar;simp at ar;subst ar;obtain⟨hud,_,_⟩:=G0 hT ht bR;obtain⟨i,d,hi,hd,hs,_,nK,_,G2⟩:=nf hT ht;have bU:cur.size=ti.size:=by have:=Rep.length _ _ _ bS;rw[nJ hT ht bR]at this;simpa using this
    refine⟨.agg cur,?_,cur,rfl,bS⟩;subst hu;have:=run_loadVar_row (P:=P) w g e t cur (0,0) d hh hd (by rw[hud]at hd;cases hd;rfl) (by rw[hi];simp[hs,bU]);simp only[Instr.loadAt,Sem.run_bind,Instr.sureAddr,Sem.run_pure,Result.andThen_ok,this]
   .simp at h
  .simp at h
 |ep k i o=>
  obtain⟨_,_,hb⟩:=hx;simp only[ru]at h;split at h
  .rename_i e el xs frz hk;have hk:=bc.live hk;obtain⟨_,hi,g,cap,hg,hu⟩:=hb _ hk;obtain⟨cs,bS,dK⟩:=jAb hR hk hg hi;refine fin g _ _ ((cs.drop o).take ti.size) hu h (((tc (qL el _ cs bS)).drop o).take ti.size) (KA (Rep.one _ _ _ bS)) (λj v hv=>?_);rw[Nat.add_assoc];exact dK _ v (G1 hv)
  .rename_i n el xs hk;have hk:=bc.live hk;obtain⟨hi,g,hg,hu⟩:=hb _ hk;obtain⟨cs,bS,dK⟩:=jAc hR hk hg hi;refine fin g _ _ ((cs.drop o).take ti.size) hu h (((tc (qL el _ cs bS)).drop o).take ti.size) (KA (Rep.one _ _ _ bS)) (λj v hv=>?_);rw[Nat.add_assoc];exact dK _ v (G1 hv)
  .simp at h
 |ip ls=>
  obtain⟨g,o,cs,hu,ha,hl⟩:=hx;simp only[ru]at h;refine fin g o _ (cs.take ti.size) hu h ((tc ha).take ti.size) (λu hu=>?_) (λj v hv=>?_)
  .obtain⟨x,_,hx⟩:=ha.mem_right u (qe hu);exact Rep.one _ _ _ hx u (by simp)
  .rw[zf]at hv;split at hv
   .exact(hl j v hv).2
   .simp at hv
 |_=>simp[ru]at h
theorem jnq{P:Program}{T:Nat->Option TyI}(hT:cO P T){f:Field}{tf:TyI}(hf:T f.type=some tf)(hs:0<tf.size)(g o:Nat) :
  (fieldPlace ⟨g,o,none⟩ f).run P w = .ok ⟨g,o+f.offset,none⟩ w:=by
 have h0:tf.size≠0:=by omega
 simp only[fieldPlace,Sem.run_bind,kJ hT hf,Result.andThen_ok,Sem.run_ite,if_neg h0,Sem.run_pure,Addr.add_lit]
theorem CJ{rd:Nat->BS}{k:Nat}(h:isLive (rd k)=true):∃b,rd k = .live b:=by
 revert h
 cases rd k<;>simp[isLive]
theorem jvP{P:Program}{E:Env}(hT:cO P E.T){rd:Nat->BS}(bc:RdOk σ rd){t:TypeId}{ti:TyI}(ht:E.T t=some ti){i:Nat}{x l:Leaf}{u:Value}
  (h:qD rd ti i x=some l)(hx:bZ S w γ σ.bx x u) :
  ∃z,(Instr.fieldAt t u i).run P w = .ok z w/\bZ S w γ σ.bx l z/\One z:=by
 have fin:∀(g o:Nat)(f:Nat×Nat),u = .pointer (some ⟨g,o,none⟩)->ti.flds[i]? = some f->
   (Instr.fieldAt t u i).run P w = .ok (.pointer (some ⟨g,o+f.1,none⟩)) w:=by
  intro g o f hu hf;obtain⟨fs,hd,fl,fk,ua,bR,tf,rC,hs⟩:=Tc hT ht hf;subst hu;simp only[Instr.fieldAt,Sem.run_bind,run_underlying hd,Result.andThen_ok,fk,Instr.sureAddr,Sem.run_pure,jnq hT (bR▸rC) hs,ua]
 cases x with
 |bp k o=>
  obtain⟨ir,_,hb⟩:=hx;simp only[qD]at h;split at h
  .rename_i f hf;split at h
   .rename_i hl;simp at h;subst h;obtain⟨b,hk⟩:=CJ hl;obtain⟨g,hg,hu⟩:=hb b (bc.live hk);exact⟨_,fin g o f hu hf,⟨ir,rfl,λb' aT=>by obtain⟨g',ar,eJ⟩:=hb b' aT;rw[hu]at eJ;simp at eJ;subst eJ;exact⟨g,ar,rfl⟩⟩,rfl⟩
   .simp at h
  .simp at h
 |ep k j o=>
  obtain⟨ir,_,hb⟩:=hx;simp only[qD]at h;split at h
  .rename_i f hf;split at h
   .rename_i hl;simp at h;subst h;obtain⟨b,hk⟩:=CJ hl;have h0:=hb b (bc.live hk);have dL:=bc.live hk;cases b with
    |cell _ _=>exact h0.elim
    |lst e el xs frz=>obtain⟨cb,hi,g,cap,hg,hu⟩:=h0;refine⟨_,fin g _ f hu hf,⟨ir,rfl,λb' aT=>?_⟩,rfl⟩;rw[dL]at aT;cases aT;exact⟨cb,hi,g,cap,hg,by rw[Nat.add_assoc]⟩
    |arr n el xs=>obtain⟨hi,g,hg,hu⟩:=h0;refine⟨_,fin g _ f hu hf,⟨ir,rfl,λb' aT=>?_⟩,rfl⟩;rw[dL]at aT;cases aT;exact⟨hi,g,hg,by rw[Nat.add_assoc]⟩
   .simp at h
  .simp at h
 |ip ls=>
  obtain⟨g,o,cs,hu,ha,hl⟩:=hx;simp only[qD]at h;split at h
  .rename_i f hf;simp at h;subst h;refine⟨_,fin g o f hu hf,⟨g,o+f.1,cs.drop f.1,rfl,ha.drop f.1,λj v hv=>?_⟩,rfl⟩;rw[List.getElem?_drop]at hv;have:=hl _ v hv;rwa[<-Nat.add_assoc]at this
  .simp at h
 |_=>simp[qD]at h
theorem AU{i:Int}{n:Nat}:inR i n=true↔0<=i/\i<n:=by simp[inR]
theorem KB{P:Program}{T:Nat->Option TyI}(hT:cO P T){t:TypeId}{ti:TyI}(ht:T t=some ti){a':Ty}{k:IntKind}{i:Int}{len cap g o:Nat}(bR:ti.ty=some (.list a'))(hi:0<=i/\i<len) :
  (Instr.indexAt t (.slice (some ⟨g,o,none⟩) len cap) (.int k i)).run P w = .ok (.pointer (some ⟨g,o+i.toNat*a'.size,none⟩)) w:=by
 obtain⟨hd,_,te,c9,cV⟩:=oI hT ht bR;have hs:=nJ hT c9 cV;simp only[Instr.indexAt,asIntOf,Sem.run_bind,Sem.run_pure,Result.andThen_ok,run_underlying hd,Sem.run_ite,if_pos hi,kJ hT c9,hs,Addr.add_lit]
theorem jqX{P:Program}{T:Nat->Option TyI}(hT:cO P T){t:TypeId}{ti:TyI}(ht:T t=some ti){n:Nat}{a':Ty}{k:IntKind}{i:Int}{g o:Nat}(bR:ti.ty=some (.arr n a'))(hi:0<=i/\i<n) :
  (Instr.indexAt t (.pointer (some ⟨g,o,none⟩)) (.int k i)).run P w = .ok (.pointer (some ⟨g,o+i.toNat*a'.size,none⟩)) w:=by
 obtain⟨hd,_,te,c9,cV⟩:=G0 hT ht bR;have hs:=nJ hT c9 cV;simp only[Instr.indexAt,asIntOf,Sem.run_bind,Sem.run_pure,Result.andThen_ok,run_underlying hd,Instr.sureAddr,Sem.run_ite,if_pos hi,kJ hT c9,hs,Addr.add_lit]
theorem Tn{t:Option Ty}(h:tP t=true):∃a,t=some (.list a):=by
 unfold tP at h;split at h
 .exact⟨_,rfl⟩
 .simp at h
theorem jvQ{P:Program}{E:Env}(hT:cO P E.T)(hR:Rel N np S0 w0 refs σ a w S γ){rd:Nat->BS}(bc:RdOk σ rd){t:TypeId}{ti:TyI}(ht:E.T t=some ti)
  {x y l:Leaf}{u v:Value}(h:tQ rd ti x y=some (true,l))(hx:bZ S w γ σ.bx x u)(hy:bZ S w γ σ.bx y v) :
  ∃z,(Instr.indexAt t u v).run P w = .ok z w/\bZ S w γ σ.bx l z/\One z:=by
 unfold tQ at h;split at h
 .rename_i k kd i;have hv:v = .int kd i:=pw (S:=S) (w:=w) hy;subst hv;split at h
  .rename_i e el xs frz hk;split at h
   .rename_i bR;simp only[j5,j9]at h;obtain⟨hi,rfl⟩:=h;have bj:=AU.1 hi;have cb:=bc.nm hk;have hk:=bc.live hk;have hu:=hx.2.2 _ hk;obtain⟨css,aU,_⟩:=jH cb (hR.box k _ hk);rcases aU.2 with⟨_,hz⟩|⟨g,cap,cur,hg,_,hh,_⟩
    .omega
    .rw[hu,hg];refine⟨_,KB hT ht bR bj,⟨hx.1,rfl,λb hb=>?_⟩,rfl⟩;rw[hk]at hb;cases hb;exact⟨cb,by omega,g,cap,hg,by simp⟩
   .simp at h
  .simp at h
 .rename_i el xs kd i;have hv:v = .int kd i:=pw (S:=S) (w:=w) hy;subst hv;split at h
  .rename_i bR;simp only[j5,j9]at h;obtain⟨hi,rfl⟩:=h;have bj:=AU.1 hi;obtain⟨ad,cap,hu,hle,lv,hn,hb⟩:=hx;simp at hu;subst hu;cases ad with
   |none=>have:=hn rfl;omega
   |some b=>obtain⟨dQ,css,ha,hl⟩:=hb b rfl;obtain⟨g,o,sp⟩:=b;have dQ:=dQ (λe=>by rw[e]at bj;simp at bj;omega);simp at dQ;subst dQ;refine⟨_,KB hT ht bR bj,?_,rfl⟩;obtain⟨c,h1,h2,h3⟩:=xH (λx c hx=>Rep.length el x c hx) ha i.toNat el.dflt (by omega);exact⟨g,_,c,rfl,qL el _ c h2,λj v hv=>by rw[Nat.add_assoc];exact hl _ v (h3 j v hv)⟩
  .simp at h
 .rename_i k kd i;have hv:v = .int kd i:=pw (S:=S) (w:=w) hy;subst hv;split at h
  .rename_i n el xs hk;split at h
   .rename_i bR;simp only[j5,j9]at h;obtain⟨hi,rfl⟩:=h;have bj:=AU.1 hi;have hk:=bc.live hk;obtain⟨g,hg,hu⟩:=hx.2.2 _ hk;subst hu;refine⟨_,jqX hT ht bR bj,⟨hx.1,rfl,λb hb=>?_⟩,rfl⟩;rw[hk]at hb;cases hb;exact⟨by omega,g,hg,by simp⟩
   .simp at h
  .simp at h
 .rename_i k j kd i;have hv:v = .int kd i:=pw (S:=S) (w:=w) hy;subst hv;split at h
  .rename_i e el xs frz hk;split at h
   .rename_i bR;simp only[j5,j9]at h;obtain⟨hi,rfl⟩:=h;have bj:=AU.1 hi;have cb:=bc.nm hk;have hk:=bc.live hk;obtain⟨_,hj,ad,gH,ar,hu⟩:=hx.2.2 _ hk;obtain⟨css,aU,_⟩:=jH cb (hR.box k _ hk);rcases aU.2 with⟨_,hz⟩|⟨g,cap,cur,hg,_,hh,jI,_⟩
    .omega
    .rw[hg]at ar;simp only[Value.slice.injEq,qj]at ar;obtain⟨rfl,rfl⟩:=ar;rw[if_neg (show¬cap=j by omega)]at hu;simp only[qa,Addr.add_lit,kg]at hu;subst hu;refine⟨_,KB hT ht bR bj,⟨hx.1,rfl,λb hb=>?_⟩,rfl⟩;rw[hk]at hb;cases hb;refine⟨cb,by omega,g,cap,hg,?_⟩;simp[Nat.add_mul]
   .simp at h
  .simp at h
 .simp at h
theorem KC{P:Program}{T:Nat->Option TyI}(hT:cO P T){n:Nat}{ti:TyI}(hn:T n=some ti)(ht:ti.ty=some .str):P.underlying n=some .string:=by
 obtain⟨i,d,hi,hd,hs,_,ha,_,h⟩:=nf hT hn;have:=(h _ ht).2.2;cases d<;>simp_all[lu,Ty.agg]
theorem jxl{P:Program}{E:Env}(hT:cO P E.T){t:Nat}{ti:TyI}(ht:E.T t=some ti)(bR:ti.ty=some .str)(s:ByteArray)(kd:IntKind)(j:Int)(hj:inR j s.size=true) :
  (Instr.index t (.string s) (.int kd j)).run P w = .ok (.int .u8 (dn s j)) w:=by
 have hd:=KC hT ht bR;have hi:=AU.1 hj;have ak:j.toNat<s.size:=by omega
 have gi:j.toNat<s.data.size:=ak;have hg:s[j.toNat]? = some s[j.toNat]:=by simp[ak]
 simp only[Instr.index,Sem.run_bind,asIntOf,Sem.run_pure,Result.andThen_ok,run_underlying hd];rw[if_pos hi.1,hg];simp only[Sem.run_pure];congr 2;unfold dn;have:s.data.getD j.toNat 0=s.data[j.toNat]:=by rw[zq,ju gi];rfl
 rw[this];rfl
theorem jAd{P:Program}{E:Env}(hT:cO P E.T){bx:Nat->BS}{t:TypeId}{ti:TyI}(ht:E.T t=some ti)
  {c c':Cel}{y:Leaf}{u v:Value}(h:idxV ti c y=some (true,c'))(hc:cd S w γ bx c u)(hy:bZ S w γ bx y v) :
  ∃z,(Instr.index t u v).run P w = .ok z w/\cd S w γ bx c' z:=by
 unfold idxV at h;split at h
 .rename_i n el xs kd i;have hv:v = .int kd i:=pw (S:=S) (w:=w) hy;subst hv;split at h
  .rename_i bR;simp only[j5,j9]at h;obtain⟨hi,rfl⟩:=h;have bj:=AU.1 hi;obtain⟨cs,rfl,hn,css,ha,he⟩:=hc;obtain⟨hd,bJ,te,c9,cV⟩:=G0 hT ht bR;have bU:=nJ hT c9 cV;obtain⟨c,h1,h2,h3⟩:=xH (λx c hx=>Rep.length el x c hx) ha i.toNat el.dflt (by omega);have eM:=Rep.length el _ c h2
   have hex:∀j,j<te.size->cs.toList[i.toNat*el.size+j]? = c[j]? := by
    intro j hj;rw[he];have:c[j]? = some c[j]:=jk (by omega);rw[this];exact h3 j _ this
   obtain⟨ii,dd,hii,px,_,_,nK,_,gx⟩:=nf hT c9
   have rE:∃z,(part ti.elem cs (i.toNat*te.size)).run P w = .ok z w/\cd S w γ bx (oH el (xs.getD i.toNat el.dflt)) z:=by
    have eN:=(gx _ cV).2.2;rw[<-bU];by_cases nL:te.agg=true
    .refine⟨.agg (cs.extract (i.toNat*el.size) (i.toNat*el.size+te.size)),?_,?_⟩
     .simp only[part,Sem.run_bind,AS hT c9,nL,Result.andThen_ok,if_true,kJ hT c9,Sem.run_pure]
     .have nM:(cs.extract (i.toNat*el.size) (i.toNat*el.size+te.size))=c.toArray:=by
       apply qk;simp only[Array.toList_extract,List.extract_eq_take_drop];apply zp;intro j;rw[zf];split
       .rename_i hj;rw[List.getElem?_drop];exact hex j (by omega)
       .rename_i hj;exact(qp (by omega)).symm
      rw[nM];refine Kz el _ c _ h2 (λ_=>rfl) (λhf hna=>?_);exfalso;rw[nL]at nK;cases dd with
      |struct fs=>simp[lu]at eN;rw[eN]at hf;simp at hf
      |array m e=>cases el<;>simp[lu]at eN;exact hna _ _ rfl
      |_=>simp[aggD]at nK
    .have hf:te.agg=false:=by simpa using nL
     have eX:el.agg=false/\∀n a,el ≠ .arr n a:=by
      rw[hf]at nK;cases dd with
      |struct fs=>simp[aggD]at nK
      |array m e=>simp[aggD]at nK
      |int k=>simp[lu]at eN;subst eN;exact⟨rfl,by simp⟩
      |bool=>simp[lu]at eN;subst eN;exact⟨rfl,by simp⟩
      |string=>simp[lu]at eN;subst eN;exact⟨rfl,by simp⟩
      |slice e=>cases el<;>simp[lu]at eN;exact⟨rfl,by simp⟩
      |_=>simp[lu]at eN
     have dR:∃z,c=[z]:=by
      have:el.size=1:=by cases el<;>first|rfl|(exfalso;simp[Ty.agg]at eX)
      rw[this]at eM;exact List.length_eq_one_iff.1 eM
     obtain⟨z,rfl⟩:=dR;have hz:cs[i.toNat*el.size]? = some z:=by have:=hex 0 (by omega);simpa using this
     refine⟨z,?_,Kz el _ [z] z h2 (λho=>?_) (λ_ _=>rfl)⟩
     .simp only[part,Sem.run_bind,AS hT c9,hf,Result.andThen_ok,q7,zo,hz,Sem.run_pure]
     .rcases ho with ho|⟨n,a,ho⟩
      .rw[eX.1]at ho;simp at ho
      .exact absurd ho (eX.2 _ _)
   obtain⟨z,hz,lx⟩:=rE;refine⟨z,?_,lx⟩;simp only[Instr.index,asIntOf,Sem.run_bind,Sem.run_pure,Result.andThen_ok,run_underlying hd,Sem.run_ite,if_pos bj,kJ hT c9,hz]
  .simp at h
 .rename_i s kd i;have hv:v = .int kd i:=pw (S:=S) (w:=w) hy;subst hv;split at h
  .rename_i bR;simp only[j5,j9]at h;obtain⟨hi,rfl⟩:=h;have hu:u = .string s:=CI (S:=S) (w:=w) hc.1;subst hu;exact⟨_,jxl hT ht bR s kd i hi,rfl,λ_=>rfl⟩
  .simp at h
 .simp at h
theorem jAe{P:Program}{E:Env}(hT:cO P E.T)(hR:Rel N np S0 w0 refs σ a w S γ){rd:Nat->BS}(bc:RdOk σ rd){t ty:TypeId}{ti:TyI}(ht:E.T t=some ti){x l:Leaf}{u:Value}
  (h:lenC rd ti.ty x=some l)(hx:bZ S w γ σ.bx x u):∃z,(Builtin.len_ #[t] ty #[u]).run P w = .ok z w/\bZ S w γ σ.bx l z/\One z:=by
 have sl:∀(ad:Option Addr)(n c:Nat),tP ti.ty=true->(Builtin.len_ #[t] ty #[.slice ad n c]).run P w = .ok (.int .i64 n) w:=by intro ad n c hl;obtain⟨a',bR⟩:=Tn hl;obtain⟨hd,_⟩:=oI hT ht bR;simp[Builtin.len_,run_underlying hd,goInt]
 unfold lenC at h;split at h
 .split at h
  .rename_i hl;simp at h;subst h;have hu:u = .slice none 0 0:=hx;subst hu;exact⟨_,sl none 0 0 hl,rfl,rfl⟩
  .simp at h
 .rename_i k;split at h
  .rename_i e el xs frz hk;split at h
   .rename_i hl;simp at h;subst h;have cb:=bc.nm hk;have hk:=bc.live hk;have hu:=hx.2.2 _ hk;obtain⟨css,aU,_⟩:=jH cb (hR.box k _ hk);rcases aU.2 with⟨hg,hz⟩|⟨g,cap,cur,hg,_⟩
    .rw[hu,hg,hz];exact⟨_,sl _ _ _ hl,rfl,rfl⟩
    .rw[hu,hg];exact⟨_,sl _ _ _ hl,rfl,rfl⟩
   .simp at h
  .simp at h
 .rename_i el xs;split at h
  .rename_i hl;simp at h;subst h;obtain⟨ad,cap,hu,_⟩:=hx;simp at hu;subst hu;exact⟨_,sl _ _ _ hl,rfl,rfl⟩
  .simp at h
 .rename_i s;split at h
  .rename_i bR;simp at h;subst h;have hu:u = .string s:=CI (S:=S) (w:=w) hx;subst hu;have hd:=KC hT ht bR;exact⟨_,by simp[Builtin.len_,run_underlying hd,goInt],rfl,rfl⟩
  .simp at h
 .rename_i k j;split at h
  .rename_i e el xs frz hk;split at h
   .rename_i hl;simp at h;subst h;have hk:=bc.live hk;obtain⟨_,hj,ad,gH,ar,hu⟩:=hx.2.2 _ hk;rw[hu];refine⟨_,sl _ _ _ hl,?_,rfl⟩;show [Value.int .i64 _]=[Value.int .i64 _];congr 2
   .simp at h
  .simp at h
 .rename_i k j;split at h
  .rename_i e el xs frz hk;split at h
   .rename_i hl;simp at h;subst h;have hk:=bc.live hk;obtain⟨_,hj,ad,gH,ar,hu⟩:=hx.2.2 _ hk;rw[hu];exact⟨_,sl _ _ _ hl,rfl,rfl⟩
   .simp at h
  .simp at h
 .simp at h
end
section
variable{N:NT}{np:Nat}{S0:aP}{w0:World}{refs:Refs}{σ:St}{a:Go.Act}{w:World}{S:aP}{γ:Nat->Value}
theorem Rel.step(hR:Rel N np S0 w0 refs σ a w S γ){bx':Nat->BS}{w':World}{S':aP}{γ':Nat->Value}(hk:dP S w S' w')(hb:BxLe γ σ.bx γ' bx')
   (box:∀k b,bx' k = .live b->fy S' w' γ' bx' k b)(own:∀k b g,bx' k = .live b->blk (γ' k)=some g->Own w0 refs g\/(g∈refs/\parK np k=true))
   (apart:∀k k' b b' g,k≠k'->bx' k = .live b->bx' k' = .live b'->blk (γ' k)=some g->blk (γ' k')≠some g)
   (new:∀g o,S' g o->S0 g o\/Own w0 refs g)(here:∀g o,S' g o->g<w'.heap.size)(below:∀g,g<w0.heap.size->g∉refs->w'.heap[g]? = w0.heap[g]?)
   (grow:w0.heap.size<=w'.heap.size)(os:w'.os=w0.os)(tape:w'.tape=w0.tape)(output:w'.output=w0.output)
   (kept:∀g,g<w.heap.size->refs.kw g≠none->(∀k b,σ.bx k = .live b->blk (γ k)≠some g)->w'.heap[g]? = w.heap[g]? /\ ∀k b,bx' k = .live b->blk (γ' k)≠some g) :
   Rel N np S0 w0 refs { σ with bx:=bx' } a w' S' γ':=
 ⟨hR.size,hR.defers,λi=>iH.keep hk hb (hR.slot i),box,own,apart,λg o h=>(hk g o (hR.ext g o h)).1,new,here,below,grow,os,tape,output,λk v h=>⟨(hR.par k v h).1,(hb k (hR.par k v h).2.1).1,(hb k (hR.par k v h).2.1).2.1.trans (hR.par k v h).2.2⟩,
  λg o h=>by
   obtain⟨h1,h2⟩:=hR.kept g o h;obtain⟨h3,h4⟩:=kept g (ji.1 h1).1 (by rw[h];simp) h2;exact⟨h3.trans h1,h4⟩,hR.fix⟩
theorem fy.keep{S':aP}{w':World}{γ':Nat->Value}{bx bx':Nat->BS}(hk:dP S w S' w')(hb:BxLe γ bx γ' bx'){k:Nat}{b:Bx}(hg:γ' k=γ k)
  (hblk:∀g,blk (γ k)=some g->w'.heap[g]? = w.heap[g]? /\ ∀o,S' g o↔S g o)(h:fy S w γ bx k b):fy S' w' γ' bx' k b:=by
 cases b with
 |cell ls frz=>obtain⟨g,cur,e,h1,h2,h3,h4,h5,h6⟩:=h;obtain⟨e1,e2⟩:=hblk g (by rw[h1];rfl);exact⟨g,cur,e,hg.trans h1,e1.trans h2,h3.mono (λx u hx=>bZ.keep hk hb hx),h4,λhf o hs=>h5 hf o ((e2 o).1 hs),λhf o ho=>(e2 o).2 (h6 hf o ho)⟩
 |lst e t xs frz=>
  obtain⟨h1,h3⟩:=h;refine⟨?_,λg ar=>?_⟩
  .rw[hg];exact h1.keep hk λg ar=>(hblk g ar).1
  .rw[hg]at ar;obtain⟨e1,e2⟩:=hblk g ar;obtain⟨h4,h5⟩:=h3 g ar;exact⟨λhf o hs=>h4 hf o ((e2 o).1 hs),λhf o=>(e2 o).trans (h5 hf o)⟩
 |arr n t xs=>obtain⟨g,cur,e,h1,h2,h3,h4⟩:=h;obtain⟨e1,e2⟩:=hblk g (by rw[h1];rfl);exact⟨g,cur,e,hg.trans h1,e1.trans h2,Rep.keep hk _ _ _ h3,λo hs=>h4 o ((e2 o).1 hs)⟩
theorem gY(σ:St)(k:Nat)(b:BS):(σ.setB k b).bx k=b:=by simp[St.setB]
theorem du(σ:St){k k':Nat}(b:BS)(h:k'≠k):(σ.setB k b).bx k'=σ.bx k':=by simp[St.setB,h]
theorem jAf(hR:Rel N np S0 w0 refs σ a w S γ){k e:Nat}{t:Ty}{xs:List t.den}{f:Bool}(hm:isM e=false)(hk:σ.bx k = .live (.lst e t xs f)){S':aP}{w':World}(aM:dP S w S' w')
  (hs:∀g o,blk (γ k)=some g->o<xs.length*t.size->S' g o/\w'.cell? ⟨g,o,none⟩=w.cell? ⟨g,o,none⟩):Rep S' w' (.list t) xs [γ k]:=by
 obtain⟨css,aU,ha,_⟩:=jH hm (hR.box k _ hk);rcases aU.2 with⟨hg,hz⟩|⟨g,cap,cur,hg,_,hh,hle,lv,dE,eO⟩
 .refine⟨none,0,?_,?_,?_,λ_=>rfl,λb hb=>by simp at hb⟩
  .rw[hg];show [Value.slice none 0 0]=[Value.slice none (List.length xs) 0];rw[show List.length xs=0 from hz]
  .show List.length xs<=0;rw[show List.length xs=0 from hz];exact js _
  .simp[maxLen]
 .refine⟨some ⟨g,0,none⟩,cap,by rw[hg],hle,lv,by simp,λb hb=>?_⟩;simp at hb;subst hb;refine⟨λ_=>rfl,css,ha.mono (λx c hx=>Rep.keep aM _ _ _ hx),λj v hv=>?_⟩;have hlen:=All2.flatten_length (λx c hx=>Rep.length t x c hx) ha;have hj:j<xs.length*t.size:=by rw[<-hlen];exact(jx.1 hv).1
  obtain⟨h1,h2⟩:=hs g j (by rw[hg];rfl) hj;simp only[kg];refine⟨h1,h2.trans ?_⟩;have:=aU.cells (g:=g) (by rw[hg];rfl) j v hv;rwa[Addr.add_lit,kg]at this
theorem KD(hR:Rel N np S0 w0 refs σ a w S γ){k e:Nat}{t:Ty}{xs:List t.den}{f:Bool}(hm:isM e=false)(hk:σ.bx k = .live (.lst e t xs f))(hp:parK np k=false) :
  ∃S',Rel N np S0 w0 refs (σ.setB k (.live (.lst e t xs true))) a w S' γ/\dP S w S' w/\Rep S' w (.list t) xs [γ k]:=by
 let S':aP:=λg o=>S g o\/(blk (γ k)=some g/\o<xs.length*t.size)
 have aM:dP S w S' w:=λg o h=>⟨.inl h,rfl⟩;have rF:Rep S' w (.list t) xs [γ k]:=jAf hR hm hk aM (λg o hb ho=>⟨.inr ⟨hb,ho⟩,rfl⟩)
 have CK:BxLe γ σ.bx γ (σ.setB k (.live (.lst e t xs true))).bx:=by
  intro k' bK;by_cases cu:k'=k
  .subst cu;rw[gY];exact⟨by simp,rfl,λb hb=>by simp at hb;subst hb;exact⟨_,hk,rfl,rfl,λ_=>rfl⟩⟩
  .rw[du σ _ cu];exact⟨bK,rfl,λb hb=>⟨b,hb,.refl b⟩⟩
 have bQ:∀k' b,(σ.setB k (.live (.lst e t xs true))).bx k' = .live b->∃b',σ.bx k' = .live b':=by
  intro k' b hb;by_cases cu:k'=k
  .subst cu;exact⟨_,hk⟩
  .rw[du σ _ cu]at hb;exact⟨b,hb⟩
 refine⟨S',?_,aM,rF⟩
 have cL:∀k' b,(σ.setB k (.live (.lst e t xs true))).bx k' = .live b->fy S' w γ (σ.setB k (.live (.lst e t xs true))).bx k' b:=by
  intro k' b hb;by_cases cu:k'=k
  .subst cu;rw[gY]at hb;simp at hb;subst hb;obtain⟨css,aU,ha,hS⟩:=jH hm (hR.box k' _ hk);refine CE hm ⟨css,aU,ha.mono (λx c hx=>Rep.keep aM _ _ _ hx),λg hg=>⟨by simp,λ_ o=>?_⟩⟩;obtain⟨h1,h2⟩:=hS g hg;constructor
   .intro hs;rcases hs with hs|hs
    .cases f with
     |false=>exact absurd hs (h1 rfl o)
     |true=>exact(h2 rfl o).1 hs
    .exact hs.2
   .exactλho=> .inr ⟨hg,ho⟩
  .rw[du σ _ cu]at hb;refine fy.keep aM CK rfl (λg hg=>⟨rfl,λo=>⟨λhs=>?_,.inl⟩⟩) (hR.box k' b hb);rcases hs with hs|hs
   .exact hs
   .exact absurd hs.1 (hR.apart k' k b _ g cu hb hk hg)
 refine Rel.step hR aM CK cL ?_ ?_ ?_ ?_ hR.below hR.grow hR.os hR.tape hR.output (λg _ _ h=>⟨rfl,λk' b' aT=>by obtain⟨b2,gG⟩:=bQ k' b' aT;exact h k' b2 gG⟩)
 .intro k' b g hb hg;obtain⟨b',aT⟩:=bQ k' b hb;exact hR.own k' b' g aT hg
 .intro k1 k2 b1 b2 g bk h1 h2 hg;obtain⟨ub,my⟩:=bQ k1 b1 h1;obtain⟨uc,lD⟩:=bQ k2 b2 h2;exact hR.apart k1 k2 ub uc g bk my lD hg
 .intro g o hs;rcases hs with hs|hs
  .exact hR.new g o hs
  .rcases hR.own k _ g hk hs.1 with h|h
   .exact .inr h
   .rw[hp]at h;simp at h
 .intro g o hs;rcases hs with hs|hs
  .exact hR.here g o hs
  .obtain⟨css,aU,_⟩:=jH hm (hR.box k _ hk);rcases aU.2 with⟨hn,_⟩|⟨g',cap,cur,hg,_,hh,_⟩
   .rw[hn]at hs;simp[blk]at hs
   .rw[hg]at hs;simp[blk]at hs;rw[<-hs.1];exact(ji.1 hh).1
def FrzL(np:Nat)(bx:Nat->BS)(u:Ups):Prop:=
 ∀x∈u,parK np x.1=false/\∃e t xs f,bx x.1 = .live (.lst e t xs f)/\x.2 = .live (.lst e t xs true)/\isM e=false
def Froz(bx:Nat->BS)(γ:Nat->Value)(S:aP)(w:World)(u:Ups):Prop:=
 ∀x∈u,∀e t xs f,bx x.1 = .live (.lst e t xs f)->Rep S w (.list t) xs [γ x.1]
theorem FrzL.app{bx:Nat->BS}{u v:Ups}:FrzL np bx (u++v)↔FrzL np bx u/\FrzL np bx v:=by
 simp only[FrzL,jn];exact⟨λh=>⟨λx hx=>h x (.inl hx),λx hx=>h x (.inr hx)⟩,λh x hx=>hx.elim (h.1 x) (h.2 x)⟩
theorem Froz.app{bx:Nat->BS}{u v:Ups}:Froz bx γ S w (u++v)↔Froz bx γ S w u/\Froz bx γ S w v:=by
 simp only[Froz,jn];exact⟨λh=>⟨λx hx=>h x (.inl hx),λx hx=>h x (.inr hx)⟩,λh x hx=>hx.elim (h.1 x) (h.2 x)⟩
theorem FrzL.nil{bx:Nat->BS}:FrzL np bx []:=λ_ h=>by simp at h
theorem Froz.nil{bx:Nat->BS}:Froz bx γ S w []:=λ_ h=>by simp at h
theorem Froz.keep{bx:Nat->BS}{u:Ups}{S':aP}{w':World}(hk:dP S w S' w')(h:Froz bx γ S w u):Froz bx γ S' w' u:=
 λx hx e t xs f hb=>Rep.keep hk _ _ _ (h x hx e t xs f hb)
def mc(bx bx':Nat->BS):Prop:=
 ∀k,bx' k=bx k\/∃e t xs f f',bx k = .live (.lst e t xs f)/\bx' k = .live (.lst e t xs f')
theorem mc.refl(bx:Nat->BS):mc bx bx:=λ_=> .inl rfl
theorem mc.trans{b1 b2 b3:Nat->BS}(h:mc b1 b2)(h':mc b2 b3):mc b1 b3:=by
 intro k;rcases h k with e|⟨e,t,xs,f,f',h1,h2⟩
 .rcases h' k with e'|⟨e2,t,xs,f,f',h1,h2⟩
  .exact .inl (e'.trans e)
  .exact .inr ⟨e2,t,xs,f,f',e▸h1,h2⟩
 .rcases h' k with e'|⟨e2,t2,To,f2,f2',h3,h4⟩
  .exact .inr ⟨e,t,xs,f,f',h1,e'.trans h2⟩
  .rw[h2]at h3;cases h3;exact .inr ⟨e,t,xs,f,f2',h1,h4⟩
theorem mc.free{b1 b2:Nat->BS}(h:mc b1 b2){k:Nat}(hk:b1 k = .free):b2 k = .free:=by
 rcases h k with e|⟨e,t,xs,f,f',h1,h2⟩
 .rw[e,hk]
 .rw[h1]at hk;simp at hk
theorem mc.cell{b1 b2:Nat->BS}(h:mc b1 b2){k:Nat}{ls:List Leaf}{f:Bool}(hk:b1 k = .live (.cell ls f)):b2 k = .live (.cell ls f):=by
 rcases h k with e|⟨e,t,xs,f,f',h1,h2⟩
 .rw[e,hk]
 .rw[h1]at hk;simp at hk
theorem mc.arr{b1 b2:Nat->BS}(h:mc b1 b2){k n:Nat}{t:Ty}{xs:List t.den}(hk:b1 k = .live (.arr n t xs)):b2 k = .live (.arr n t xs):=by
 rcases h k with e|⟨e,t,xs,f,f',h1,h2⟩
 .rw[e,hk]
 .rw[h1]at hk;simp at hk
theorem mc.lst{b1 b2:Nat->BS}(h:mc b1 b2){k e:Nat}{t:Ty}{xs:List t.den}{f:Bool}(hk:b1 k = .live (.lst e t xs f)):∃f',b2 k = .live (.lst e t xs f'):=by
 rcases h k with e|⟨e,t,xs,f,f',h1,h2⟩
 .exact⟨f,by rw[e,hk]⟩
 .rw[h1]at hk;cases hk;exact⟨f',h2⟩
theorem mc.le{b1 b2:Nat->BS}(h:mc b1 b2):BxLe γ b1 γ b2:=by
 intro k hk;rcases h k with e|⟨e,t,xs,f,f',h1,h2⟩
 .rw[e];exact⟨hk,rfl,λb hb=>⟨b,hb,.refl b⟩⟩
 .rw[h2];exact⟨by simp,rfl,λb hb=>by simp at hb;subst hb;exact⟨_,h1,rfl,rfl,λ_=>rfl⟩⟩
theorem AV:∀(u:Ups)(σ:St),(σ.upd u).sl=σ.sl
 |[],_=>rfl
 |e::u,σ=>AV u (σ.setB e.1 e.2)
theorem mz:∀(u v:Ups)(σ:St),σ.upd (u++v)=(σ.upd u).upd v
 |[],_,_=>rfl
 |e::u,v,σ=>mz u v (σ.setB e.1 e.2)
theorem qM:∀(u:Ups)(σ:St)(S:aP),Rel N np S0 w0 refs σ a w S γ->FrzL np σ.bx u->
  ∃S',Rel N np S0 w0 refs (σ.upd u) a w S' γ/\dP S w S' w/\Froz σ.bx γ S' w u/\mc σ.bx (σ.upd u).bx
 |[],σ,S,hR,_=>⟨S,hR,.refl S w,.nil,.refl _⟩
 |x::u,σ,S,hR,hf=>by
  obtain⟨hp,e,t,xs,f,hb,hx,hm⟩:=hf x (by simp);obtain⟨S1,bE,dr,oK⟩:=KD hR hm hb hp;rw[<-hx]at bE
  have nN:mc σ.bx (σ.setB x.1 x.2).bx:=by
   intro k;by_cases hk:k=x.1
   .subst hk;exact .inr ⟨e,t,xs,f,true,hb,by rw[gY,hx]⟩
   .exact .inl (du σ _ hk)
  have py:FrzL np (σ.setB x.1 x.2).bx u:=by intro y hy;obtain⟨xI,e',t',dg,f',aT,AW⟩:=hf y (by simp[hy]);obtain⟨f2,h2⟩:=nN.lst aT;exact⟨xI,e',t',dg,f2,h2,AW⟩
  obtain⟨S2,cH,cM,gZ,kK⟩:=qM u _ S1 bE py;refine⟨S2,cH,dr.trans cM,λy hy e' t' dg f' aT=>?_,nN.trans kK⟩;rcases je.1 hy with rfl|hy
  .rw[hb]at aT;cases aT;exact Rep.keep cM _ _ _ oK
  .obtain⟨f2,h2⟩:=nN.lst aT;exact gZ y hy e' t' dg f2 h2
def RdF(np:Nat)(σ:St)(rd:Nat->BS):Prop:=(∀k,(rd k=σ.bx k/\parK np k=false)\/rd k = .gone)/\NoM rd
theorem RdF.ok{rd:Nat->BS}(h:RdF np σ rd):RdOk σ rd:=⟨λk=>(h.1 k).imp (·.1) id,h.2⟩
theorem RdF.par{rd:Nat->BS}(h:RdF np σ rd){k:Nat}{b:Bx}(hk:rd k = .live b):parK np k=false:=by
 rcases h.1 k with h|h
 .exact h.2
 .rw[h]at hk;simp at hk
def G3(S:aP)(w:World)(γ:Nat->Value)(bx:Nat->BS):Prop:=∀k b,bx k = .live b->fy S w γ bx k b
theorem AX{rd:Nat->BS}(bc:RdF np σ rd)(hB:G3 S w γ σ.bx){t:Ty}{l:Leaf}{v:t.den}{u:Ups}{z:Value}(h:lj rd t l=some (v,u))(hl:bZ S w γ σ.bx l z) :
  FrzL np σ.bx u/\∀S' w',dP S w S' w'->Froz σ.bx γ S' w' u->Rep S' w' t v [z]:=by
 unfold lj at h;split at h
 .split at h
  .rename_i t' v' v'' iR;simp only[j5,j9]at h;obtain⟨rfl,rfl⟩:=h;have:=ng iR;cases this;exact⟨.nil,λS' w' hk _=>Rep.keep hk _ _ _ hl⟩
  .simp at h
 .split at h
  .simp only[j5,j9]at h;obtain⟨rfl,rfl⟩:=h;have hz:z = .slice none 0 0:=hl;subst hz;exact⟨.nil,λS' w' _ _=>⟨none,0,rfl,js _,by simp[maxLen],λ_=>rfl,λb hb=>by simp at hb⟩⟩
  .simp at h
 .rename_i k;split at h
  .rename_i e el xs f hk;split at h
   .rename_i v' iR;simp only[j5,j9]at h;obtain⟨rfl,rfl⟩:=h;have:=ng iR;cases this;have bK:=bc.ok.live hk;refine⟨λx hx=>?_,λS' w' _ hf=>?_⟩
    .have nh:=kr.1 hx;subst nh;exact⟨bc.par hk,e,el,xs,f,bK,rfl,bc.ok.nm hk⟩
    .have:=hf (k,_) (kr.2 rfl) e el xs f bK;rw[hl.2.2 _ bK];exact this
   .simp at h
  .simp at h
 .simp at h
theorem xJ{rd:Nat->BS}(bc:RdF np σ rd)(hB:G3 S w γ σ.bx):∀(t:Ty){ls r:List Leaf}{v:t.den}{u:Ups}{zs:List Value},gath rd t ls=some (v,r,u)->All2 (bZ S w γ σ.bx) ls zs->
  FrzL np σ.bx u/\r=ls.drop t.size/\∀S' w',dP S w S' w'->Froz σ.bx γ S' w' u->Rep S' w' t v (zs.take t.size)
 |.unit,ls,r,v,u,zs,h,ha=>by
  simp only[gath,j5,j9]at h;obtain⟨_,rfl,rfl⟩:=h;exact⟨.nil,rfl,λS' w' _ _=>rfl⟩
 |.wrap b,ls,r,v,u,zs,h,ha=>by
  simp only[gath]at h;split at h
  .rename_i x r' u' hx;simp only[j5,j9]at h;obtain⟨rfl,rfl,rfl⟩:=h;exact xJ bc hB b hx ha
  .simp at h
 |.pair b c,ls,r,v,u,zs,h,ha=>by
  simp only[gath]at h;split at h
  .rename_i x r1 u1 hx;split at h
   .rename_i y r2 u2 hy;simp only[j5,j9]at h;obtain⟨rfl,rfl,rfl⟩:=h;obtain⟨f1,e1,p1⟩:=xJ bc hB b hx ha;have wh:All2 (bZ S w γ σ.bx) r1 (zs.drop b.size):=by rw[e1];exact ha.drop _
    obtain⟨f2,e2,p2⟩:=xJ bc hB c hy wh;refine⟨FrzL.app.2 ⟨f1,f2⟩,?_,λS' w' hk hf=>?_⟩
    .rw[e2,e1,List.drop_drop];rfl
    .obtain⟨py,ud⟩:=Froz.app.1 hf;refine⟨zs.take b.size,(zs.drop b.size).take c.size,?_,p1 S' w' hk py,p2 S' w' hk ud⟩;show zs.take (b.size+c.size)=_;rw[List.take_add]
   .simp at h
  .simp at h
 |.arr _ _,_,_,_,_,_,h,_=>by simp[gath]at h
 |.int k,l::ls,r,v,u,z::zs,h,ha=>by
  simp only[gath]at h;split at h
  .rename_i v' u' hv;simp only[j5,j9]at h;obtain⟨rfl,rfl,rfl⟩:=h;obtain⟨f,p⟩:=AX bc hB hv ha.1;exact⟨f,rfl,p⟩
  .simp at h
 |.bool,l::ls,r,v,u,z::zs,h,ha=>by
  simp only[gath]at h;split at h
  .rename_i v' u' hv;simp only[j5,j9]at h;obtain⟨rfl,rfl,rfl⟩:=h;obtain⟨f,p⟩:=AX bc hB hv ha.1;exact⟨f,rfl,p⟩
  .simp at h
 |.str,l::ls,r,v,u,z::zs,h,ha=>by
  simp only[gath]at h;split at h
  .rename_i v' u' hv;simp only[j5,j9]at h;obtain⟨rfl,rfl,rfl⟩:=h;obtain⟨f,p⟩:=AX bc hB hv ha.1;exact⟨f,rfl,p⟩
  .simp at h
 |.list b,l::ls,r,v,u,z::zs,h,ha=>by
  simp only[gath]at h;split at h
  .rename_i v' u' hv;simp only[j5,j9]at h;obtain⟨rfl,rfl,rfl⟩:=h;obtain⟨f,p⟩:=AX bc hB hv ha.1;exact⟨f,rfl,p⟩
  .simp at h
 |.int _,[],_,_,_,_,h,_=>by simp[gath]at h
 |.bool,[],_,_,_,_,h,_=>by simp[gath]at h
 |.str,[],_,_,_,_,h,_=>by simp[gath]at h
 |.list _,[],_,_,_,_,h,_=>by simp[gath]at h
 |.int _,_::_,_,_,_,[],_,ha=>ha.elim
 |.bool,_::_,_,_,_,[],_,ha=>ha.elim
 |.str,_::_,_,_,_,[],_,ha=>ha.elim
 |.list _,_::_,_,_,_,[],_,ha=>ha.elim
def cellsOf(u:Value):List Value:=u.cells.toList
theorem AY{u:Value}(h:One u):u.cells.toList=[u]:=by
 cases u<;>first|rfl|simp[One,Value.oneCell']at h
theorem Tp(rd:Nat->BS):∀(t:Ty){ls r:List Leaf}{v:t.den}{u:Ups},gath rd t ls=some (v,r,u)->r.length+t.size=ls.length:=by
 intro t;induction t with
 |unit=>intro ls r v u h;simp only[gath,j5,j9]at h;rw[<-h.2.1];rfl
 |wrap a ih=>
  intro ls r v u h;simp only[gath]at h;split at h
  .rename_i x r' u' hx;simp only[j5,j9]at h;rw[<-h.2.1];exact ih hx
  .simp at h
 |pair a b td tg=>
  intro ls r v u h;simp only[gath]at h;split at h
  .rename_i x r1 u1 hx;split at h
   .rename_i y r2 u2 hy;simp only[j5,j9]at h;rw[<-h.2.1];have e1:=td hx;have e2:=tg hy;simp only[Ty.size];omega
   .simp at h
  .simp at h
 |arr n a _=>intro ls r v u h;simp[gath]at h
 |int k=>
  intro ls r v u h;cases ls<;>simp only[gath]at h
  .simp at h
  .split at h
   .simp only[j5,j9]at h;rw[<-h.2.1];simp[Ty.size]
   .simp at h
 |bool=>
  intro ls r v u h;cases ls<;>simp only[gath]at h
  .simp at h
  .split at h
   .simp only[j5,j9]at h;rw[<-h.2.1];simp[Ty.size]
   .simp at h
 |str=>
  intro ls r v u h;cases ls<;>simp only[gath]at h
  .simp at h
  .split at h
   .simp only[j5,j9]at h;rw[<-h.2.1];simp[Ty.size]
   .simp at h
 |list a _=>
  intro ls r v u h;cases ls<;>simp only[gath]at h
  .simp at h
  .split at h
   .simp only[j5,j9]at h;rw[<-h.2.1];simp[Ty.size]
   .simp at h
theorem jxm(rd:Nat->BS):∀(t:Ty){ls r:List Leaf}{v:t.den}{u:Ups},gath rd t (.dead::ls)=some (v,r,u)->r = .dead::ls:=by
 intro t;induction t with
 |unit=>intro ls r v u h;simp only[gath,j5,j9]at h;exact h.2.1.symm
 |wrap a ih=>
  intro ls r v u h;simp only[gath]at h;split at h
  .rename_i x r' u' hx;simp only[j5,j9]at h;rw[<-h.2.1];exact ih hx
  .simp at h
 |pair a b td tg=>
  intro ls r v u h;simp only[gath]at h;split at h
  .rename_i x r1 u1 hx;have h1:=td hx;subst h1;split at h
   .rename_i y r2 u2 hy;simp only[j5,j9]at h;rw[<-h.2.1];exact tg hy
   .simp at h
  .simp at h
 |arr n a _=>intro ls r v u h;simp[gath]at h
 |int k=>intro ls r v u h;simp[gath,lj]at h
 |bool=>intro ls r v u h;simp[gath,lj]at h
 |str=>intro ls r v u h;simp[gath,lj]at h
 |list a _=>intro ls r v u h;simp[gath,lj]at h
theorem jqY{t:Ty}(h:t.agg=true):jS t=true:=by
 revert h;cases t<;>simp[jS,Ty.agg]
theorem CL{rd:Nat->BS}(bc:RdF np σ rd)(hB:G3 S w γ σ.bx){t:Ty}{c:Cel}{v:t.den}{u:Ups}{z:Value}(h:qC rd t c=some (v,u))(hc:cd S w γ σ.bx c z) :
  FrzL np σ.bx u/\(∀S' w',dP S w S' w'->Froz σ.bx γ S' w' u->VRep S' w' ⟨t,v⟩ z)/\z.cells.toList.length=t.size:=by
 unfold qC at h;split at h
 .rename_i l;split at h
  .simp at h
  rename_i nK;split at h
  .rename_i v' u' hv;simp only[j5,j9]at h;obtain⟨rfl,rfl⟩:=h;obtain⟨f,e,p⟩:=xJ bc hB t hv (zs:=[z]) ⟨hc.1,trivial⟩;have hlen:=Tp rd t hv;simp at hlen;have hd:l ≠ .dead:=by intro hl;subst hl;have:=jxm rd t hv;simp at this
   have h1:=AY (hc.2 hd);refine⟨f,λS' w' hk hf=>⟨?_,λhm=>?_,λ_=>hc.2 hd⟩,by simp[h1,hlen]⟩
   .have:=p S' w' hk hf;rw[hlen]at this;rw[h1];exact this
   .exfalso;cases t<;>simp[jS,Ty.agg]at hm nK;simp[gath]at hv
  .simp at h
 .rename_i ls;split at h
  .rename_i nK;split at h
   .rename_i v' u' hv;simp only[j5,j9]at h;obtain⟨rfl,rfl⟩:=h;obtain⟨cs,rfl,ha,h1⟩:=hc;obtain⟨f,e,p⟩:=xJ bc hB t hv ha;have hlen:=Tp rd t hv;have hl:=ha.length;simp at hlen;have dE:cs.toList.length=t.size:=by omega
    refine⟨f,λS' w' hk hf=>⟨?_,λ_=>⟨cs,rfl⟩,λhm=>?_⟩,dE⟩
    .have:=p S' w' hk hf;rwa[List.take_of_length_le (by omega)]at this
    .rw[jqY nK]at hm;simp at hm
   .simp at h
  .simp at h
 .split at h
  .rename_i v' iR;simp only[j5,j9]at h;obtain⟨rfl,rfl⟩:=h;have:=ng iR;cases this;obtain⟨cs,rfl,hr⟩:=hc;exact⟨.nil,λS' w' hk _=>⟨Rep.keep hk _ _ _ hr,λ_=>⟨cs,rfl⟩,by simp[jS]⟩,Rep.length _ _ _ hr⟩
  .simp at h
end
end Go.Lft
