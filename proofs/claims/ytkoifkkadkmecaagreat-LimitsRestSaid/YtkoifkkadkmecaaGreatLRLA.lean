/- A typed qD of the Hz code, on plain data: xi. -/
import Derived.WalkKit
import Derived.Orders
import Derived.MapKept
open Option renaming none->B,some->D
open _root_ renaming Option->F,List->G,Nat->H,Bool->X,Int->Ä,Array->Ç,ByteArray->È,False->Ü,DecidableEq->ä
open Go renaming Value->I,World->Z,Program->À,TypeId->Å,Oper->Æ,Operand->Ë,IntKind->Î,TypeDesc->Ô,Act->Ù,Code->à,BinOp->ã,ResultVar->ç,TypeInfo->ë
open Bool renaming false->J,true->U
open Go.Result renaming andThen_ok->O
open Decidable renaming decide->W
open Go.Sem renaming run_bind->Y,run_pure->Á,run_ite->Ó
open Int renaming toNat->Â,ofNat->â,fdiv->ê
open List renaming length->Ã,getD->É,replicate->Ê,take->Ï,getElem?_drop->Ò,drop->Õ,range->Ø,drop_drop->ß,set->ú
open Go.Addr renaming add_lit->Ì
open Nat renaming add_assoc->Í,add_mul->í
open Go.Instr renaming indexAt->Ð,sureAddr->Ñ,loadAt->Ú,index->Þ,fieldAt->á
open Go.Op renaming intCmp->Ö,intArith->Ý,unary->ì,eqFields->î,maxDepth->ï,stringOp->ð,equalIn->ó,intDiv->õ,equal->ü
open Go.Builtin renaming len_->Û,min_->è,max_->é,min2->ÿ
theorem j4{α β:Type _}(a:α)(f:α->F β):(D a).bind f=f a:=rfl
theorem j5{α:Type _}(a b:α):(D a=D b)=(a=b):=Option.some.injEq a b
theorem j6{α:Sort _}{a b:α}:cond U a b=a:=rfl
theorem j7{α:Sort _}{a b:α}:cond J a b=b:=rfl
theorem j8(n:H):Â (n:Ä)=n:=rfl
theorem j9{α β:Type _}(a:α)(b:β)(c:α)(d:β):((a,b)=(c,d))=(a=c/\b=d):=Prod.mk.injEq a b c d
theorem ja{a b:Prop}(h:a)(g:b):a/\b:=And.intro h g
abbrev jb:=@List.drop_eq_getElem_cons
abbrev jc:=@List.length_append
abbrev jd:=@List.drop_of_length_le
abbrev je:=@List.mem_cons
abbrev jf:=@List.getElem_mem
abbrev jg:=@Bool.and_eq_true
abbrev jh:=@List.append_assoc
abbrev ji:=@List.length_cons
abbrev jj:=@List.mem_append
abbrev jk:=@bne_self_eq_false
abbrev jl:=@Bool.not_true
abbrev jm:=@List.getElem?_eq_getElem
abbrev jn:=@Nat.le_refl
abbrev jo:=@congrArg
abbrev jp:=@List.nil_append
abbrev jq:=@Array.getElem?_eq_some_iff
abbrev jr:=@List.drop_zero
abbrev js:=@decide_eq_true_eq
abbrev jt:=@List.pairwise_cons
abbrev ju:=@Classical.byContradiction
abbrev jv:=@Bool.not_false
abbrev jw:=@List.length_nil
abbrev jx:=@List.mem_append_left
abbrev jy:=@Int.le_refl
abbrev jz:=@List.mem_map
abbrev k5:=@List.mem_append_right
abbrev k7:=@Nat.mul_le_mul_right
abbrev k9:=@List.length_eq_zero_iff
abbrev ka:=@List.getElem?_eq_some_iff
abbrev kb:=@Array.getElem?_eq_getElem
abbrev kc:=@List.append_nil
abbrev ke:=@List.length_map
abbrev kf:=@List.eq_nil_of_length_eq_zero
abbrev kg:=@List.pairwise_iff_getElem
abbrev ki:=@Nat.zero_add
abbrev kj:=@List.all_eq_true
abbrev kn:=@List.getElem?_append_right
abbrev ko:=@List.mem_of_getElem?
abbrev kp:=@Nat.zero_le
abbrev kq:=@List.take_append_drop
abbrev kr:=@List.mem_singleton
abbrev ku:=@List.take_add_one
abbrev kv:=@Bool.false_eq_true
abbrev kz:=@List.mem_filter
abbrev q7:=@decide_eq_false_iff_not
abbrev q8:=@of_decide_eq_true
abbrev q9:=@List.length_pos_iff
abbrev qa:=@List.getElem_of_mem
abbrev qb:=@Int.le_trans
abbrev qc:=@true_and
abbrev qd:=@Option.getD_some
abbrev qe:=@List.length_singleton
abbrev qf:=@List.map_cons
abbrev qg:=@List.mem_flatMap
abbrev qh:=@List.pairwise_append
abbrev qi:=@Nat.le_trans
abbrev qj:=@Option.map_some
abbrev qk:=@List.length_take
abbrev ql:=@Nat.mul_le_mul
abbrev qm:=@List.flatten_cons
abbrev qn:=@Bool.not_eq_true'
abbrev qo:=@List.length_filter_le
abbrev qp:=@List.cons_append
abbrev qq:=@List.mem_of_mem_take
abbrev qr:=@List.contains_eq_mem
abbrev qs:=@beq_self_eq_true
abbrev qt:=@Array.length_toList
abbrev qu:=@Array.getElem?_toList
abbrev qv:=@List.getElem?_map
abbrev qw:=@List.pairwise_singleton
abbrev qx:=@List.mem_cons_of_mem
abbrev qy:=@Nat.lt_or_ge
abbrev qz:=@Bool.true_or
abbrev z6:=@List.take_append_of_le_length
abbrev z7:=@List.flatMap_cons
abbrev z8:=@Bool.eq_false_iff
abbrev za:=@List.any_eq_false
abbrev zb:=@List.getElem?_take
abbrev zd:=@List.mem_cons_self
abbrev ze:=@Array.ext'
abbrev zf:=@Int.tdiv_eq_ediv_of_nonneg
abbrev zg:=@List.nodup_append
abbrev zh:=@List.nodup_cons
abbrev zi:=@List.getElem?_eq_none
abbrev zj:=@List.length_drop
abbrev zk:=@Nat.lt_of_lt_of_le
abbrev zm:=@Option.isSome_some
abbrev zo:=@Nat.lt_trichotomy
abbrev zp:=@Array.getD_eq_getD_getElem?
abbrev zq:=@List.map_append
abbrev zr:=@beq_iff_eq
abbrev zt:=@Bool.and_self
abbrev zu:=@if_false
abbrev zv:=@List.any_eq_true
abbrev zw:=@List.not_mem_nil
abbrev v6:=@List.set_append_right
abbrev v7:=@List.mem_iff_getElem?
abbrev v8:=@Option.isSome_none
abbrev vc:=@List.eq_nil_or_concat
abbrev vd:=@List.concat_eq_append
abbrev ve:=@List.mem_of_mem_drop
abbrev vf:=@List.getElem?_take_of_lt
abbrev vg:=@Bool.eq_iff_iff
abbrev vi:=@Int.le_of_lt
abbrev vj:=@Nat.mul_le_mul_left
abbrev vk:=@List.filterMap_cons
abbrev vp:=@List.take_take
abbrev vq:=@List.nodup_nil
abbrev vr:=@Nat.add_zero
abbrev vu:=@List.mem_filterMap
abbrev vv:=@of_decide_eq_false
abbrev vw:=@List.filter_append
abbrev vz:=@List.foldl_cons
abbrev y8:=@Bool.or_eq_true
abbrev y9:=@Bool.false_or
abbrev ya:=@List.ext_getElem?
abbrev yb:=@List.size_toArray
abbrev yc:=@List.reverse_reverse
abbrev yd:=@decide_eq_true
abbrev ye:=@List.drop_left
abbrev yf:=@Nat.succ_mul
abbrev yg:=@decide_eq_decide
abbrev yh:=@Int.ediv_le_self
abbrev yi:=@Nat.mul_succ
abbrev yj:=@List.flatten_append
abbrev yk:=@List.getElem?_cons_succ
abbrev yl:=@List.getLast?_singleton
abbrev ym:=@Bool.true_and
abbrev yn:=@List.any_cons
abbrev yo:=@Nat.mul_div_cancel
abbrev yp:=@Nat.eq_zero_or_pos
abbrev yq:=@Int.tmod_lt_of_pos
abbrev yt:=@Int.ediv_nonneg
abbrev yu:=@List.getElem?_set_self
abbrev yw:=@List.drop_eq_nil_of_le
abbrev yx:=@Nat.sub_self
abbrev yy:=@Int.mul_nonneg
set_option linter.unusedVariables false
namespace Go.Lft
theorem omg_{p:Prop}(h:p:=by omega):p:=h
theorem smp_{p:Prop}(h:p:=by simp):p:=h
theorem sqo_{p:Prop}(h:p:=by (simp;omega)):p:=h
theorem oLn_{α:Type}(l:G α):â l.length=(l.length:Ä):=rfl
inductive Ty where
 |int (k:Î)
 |bool
 |str
 |unit
 |wrap (a:Ty)
 |pair (a b:Ty)
 |list (a:Ty)
 |arr (n:H) (a:Ty)
 deriving ä
@[reducible] def Ty.den:Ty->Type
 |.int _=>Ä
 |.bool=>X
 |.str=>È
 |.unit=>Unit
 |.wrap a=>a.den
 |.pair a b=>a.den×b.den
 |.list a=>G a.den
 |.arr _ a=>G a.den
def Ty.dflt:(t:Ty)->t.den
 |.int _=>(0:Ä)
 |.bool=>J
 |.str=>ByteArray.empty
 |.unit=>()
 |.wrap a=>a.dflt
 |.pair a b=>(a.dflt,b.dflt)
 |.list _=>[]
 |.arr n a=>Ê n a.dflt
def Ty.size:Ty->H
 |.int _|.bool|.str|.list _=>1
 |.unit=>0
 |.wrap a=>a.size
 |.pair a b=>a.size+b.size
 |.arr n a=>n*a.size
def Ty.flat:Ty->X
 |.int _|.bool|.str|.unit=>U
 |.wrap a=>a.flat
 |.pair a b=>a.flat&&b.flat
 |.list _=>J
 |.arr _ a=>a.flat
def Ty.leafy:Ty->X
 |.int _|.bool|.str|.list _=>U
 |_=>J
structure TV where
 t:Ty
 v:t.den
def TV.to(t:Ty)(x:TV):F t.den:=if h:x.t=t then D (h▸x.v) else B
inductive Cap where
 |v (x:TV)
 |p (ls:G TV)
inductive Leaf where
 |dead
 |nil
 |d (t:Ty) (v:t.den)
 |ol (k:H)
 |bp (k:H) (c:H)
 |ep (k:H) (i:H) (c:H)
 |tl (k:H) (i:H)
 |hd (k:H) (i:H)
 |ip (ls:G TV)
 |clo (f:H) (bN:G Cap)
inductive Cel where
 |one (x:Leaf)
 |st (ls:G Leaf)
 |av (n:H) (a:Ty) (xs:G a.den)
inductive Slot where
 |one (c:Cel)
 |tup (l:G Cel)
 |cnd (s:H) (want:X) (c:Cel)
 |und
def jH{α β:Type}[BEq α](xs:G (α×β))(k:α):Bool:=xs.any λx=>k==x.1
def iN{α β:Type}[BEq α](d:β):G (α×β)->α->β
 |[],_=>d
 |x::r,k=>cond (k==x.1) x.2 (iN d r k)
def jW{α β:Type}[BEq α]:G (α×β)->α->β->G (α×β)
 |[],k,v=>[(k,v)]
 |x::r,k,v=>cond (k==x.1) ((k,v)::r) (x::jW r k v)
@[reducible] def Ty.keq:(t:Ty)->BEq t.den
 |.int _=>⟨λ(a b:Ä)=>a==b⟩
 |.str=>⟨λ(a b:È)=>a==b⟩
 |_=>⟨λ_ _=>J⟩
def Ty.isKey:Ty->X
 |.int _|.str=>U
 |_=>J
def dr(s:È)(i:Ä):Int:=(s.data.getD i.toNat 0).toNat
def isM(e:H):Bool:=Nat.ble 4294967296 e
inductive Bx where
 |cell (ls:G Leaf) (frz:X)
 |lst (e:H) (a:Ty) (xs:G a.den) (frz:X)
 |arr (n:H) (a:Ty) (xs:G a.den)
inductive BS where
 |free|gone|live (b:Bx)
def mskM(rd:H->BS)(k:H):BS:=match rd k with
 |.live (.lst e a xs f)=>if isM e then .gone else .live (.lst e a xs f)
 |b=>b
structure St where
 sl:H->Slot
 bx:H->BS
def St.setS(σ:St)(i:H)(s:Slot):St:={ σ with sl:=λj=>if j=i then s else σ.sl j }
def St.setB(σ:St)(k:H)(b:BS):St:={ σ with bx:=λj=>if j=k then b else σ.bx j }
inductive Item where
 |s (c:Cel)
 |b (x:BS)
abbrev Snap:=G Item
inductive Arg where
 |v (x:TV)
 |ref (ls:G TV)
 |rl (e:H) (x:TV)
 |ip (ls:G TV)
 |clo (f:H) (bN:G Cap)
 |mv (e:H) (x:TV)
inductive RL where
 |d (x:TV)
 |own (e:H) (x:TV)
inductive SoK where
 |d (t:Ty)
 |own (e:H) (a:Ty)
inductive RV where
 |v (x:TV)
 |own (e:H) (x:TV)
 |box (ls:G TV)
 |hd (n:H)
 |vn (x:TV) (ns:G H)
 |clo (f:H) (bN:G Cap)
 |so (ls:G RL)
inductive Out where
 |ref (ls:G TV)
 |rl (x:TV)
structure Ret where
 vals:G RV
 outs:G Out
inductive Ex where
 |normal|exit (id:H)|ret
 deriving ä
inductive Loc where
 |slot (i:H)
 |cell (k c:H)
 deriving ä
structure qE where
 name:H
 e:H
 a:Ty
 locs:G Loc
 frz:X
structure Keep where
 slots:G H
 boxes:G H
 lists:G qE
 datas:G (Loc×Ty):=[]
structure TyI where
 size:H
 agg:X
 ty:F Ty
 flds:G (H×H)
 elem:H
 cmp:G Ty:=[]
 mp:F (H×H):=B
def parK(np k:H):Bool:=W (k%64=0)&&W (k/64<np)
structure NT where
 n:H
 pin:H->X
instance(n:H):OfNat NT n:=⟨⟨n,λ_=>J⟩⟩
def NT.ok(N:NT)(d:H):Prop:=d<N.n/\N.pin d=J
structure Env where
 N:NT
 np:H
 T:H->F TyI
 C:H->G Arg->(R:Type)->(Ret->F R)->F R
 modes:H->G X
 L:H->Snap->(R:Type)->(Ex->Snap->F R)->F R
 keep:H->Keep
 keepX:H->Ex->Keep
 ro:G X
 dw:H->G (G H):=λ_=>[]
 nz:Bool:=J
 hd:Bool:=J
 ns:G Nat:=[]
 bw:H->F (X×Ty):=λ_=>B
 so:G SoK:=[]
 mvf:H->Bool:=λ_=>J
def insI(x:Ä):G Ä->G Ä
 |[]=>[x]
 |y::ys=>cond (W (x<=y)) (x::y::ys) (y::insI x ys)
def Di:G Ä->G Ä
 |[]=>[]
 |x::xs=>insI x (Di xs)
def LL:I->Leaf
 |.int k n=> .d (.int k) n
 |.bool b=> .d .bool b
 |.string s=> .d .str s
 |.slice B 0 0=> .nil
 |_=> .dead
def St.ev(σ:St):Ë->Slot
 |.tmp t=>σ.sl t
 |.const v=> .one (.one (LL v))
 |.func f=> .one (.one (.clo f []))
 |.global _=> .one (.one .dead)
def qF(ops:Ç Æ)(o:Æ):F (H×X):=
 match o.guard with
 |none=>B
 |some (j,w)=>match ops[j]? with
  |some oj=>match oj.dst with
   |some s=>D (s,w)
   |none=>B
  |none=>B
def St.chain(σ:St):H->H×X->G (H×X)
 |0,g=>[g]
 |n+1,g=>match σ.sl g.1 with
  |.cnd s w _=>g::σ.chain n (s,w)
  |_=>[g]
def Slot.cel(act:G (H×X)):Slot->Cel
 |.one c=>c
 |.tup _=> .one .dead
 |.und=> .one .dead
 |.cnd s w c=>if act.contains (s,w) then c else .one .dead
abbrev Ups:=G (H×BS)
def scat:(t:Ty)->t.den->G TV
 |.unit,_=>[]
 |.wrap a,v=>scat a v
 |.pair a b,v=>scat a v.1++scat b v.2
 |.arr n a,v=>(Ø n).flatMap λi=>scat a (É v i a.dflt)
 |t,v=>[⟨t,v⟩]
def TV.leaf(x:TV):Leaf:= .d x.t x.v
def pF:Ty->G Leaf
 |.unit=>[]
 |.wrap a=>pF a
 |.pair a b=>pF a++pF b
 |.arr n a=>(Ø n).flatMap λ_=>pF a
 |.list _=>[.nil]
 |t=>[.d t t.dflt]
def kK(rd:H->BS)(t:Ty):Leaf->F (t.den×Ups)
 |.d t' v=>match (TV.mk t' v).to t with
  |some v'=>D (v',[])
  |none=>B
 |.nil=>match t with
  |.list _=>D ([],[])
  |_=>B
 |.ol k=>match rd k with
  |.live (.lst e a xs _)=>match (TV.mk (.list a) xs).to t with
   |some v'=>D (v',[(k,.live (.lst e a xs U))])
   |none=>B
  |_=>B
 |_=>B
def gath(rd:H->BS):(t:Ty)->G Leaf->F (t.den×G Leaf×Ups)
 |.unit,ls=>D ((),ls,[])
 |.wrap a,ls=>match gath rd a ls with
  |some (x,r,u)=>D (x,r,u)
  |none=>B
 |.pair a b,ls=>match gath rd a ls with
  |some (x,r,u)=>match gath rd b r with
   |some (y,r',u')=>D ((x,y),r',u++u')
   |none=>B
  |none=>B
 |.arr _ _,_=>B
 |t,l::ls=>match kK rd t l with
  |some (v,u)=>D (v,ls,u)
  |none=>B
 |_,[]=>B
def Ty.agg:Ty->X
 |.unit|.wrap _|.pair _ _=>U
 |_=>J
def rJ(rd:H->BS)(t:Ty):Cel->F (t.den×Ups)
 |.one l=>if t.agg then B else match gath rd t [l]with
  |some (v,[],u)=>D (v,u)
  |_=>B
 |.st ls=>if t.agg then match gath rd t ls with
  |some (v,[],u)=>D (v,u)
  |_=>B
  else B
 |.av n a xs=>match (TV.mk (.arr n a) xs).to t with
  |some v=>D (v,[])
  |none=>B
def rK:(t:Ty)->t.den->Cel
 |.arr n a,v=> .av n a v
 |t,v=>if t.agg then .st ((scat t v).map TV.leaf) else .one (.d t v)
def Cel.leaves:Cel->F (G Leaf)
 |.one .dead=>B
 |.one l=>D [l]
 |.st ls=>D ls
 |.av _ _ _=>B
def cmpI(op:ã)(x y:Ä):F Bool:=
 match op with
 |.eql=>D (x==y)
 |.neq=>D (x != y)
 |.lss=>D (W (x<y))
 |.leq=>D (W (x<=y))
 |.gtr=>D (W (x>y))
 |.geq=>D (W (x>=y))
 |_=>B
def eqT:TV->TV->F X
 |⟨.int k,x⟩,⟨.int k',y⟩=>if k=k' then D ((show Ä from x)==(show Ä from y)) else B
 |⟨.bool,x⟩,⟨.bool,y⟩=>D ((show X from x)==(show X from y))
 |⟨.str,x⟩,⟨.str,y⟩=>D ((show È from x).toList==(show È from y).toList)
 |_,_=>B
def eqL:G Ty->G Leaf->G Leaf->F X
 |[],[],[]=>D U
 |k::ks,.d t x::l,.d t' y::l'=>if t=k/\t'=k then match eqT ⟨t,x⟩ ⟨t',y⟩with
  |some b=>match ks with
   |[]=>match l,l' with
    |[],[]=>D b
    |_,_=>B
   |ks=>match eqL ks l l' with
    |some b'=>D (b&&b')
    |none=>B
  |none=>B
  else B
 |_,_,_=>B
def binI(op:ã)(k:Î)(x y:Ä):F (X×Leaf):=
 match op with
 |.add=>D (U,.d (.int k) (k.wrap (x+y)))
 |.sub=>D (U,.d (.int k) (k.wrap (x-y)))
 |.mul=>D (U,.d (.int k) (k.wrap (x*y)))
 |.quo=>D (!(y==0),.d (.int k) (k.wrap (x.tdiv y)))
 |.rem=>D (!(y==0),.d (.int k) (x.tmod y))
 |.shr=>if W ((0:Ä)<=y) then D (U,.d (.int k) (ê x (2^min (Â y) k.bits))) else B
 |.and|.or|.xor|.andNot|.shl=>B
 |op=>match cmpI op x y with
  |some b=>D (U,.d .bool b)
  |none=>B
def Ul(ti:F TyI):Bool:=match ti with
 |some t=>W (t.ty=D .bool)
 |none=>J
def xj(ti:F TyI):G Ty:=match ti with
 |some t=>t.cmp
 |none=>[]
def binC(ti:F TyI)(op:ã):Cel->Cel->F (X×Leaf)
 |.one (.d (.int k) x),.one (.d (.int k') y)=>if k=k' then binI op k x y else
  match op with
  |.shr=>if W ((0:Ä)<=y) then D (U,.d (.int k) (ê x (2^min (Â y) k.bits))) else B
  |_=>B
 |.one (.d .bool x),.one (.d .bool y)=>if Ul ti then match op with
  |.eql=>D (U,.d .bool ((show X from x)==(show X from y)))
  |.neq=>D (U,.d .bool (!((show X from x)==(show X from y))))
  |_=>B
  else B
 |.one (.d .str x),.one (.d .str y)=>match op with
  |.eql=>D (U,.d .bool ((show È from x).toList==(show È from y).toList))
  |.neq=>D (U,.d .bool (!((show È from x).toList==(show È from y).toList)))
  |_=>B
 |.st l,.st l'=>if (xj ti).isEmpty then B else match op with
  |.eql=>match eqL (xj ti) l l' with
   |some b=>D (U,.d .bool b)
   |none=>B
  |.neq=>match eqL (xj ti) l l' with
   |some b=>D (U,.d .bool (!b))
   |none=>B
  |_=>B
 |_,_=>B
def unC(op:UnOp):Cel->F Leaf
 |.one (.d .bool x)=>match op with
  |.not=>D (.d .bool (!(show X from x)))
  |_=>B
 |.one (.d (.int k) x)=>match op with
  |.neg=>D (.d (.int k) (k.wrap (0-(show Ä from x))))
  |_=>B
 |_=>B
def u4(ti:TyI)(ls:G Leaf):F Cel:=
 if ti.agg then (if ls.length=ti.size then D (.st ls) else B)
 else match ls with
  |[l]=>D (.one l)
  |_=>B
def qG(rd:H->BS)(ti:TyI):Leaf->F Cel
 |.bp k c=>match rd k with
  |.live (.cell ls _)=>u4 ti ((ls.drop c).take ti.size)
  |.live (.arr n a xs)=>if c=0/\ti.ty=D (.arr n a) then D (.av n a xs) else B
  |_=>B
 |.ep k i c=>match rd k with
  |.live (.lst e a xs _)=>u4 ti ((((scat a (É xs i a.dflt)).map TV.leaf).drop c).take ti.size)
  |.live (.arr _ a xs)=>u4 ti ((((scat a (É xs i a.dflt)).map TV.leaf).drop c).take ti.size)
  |_=>B
 |.ip ls=>u4 ti ((ls.map TV.leaf).take ti.size)
 |_=>B
def sx(ls:G Leaf)(c:H)(new:G Leaf):G Leaf:=ls.take c++new++ls.drop (c+new.length)
def xk(rd rdf:H->BS)(sz:H)(val:Cel):Leaf->F Ups
 |.bp k c=>match rd k with
  |.live (.cell ls J)=>match val.leaves with
   |some new=>if new.length=sz/\c+new.length<=ls.length then D [(k,.live (.cell (sx ls c new) J))] else B
   |none=>B
  |.live (.arr n a _)=>if c=0 then match val with
    |.av n' a' ys=>match (TV.mk (.arr n' a') ys).to (.arr n a) with
     |some LM=>if sz=n*a.size then D [(k,.live (.arr n a LM))] else B
     |none=>B
    |_=>B
   else B
  |_=>B
 |.ep k i c=>match rd k with
  |.live (.lst el a xs J)=>match val.leaves with
   |some new=>if new.length=sz/\c+new.length<=a.size then match gath rdf a (sx ((scat a (É xs i a.dflt)).map TV.leaf) c new) with
    |some (e,[],u)=>if u.any (λy=>y.1==k) then B else D (u++[(k,.live (.lst el a (ú xs i e) J))])
    |_=>B
    else B
   |none=>B
  |.live (.arr n a xs)=>match val.leaves with
   |some new=>if new.length=sz/\c+new.length<=a.size then match gath rdf a (sx ((scat a (É xs i a.dflt)).map TV.leaf) c new) with
    |some (e,[],u)=>if u.any (λy=>y.1==k) then B else D (u++[(k,.live (.arr n a (ú xs i e)))])
    |_=>B
    else B
   |none=>B
  |_=>B
 |_=>B
def isLive:BS->X
 |.live _=>U
 |_=>J
def rL(rd:H->BS)(ti:TyI)(i:H):Leaf->F Leaf
 |.bp k c=>match ti.flds[i]? with
  |some f=>if isLive (rd k) then D (.bp k (c+f.1)) else B
  |none=>B
 |.ep k j c=>match ti.flds[i]? with
  |some f=>if isLive (rd k) then D (.ep k j (c+f.1)) else B
  |none=>B
 |.ip ls=>match ti.flds[i]? with
  |some f=>D (.ip (ls.drop f.1))
  |none=>B
 |_=>B
def qH(t:F Ty):Bool:=match t with
 |some (.list _)=>U
 |_=>J
def u5(rd:H->BS)(a:Ty):G Leaf->F (G a.den×Ups)
 |[]=>D ([],[])
 |l::ls=>match kK rd a l,u5 rd a ls with
  |some (x,u),D (xs,v)=>D (x::xs,u++v)
  |_,_=>B
def u6(rd:H->BS)(t:F Ty):Leaf->F (H×Ty×G Leaf)
 |.bp k 0=>match t with
  |some (.arr m a)=>if qH (D a) then match rd k with
   |.live (.cell ls J)=>D (m,a,ls)
   |_=>B
   else B
  |_=>B
 |_=>B
def inR(i:Ä)(n:H):Bool:=W (0<=i)&&W (i<(n:Ä))
def u7(rd:H->BS)(ti:TyI):Leaf->Leaf->F (X×Leaf)
 |.ol k,.d (.int _) i=>match rd k with
  |.live (.lst e a xs _)=>if ti.ty=D (.list a) then D (inR i xs.length,.ep k (Â i) 0) else B
  |_=>B
 |.d (.list a) xs,.d (.int _) i=>if ti.ty=D (.list a) then D (inR i (Ã xs),.ip (scat a (É xs (Â i) a.dflt))) else B
 |.bp k 0,.d (.int _) i=>match rd k with
  |.live (.arr n a _)=>if ti.ty=D (.arr n a) then D (inR i n,.ep k (Â i) 0) else B
  |.live (.cell _ _)=>match ti.ty with
   |some (.arr n a)=>if qH (D a) then D (inR i n,.bp k (Â i)) else B
   |_=>B
  |_=>B
 |.tl k j,.d (.int _) i=>match rd k with
  |.live (.lst e a xs _)=>if ti.ty=D (.list a) then D (inR i (xs.length-j),.ep k (j+Â i) 0) else B
  |_=>B
 |_,_=>B
def idxV(ti:TyI):Cel->Leaf->F (X×Cel)
 |.av n a xs,.d (.int _) i=>if ti.ty=D (.arr n a) then D (inR i n,rK a (É xs (Â i) a.dflt)) else B
 |.one (.d .str s),.d (.int _) i=>if ti.ty=D .str then D (inR i s.size,.one (.d (.int .u8) (dr s i))) else B
 |_,_=>B
def BM(ti:TyI)(sz:H->F H):G Leaf->G (H×Cel)->F (G Leaf)
 |ls,[]=>D ls
 |ls,(i,c)::r=>match ti.flds[i]? with
  |some f=>match c.leaves with
   |some new=>if sz f.2=D new.length/\f.1+new.length<=ls.length then BM ti sz (sx ls f.1 new) r else B
   |none=>B
  |none=>B
def lG(rd:H->BS)(a:Ty):G a.den->Ups->G (H×Cel)->F (G a.den×Ups)
 |xs,u,[]=>D (xs,u)
 |xs,u,(i,c)::r=>match rJ rd a c with
  |some (x,u')=>if i<xs.length then lG rd a (xs.set i x) (u++u') r else B
  |none=>B
def lenC(rd:H->BS)(t:F Ty):Leaf->F Leaf
 |.nil=>if qH t then D (.d (.int .i64) (0:Ä)) else B
 |.ol k=>match rd k with
  |.live (.lst _ _ xs _)=>if qH t then D (.d (.int .i64) (xs.length:Ä)) else B
  |_=>B
 |.d (.list _) xs=>if qH t then D (.d (.int .i64) ((Ã xs:H):Ä)) else B
 |.d .str s=>if t=D .str then D (.d (.int .i64) ((ByteArray.size s:H):Ä)) else B
 |.tl k j=>match rd k with
  |.live (.lst _ _ xs _)=>if qH t then D (.d (.int .i64) ((xs.length-j:H):Ä)) else B
  |_=>B
 |.hd k i=>match rd k with
  |.live (.lst _ _ _ _)=>if qH t then D (.d (.int .i64) (i:Ä)) else B
  |_=>B
 |_=>B
def minC:G Cel->F Leaf
 |[.one (.d (.int k) x),.one (.d (.int k') y)]=>if k=k' then D (.d (.int k) (if (show Ä from y)<x then y else x:Ä)) else B
 |_=>B
def maxC:G Cel->F Leaf
 |[.one (.d (.int k) x),.one (.d (.int k') y)]=>if k=k' then D (.d (.int k) (if (show Ä from y)>x then y else x:Ä)) else B
 |_=>B
def nk:BS->X
 |.free=>U
 |_=>J
def aG:Nat:=4294967296
def appS(rd:H->BS)(e:H)(a:Ty):Leaf->F (G a.den×X×Ups)
 |.ol k=>match rd k with
  |.live (.lst e' a' xs frz)=>match (TV.mk (.list a') xs).to (.list a) with
   |some dj=>if e'=e then D (dj,frz,[(k,.gone)]) else B
   |none=>B
  |_=>B
 |.nil=>D ([],J,[])
 |_=>B
def appX(rd:H->BS)(a:Ty):Leaf->F (G a.den)
 |.ol k=>match rd k with
  |.live (.lst _ a' xs _)=>(TV.mk (.list a') xs).to (.list a)
  |_=>B
 |.d t xs=>(TV.mk t xs).to (.list a)
 |.nil=>D []
 |.tl k j=>match rd k with
  |.live (.lst _ a' xs _)=>match (TV.mk (.list a') xs).to (.list a) with
   |some dj=>D (Õ j dj)
   |none=>B
  |_=>B
 |_=>B
def bnd(d:H):F Leaf->F Ä
 |none=>D d
 |some (.d (.int _) i)=>D i
 |some _=>B
def BN(par:H->X)(rd:H->BS)(ti:TyI)(n:H)(x:Leaf)(lo hi:F Leaf):F (X×Leaf×Ups):=
 match x with
 |.d (.list a) xs=>if ti.ty=D (.list a) then match bnd 0 lo,bnd (Ã xs) hi with
  |some i,D j=>D (W (0<=i)&&(W (i<=j)&&W (j<=(Ã xs:Ä))),.d (.list a) (Õ (Â i) (Ï (Â j) xs)),[])
  |_,_=>B
  else B
 |.ol k=>match hi with
  |none=>match rd k with
   |.live (.lst _ a xs _)=>if ti.ty=D (.list a) then match bnd 0 lo with
    |some i=>D (W (0<=i)&&W (i<=(xs.length:Ä)),.tl k (Â i),[])
    |none=>B
    else B
   |_=>B
  |some _=>match rd k with
   |.live (.lst e a xs f)=>if ti.ty=D (.list a) then match bnd 0 lo,bnd xs.length hi with
    |some i,D j=>if par k then
      (if lo.isNone then D (W (0<=j)&&W (j<=(xs.length:Ä)),.hd k (Â j),[]) else B)
     else if lo.isNone && !f then
      (if nk (rd n) then D (W (0<=j)&&W (j<=(xs.length:Ä)),.ol n,[(k,.gone),(n,.live (.lst e a (Ï (Â j) xs) J))]) else B)
     else D (W (0<=i)&&(W (i<=j)&&W (j<=(xs.length:Ä))),.d (.list a) (Õ (Â i) (Ï (Â j) xs)),[(k,.live (.lst e a xs U))])
    |_,_=>B
    else B
   |_=>B
 |.hd k _=>match rd k with
  |.live (.lst _ a xs _)=>if ti.ty=D (.list a)/\hi.isSome=U then match bnd 0 lo,bnd 0 hi with
   |some i,D j=>D (W (0<=i)&&(W (i<=j)&&W (j=(xs.length:Ä))),.tl k (Â i),[])
   |_,_=>B
   else B
  |_=>B
 |_=>B
def BO(rd:H->BS)(ti:TyI)(x:Leaf)(lo hi:F Leaf)(mx:Leaf):F Bool:=
 match x,lo,hi,mx with
 |.ol k,D (.d (.int _) i),D (.d (.int _) j),.d (.int _) m=>match rd k with
  |.live (.lst _ a xs _)=>if ti.ty=D (.list a) then D (W ((0:Ä)<=i)&&(W ((show Ä from i)<=j)&&(W ((show Ä from j)<=m)&&W (m<=(xs.length:Ä))))) else B
  |_=>B
 |_,_,_,_=>B
def appH(rd:H->BS)(el:H)(a:Ty)(s x:Leaf):F (X×Leaf×Ups):=
 match s,x with
 |.hd k i,.tl k' j=>if k=k' then match rd k with
  |.live (.lst e b xs J)=>if b=a/\e=el then D (W (i<=j),.hd k (i+(xs.length-j)),[(k,.live (.lst e b (Ï i xs++(Õ j xs++Õ (i+(xs.length-j)) xs)) J))]) else B
  |_=>B
  else B
 |_,_=>B
def HA:Leaf->F (H×H)
 |.ol k=>D (k,0)
 |.tl k i=>D (k,i)
 |_=>B
def over{α:Type}(xs:G α)(i:H)(ys:G α):G α:=Ï i xs++(Ï (xs.length-i) ys++Õ (i+ys.length) xs)
def BP(rd:H->BS)(t:F Ty)(x y:Leaf):F (Leaf×Ups):=
 match HA x with
 |some (k,i)=>match rd k with
  |.live (.lst e a xs J)=>if t=D (.list a) then match appX rd a y with
   |some ys=>D (.d (.int .i64) ((min ys.length (xs.length-i):H):Ä),[(k,.live (.lst e a (over xs i ys) J))])
   |none=>B
   else B
  |_=>B
 |none=>B
def BQ(rd:H->BS)(t:F Ty)(x:Leaf):F Ups:=
 match HA x with
 |some (k,i)=>match rd k with
  |.live (.lst e a xs J)=>if t=D (.list a) then D [(k,.live (.lst e a (Ï i xs++Ê (xs.length-i) a.dflt) J))] else B
  |_=>B
 |none=>B
inductive Act where
 |val (lI:X) (s:Slot) (ups:Ups)
 |call (f:H) (args:G Arg) (mk:Ret->F (Slot×Ups))
def Act.leaf(x:Leaf):Act:= .val U (.one (.one x)) []
def Act.cel(x:Cel):Act:= .val U (.one x) []
def oE(x:F Leaf):F Act:=match x with
 |some c=>D (.leaf c)
 |none=>B
def oCel(x:F Cel):F Act:=match x with
 |some c=>D (.cel c)
 |none=>B
def oChk(x:F (X×Leaf)):F Act:=match x with
 |some (b,c)=>D (.val b (.one (.one c)) [])
 |none=>B
def tvs(rd:H->BS):G Leaf->F (G TV×Ups)
 |[]=>D ([],[])
 |l::ls=>match tvs rd ls with
  |some (xs,u)=>match l with
   |.d t v=>D (⟨t,v⟩::xs,u)
   |.ol k=>match rd k with
    |.live (.lst e a es _)=>D (⟨.list a,es⟩::xs,(k,.live (.lst e a es U))::u)
    |_=>B
   |_=>B
  |none=>B
def xl(rd:H->BS):G Cel->F (G Cap×Ups)
 |[]=>D ([],[])
 |c::r=>match xl rd r with
  |some (l,u)=>match c with
   |.one (.d t v)=>if t.leafy then D (.v ⟨t,v⟩::l,u) else B
   |.one (.bp k 0)=>match rd k with
    |.live (.cell ls _)=>match tvs rd ls with
     |some (xs,u')=>if (u++u').any (λy=>y.1==k) then B else D (.p xs::l,(u++u')++[(k,.live (.cell (xs.map TV.leaf) U))])
     |none=>B
    |_=>B
   |_=>B
  |none=>B
inductive Bk where
 |ref (k:H)
 |rl (k e:H) (a:Ty)
 |mv (k e:H) (a:Ty)
def Bk.name:Bk->H
 |.ref k=>k
 |.rl k _ _=>k
 |.mv k _ _=>k
def Bk.isMv:Bk->X
 |.mv _ _ _=>U
 |_=>J
def xm(rd rdf:H->BS)(t:F TyI)(mv rl:X)(c:Cel):F (Arg×Ups×F Bk):=
 match c with
 |.one (.bp k 0)=>match rd k with
  |.live (.cell ls U)=>match tvs rdf ls with
   |some (xs,u)=>D (.ip xs,u,B)
   |none=>B
  |.live (.cell ls J)=>match tvs rdf ls with
   |some (xs,u)=>D (.ref xs,u,D (.ref k))
   |none=>B
  |_=>B
 |.one (.ip ls)=>D (.ip ls,[],B)
 |.one (.clo f bN)=>D (.clo f bN,[],B)
 |.one (.ol k)=>match rl with
  |true=>cond mv (match rdf k with
   |.live (.lst e a xs J)=>D (.mv e ⟨.list a,xs⟩,[],D (.mv k e a))
   |_=>B) (match rd k with
   |.live (.lst e a xs J)=>D (.rl e ⟨.list a,xs⟩,[],D (.rl k e a))
   |_=>B)
  |false=>match rdf k with
   |.live (.lst e a xs _)=>D (.v ⟨.list a,xs⟩,[(k,.live (.lst e a xs U))],B)
   |_=>B
 |c=>match t with
  |some ti=>match ti.ty with
   |some ty=>match rJ rdf ty c with
    |some (x,u)=>D (.v ⟨ty,x⟩,u,B)
    |none=>B
   |none=>B
  |none=>B
def rM(rd rdf:H->BS)(T:H->F TyI)(mv:X):G H->G X->G Cel->F (G Arg×Ups×G Bk)
 |_,_,[]=>D ([],[],[])
 |ts,ms,c::r=>match xm rd rdf (ts.head?.bind T) mv (ms.headD J) c with
  |some (a,u,f)=>match rM rd rdf T mv ts.tail ms.tail r with
   |some (as,us,fs)=>D (a::as,u++us,f.toList++fs)
   |none=>B
  |none=>B
def qI:Cap->Arg
 |.v x=> .v x
 |.p ls=> .ip ls
def HB:Bk->Out->F (H×BS)
 |.ref k,.ref ys=>D (k,.live (.cell (ys.map TV.leaf) J))
 |.rl k e a,.rl y=>match y.to (.list a) with
  |some ys=>D (k,.live (.lst e a ys J))
  |none=>B
 |_,_=>B
def nn:G Bk->G Out->F Ups
 |[],[]=>D []
 |.mv k _ _::fs,xs=>match nn fs xs with
  |some u=>D ((k,.gone)::u)
  |none=>B
 |f::fs,x::xs=>match HB f x with
  |some y=>match nn fs xs with
   |some u=>D (y::u)
   |none=>B
  |none=>B
 |_,_=>B
def rN:G H->X
 |[]=>U
 |x::xs=> !xs.contains x&&rN xs
def bkOk(us:Ups)(fs:G Bk):Bool:=rN (fs.map Bk.name)&&us.all λx=> !(fs.map Bk.name).contains x.1
def soL:H->G RL->F (G Leaf×Ups)
 |_,[]=>D ([],[])
 |n,.d x::r=>match soL (n+1) r with
  |some (l,u)=>D (.d x.t x.v::l,u)
  |none=>B
 |n,.own e ⟨.list a,xs⟩::r=>match soL (n+1) r with
  |some (l,u)=>D (.ol n::l,(n,.live (.lst e a xs J))::u)
  |none=>B
 |_,.own _ _::_=>B
def HC(n:H):RV->F (Cel×Ups)
 |.v x=>D (rK x.t x.v,[])
 |.own e ⟨.list a,xs⟩=>D (.one (.ol n),[(n,.live (.lst e a xs J))])
 |.own _ _=>B
 |.box ls=>D (.one (.bp n 0),[(n,.live (.cell (ls.map TV.leaf) J))])
 |.hd _=>B
 |.vn x ns=>match rK x.t x.v with
  |.st ls=>D (.st (ls.zipIdx.map λy=>if ns.contains y.2 then .nil else y.1),[])
  |c=>D (c,[])
 |.clo f bN=>D (.one (.clo f bN),[])
 |.so ls=>match soL n ls with
  |some (l,u)=>D (.st l,u)
  |none=>B
def rvW:RV->H
 |.so ls=>ls.length
 |_=>1
def xn:H->G RV->F (G Cel×Ups)
 |_,[]=>D ([],[])
 |n,r::rs=>match HC n r with
  |some (c,u)=>match xn (n+rvW r) rs with
   |some (cs,us)=>D (c::cs,u++us)
   |none=>B
  |none=>B
def RV.flat:RV->X
 |.v x=>x.t.flat
 |.own _ x=>match x.t with
  |.list a=>a.flat
  |_=>J
 |.box _=>J
 |.hd _=>J
 |.vn _ _=>J
 |.clo _ _=>J
 |.so _=>J
def Out.flat:Out->X
 |.ref ls=>ls.all λx=>x.t.flat
 |.rl x=>x.t.flat
def mkHd(rd rdf:H->BS)(n:H)(us:Ups)(fs:G Bk)(m:H)(os:G Out):F (Slot×Ups):=
 match fs,os with
 |.rl k e a::_,.rl y::_=>match nn fs os,y.to (.list a) with
  |some uo,D ys=>if nk (rd n)&&isLive (rdf k) then D (.one (.one (.ol n)),us++uo++[(k,.gone),(n,.live (.lst e a (Ï m ys) J))]) else B
  |_,_=>B
 |_,_=>B
def Um:G Cel->Slot
 |[c]=> .one c
 |cs=> .tup cs
def zL(rd rdf:H->BS)(n:H)(us:Ups)(fs:G Bk)(r:Ret):F (Slot×Ups):=
 match r.vals with
 |[.hd m]=>mkHd rd rdf n us fs m r.outs
 |_=>match nn fs r.outs with
 |some uo=>match xn n r.vals with
  |some (cs,un)=>
   if un.all (λe=>nk (rd e.1)) then
    let u:=(if r.vals.all RV.flat&&r.outs.all Out.flat then [] else us)++uo++un
    match cs with
    |[c]=>D (.one c,u)
    |cs=>D (.tup cs,u)
   else B
  |none=>B
 |none=>B
def lf(c:Cel):Leaf:=match c with|.one y=>y|_=> .dead
def HD(x:Ë)(b:X)(act:G (H×X)):G (H×X):=match x with
 |.tmp s=>(s,b)::act
 |_=>act
def zM(T:H->F TyI)(t:H):F (Ty×Ty):=match T t with
 |some ti=>match ti.mp with
  |some (k,v)=>match T k,T v with
   |some tk,D tv=>match tk.ty,tv.ty with
    |some k,D v=>if k.isKey then D (k,v) else B
    |_,_=>B
   |_,_=>B
  |none=>B
 |none=>B
def mapC(rw:H->BS)(t:H)(k v:Ty)(x y:Leaf):F (H×G (k.den×v.den)×k.den):=match x,y with
 |.ol b,.d tk key=>match rw b with
  |.live (.lst e a xs J)=>if e=4294967296+t then match (TV.mk (.list a) xs).to (.list (.pair k v)),(TV.mk tk key).to k with
    |some ys,D q=>D (b,ys,q)
    |_,_=>B
   else B
  |_=>B
 |_,_=>B
def dU(E:Env)(ev:Ë->Slot)(rw:H->BS)(act:G (H×X))(o:Æ):F Act:=
 let rd:=mskM rw
 let c (x:Ë):Cel:=(ev x).cel act
 let l (x:Ë):Leaf:=lf (c x)
 let n:=(o.dst.getD 0)*64
 let rdf (k:H):BS:=if parK E.np k then .gone else rd k
 match o.op with
 |.move x|.assign x=>match ev x with
  |.tup l=>D (.val U (.tup l) [])
  |s=>D (.cel (s.cel act))
 |.pick x a b=>match l x with
  |.d .bool v=>
   match (ev a).cel (HD x U act),(ev b).cel (HD x J act) with
   |.one (.d t p),.one (.d t' q)=>match (TV.mk t' q).to t with
    |some q'=>D (.leaf (.d t (cond v p q')))
    |none=>B
   |.one (.d t p),.one .dead=>D (.val v (.one (.one (.d t p))) [])
   |.one .dead,.one (.d t q)=>D (.val (!(show X from v)) (.one (.one (.d t q))) [])
   |_,_=>B
  |_=>B
 |.alloc t=>match E.T t with
  |some ti=>if nk (rd n) then match ti.ty with
    |some (.arr k a)=>if qH (D a) then D (.val U (.one (.one (.bp n 0))) [(n,.live (.cell (pF (.arr k a)) J))]) else D (.val U (.one (.one (.bp n 0))) [(n,.live (.arr k a (Ê k a.dflt)))])
    |some ty=>D (.val U (.one (.one (.bp n 0))) [(n,.live (.cell (pF ty) J))])
    |none=>B
   else B
  |none=>B
 |.box _ x=>if nk (rd n) then match c x with
   |.av k a xs=>D (.val U (.one (.one (.bp n 0))) [(n,.live (.arr k a xs))])
   |v=>match v.leaves with
    |some ls=>D (.val U (.one (.one (.bp n 0))) [(n,.live (.cell ls J))])
    |none=>B
  else B
 |.build t ps=>match E.T t with
  |some ti=>match ti.ty with
   |some (.arr k a)=>if qH (D a)&&ps.toList.isEmpty then D (.cel (.st (pF (.arr k a)))) else match lG rdf a (Ê k a.dflt) [] (ps.toList.map λp=>(p.1,c p.2)) with
    |some (xs,u)=>D (.val U (.one (.av k a xs)) u)
    |none=>B
   |some ty=>if ty.agg then match BM ti (λt=>(E.T t).map (·.size)) (pF ty) (ps.toList.map λp=>(p.1,c p.2)) with
    |some ls=>D (.cel (.st ls))
    |none=>B
    else B
   |none=>B
  |none=>B
 |.buildSlice t len ps=>match E.T t with
  |some ti=>match ti.ty with
   |some (.list a)=>if 16777216<len*a.size then B else match lG rdf a (Ê len a.dflt) [] (ps.toList.map λp=>(p.1,c p.2)) with
    |some (xs,u)=>if nk (rd n) then D (.val U (.one (.one (.ol n))) (u++[(n,.live (.lst ti.elem a xs J))])) else B
    |none=>B
   |_=>B
  |none=>B
 |.load t x=>match E.T t with
  |some ti=>match u6 rd ti.ty (l x) with
   |some (m,a,ls)=>match u5 rdf a ls with
    |some (xs,u)=>if xs.length=m then D (.val U (.one (.av m a xs)) u) else B
    |none=>B
   |none=>oCel (qG rd ti (l x))
  |none=>B
 |.store t x y=>match E.T t with
  |some ti=>match xk rd rdf ti.size (c y) (l x) with
   |some u=>D (.val U (.one (.one .dead)) u)
   |none=>B
  |none=>B
 |.nilCheck x=>match l x with
  |.bp k p=>if isLive (rd k) then D (.leaf (.bp k p)) else B
  |.ep k i p=>if isLive (rd k) then D (.leaf (.ep k i p)) else B
  |.ip ls=>D (.leaf (.ip ls))
  |_=>B
 |.binOp op t x y _=>oChk (binC (E.T t) op (c x) (c y))
 |.unOp op _ x=>oE (unC op (c x))
 |.convert src dst x=>match E.T src,E.T dst with
  |some ts,D ti=>match l x,ts.ty,ti.ty with
   |.d (.int _) v,D (.int _),D (.int k)=>D (.leaf (.d (.int k) (k.wrap v)))
   |_,_,_=>B
  |_,_=>B
 |.makeFunc (.func f) first bN=>if first.isEmpty then (match xl rdf (bN.toList.map c) with
   |some (l,u)=>D (.val U (.one (.one (.clo f l))) u)
   |none=>B)
  else B
 |.fieldAddr t x i=>match E.T t with
  |some ti=>oE (rL rd ti i (l x))
  |none=>B
 |.field t x i=>match E.T t with
  |some ti=>match c x,ti.flds[i]? with
   |.st ls,D f=>match E.T f.2 with
    |some tf=>oCel (u4 tf ((ls.drop f.1).take tf.size))
    |none=>B
   |_,_=>B
  |none=>B
 |.indexAddr t x i=>match E.T t with
  |some ti=>oChk (u7 rd ti (l x) (l i))
  |none=>B
 |.index t x i=>match E.T t with
  |some ti=>match idxV ti (c x) (l i) with
   |some (b,v)=>D (.val b (.one v) [])
   |none=>B
  |none=>B
 |.makeMap t B=>match zM E.T t with
  |some (k,v)=>if nk (rd n) then D (.val U (.one (.one (.ol n))) [(n,.live (.lst (4294967296+t) (.pair k v) [] J))]) else B
  |none=>B
 |.lookup t x i ok=>match zM E.T t with
  |some (k,v)=>match mapC rw t k v (l x) (l i) with
   |some (_,ys,q)=>match ok with
    |true=>D (.val U (.tup [rK v (@iN _ _ k.keq v.dflt ys q),.one (.d .bool (@jH _ _ k.keq ys q))]) [])
    |false=>D (.cel (rK v (@iN _ _ k.keq v.dflt ys q)))
   |none=>B
  |none=>B
 |.mapUpdate t x i y=>match zM E.T t with
  |some (k,v)=>match mapC rw t k v (l x) (l i),rJ rdf v (c y) with
   |some (b,ys,q),D (z,u)=>D (.val U (.one (.one .dead)) (u++[(b,.live (.lst (4294967296+t) (.pair k v) (@jW _ _ k.keq ys q z) J))]))
   |_,_=>B
  |none=>B
 |.extract x i=>match ev x with
  |.tup l=>match l[i]? with
   |some c=>D (.cel c)
   |none=>B
  |_=>B
 |.call cl=>match cl.callee with
  |.builtin .len=>match cl.args.toList,cl.argTypes.toList with
   |[x],[t]=>match E.T t with
    |some ti=>oE (lenC rd ti.ty (l x))
    |none=>B
   |_,_=>B
  |.builtin .min=>oE (minC (cl.args.toList.map c))
  |.builtin .max=>oE (maxC (cl.args.toList.map c))
  |.builtin .append=>match cl.argTypes.toList,cl.args.toList with
   |[t,t'],[s,x]=>if t=t' then match E.T t with
     |some ti=>match ti.ty with
      |some (.list a)=>match appH rd ti.elem a (l s) (l x) with
       |some (b,v,u)=>D (.val b (.one (.one v)) u)
       |none=>match appS rdf ti.elem a (l s),appX rd a (l x) with
        |some (xs,frz,u),D ys=>
         if nk (rd n) then D (.val (W (xs.length+ys.length<=aG)) (.one (.one (.ol n))) (u++[(n,.live (.lst ti.elem a (xs++ys) frz))])) else B
        |_,_=>B
      |_=>B
     |none=>B
    else B
   |_,_=>B
  |.value f=>match l f with
   |.clo g bN=>match rM rw rdf E.T (E.mvf g) cl.argTypes.toList (E.modes g) (cl.args.toList.map c) with
    |some (as,us,fs)=>if bkOk us fs then D (.call g (as++bN.map qI) (zL rd rdf n us fs)) else B
    |none=>B
   |_=>B
  |.builtin .copy=>match cl.argTypes.toList,cl.args.toList with
   |[t,t'],[x,y]=>if t=t' then match E.T t with
     |some ti=>match BP rd ti.ty (l x) (l y) with
      |some (v,u)=>D (.val U (.one (.one v)) u)
      |none=>B
     |none=>B
    else B
   |_,_=>B
  |.builtin .clear=>match cl.argTypes.toList,cl.args.toList with
   |[t],[x]=>match E.T t with
    |some ti=>match BQ rd ti.ty (l x) with
     |some u=>D (.val U (.one (.one .dead)) u)
     |none=>B
    |none=>B
   |_,_=>B
  |_=>B
 |.slice t x lo hi B=>match E.T t with
  |some ti=>match BN (parK E.np) rd ti n (l x) (lo.map l) (hi.map l) with
   |some (b,v,u)=>D (.val b (.one (.one v)) u)
   |none=>B
  |none=>B
 |.slice t x lo hi (D mx)=>match E.T t with
  |some ti=>match BO rd ti (l x) (lo.map l) (hi.map l) (l mx) with
   |some b=>D (.val b (.one (.one .dead)) [])
   |none=>B
  |none=>B
 |_=>B
def St.upd(σ:St):Ups->St
 |[]=>σ
 |e::u=>(σ.setB e.1 e.2).upd u
def kill(d:H):Slot->Slot
 |.cnd s w c=>if s=d then .one (.one .dead) else .cnd s w c
 |x=>x
def St.put(σ:St)(d:F H)(s:Slot):St:=
 match d with
 |none=>σ
 |some d=>{ σ with sl:=λj=>kill d (if j=d then s else σ.sl j) }
def St.setD(σ:St)(d:F H)(s:Slot):St:=
 match d with
 |none=>σ
 |some d=>σ.setS d s
def Ş:Slot->Slot
 |.cnd _ _ _=> .one (.one .dead)
 |x=>x
def St.clear(σ:St):St:={ σ with sl:=λj=>Ş (σ.sl j) }
def uD(N:NT)(o:Æ):Bool:=
 match o.dst with
 |none=>U
 |some d=>W (d<N.n) && !N.pin d
noncomputable def zN{R:Type}(e:X)(t f:F R):F R:=open Classical in cond e (if t=f then f else B) f
theorem ş{R:Type}(e:X)(t:F R):zN e t t=t:=by cases e<;>simp[zN]
theorem Š{R:Type}{e:X}{t f:F R}{r:R}(h:zN e t f=D r):f=D r/\(e=U->t=D r):=by
 cases e with
 |false=>exact⟨h,λh'=>by simp at h'⟩
 |true=>
  simp only[zN,j6]at h;split at h
  .rename_i he;exact⟨h,λ_=>he.trans h⟩
  .simp at h
def nilT(E:Env)(σ:St)(o:Æ):F Bool:=
 match o.op with
 |.binOp .eql t x y _=>match σ.ev x,σ.ev y,E.T t with
  |.one (.one (.d (.list _) xs)),.one (.one .nil),D ti=>if qH ti.ty then D (List.isEmpty xs) else B
  |_,_,_=>B
 |_=>B
noncomputable section
variable(E:Env){R:Type}
def run1(p:X)(σ:St)(act:G (H×X))(o:Æ)(k:St->F R):F R:=
 match cond E.nz (nilT E σ o) B with
 |some e=>zN e (k (cond p (σ.put o.dst (.one (.one (.d .bool U)))) (σ.setD o.dst (.one (.one (.d .bool U)))))) (k (cond p (σ.put o.dst (.one (.one (.d .bool J)))) (σ.setD o.dst (.one (.one (.d .bool J))))))
 |none=>
 match dU E σ.ev σ.bx act o with
 |none=>B
 |some (.val lI s u)=>cond lI (k (cond p ((σ.upd u).put o.dst s) ((σ.upd u).setD o.dst s))) B
 |some (.call f args mk)=>E.C f args R λret=>match mk ret with
  |some (s,u)=>k (cond p ((σ.upd u).put o.dst s) ((σ.upd u).setD o.dst s))
  |none=>B
def gval(σ:St)(s:H):F Bool:=
 match σ.sl s with
 |.one (.one (.d .bool v))=>D v
 |.cnd _ _ (.one (.d .bool v))=>D v
 |_=>B
def LN(r:G (H×X))(σ:St)(s:H):F Bool:=
 match σ.sl s with
 |.one (.one (.d .bool v))=>D v
 |.cnd s' w' (.one (.d .bool v))=>if r.contains (s',w') then D v else B
 |_=>B
def actB(σ:St):G (H×X)->F X
 |[]=>D U
 |(s,w)::r=>match gval σ s with
  |some v=>match r with
   |[]=>D (cond w v (!v))
   |r=>match actB σ r with
    |some b=>D (b&&cond w v (!v))
    |none=>B
  |none=>B
def xo:G (H×X)->St->(St->X->F R)->F R
 |[],σ,k=>k σ U
 |(s,w)::r,σ,k=>xo r σ λσ1 a=>match a with
  |true=>match LN r σ1 s with
   |some v=>cond v (k (σ1.setS s (.one (.one (.d .bool U)))) w) (k (σ1.setS s (.one (.one (.d .bool J)))) (!w))
   |none=>B
  |false=>k σ1 J
def Dj(ops:Ç Æ)(σ:St)(o:Æ)(k:St->F R):F R:=
 match qF ops o with
 |none=>match o.guard with
  |none=>run1 E U σ [] o k
  |some _=>B
 |some g=>
  let ch:=σ.chain 40 g
  let sy:=xo ch σ λσ' a=>match a with
   |true=>run1 E U σ' ch o k
   |false=>k (σ'.put o.dst (.one (.one .dead)))
  match dU E σ.ev σ.bx ch o with
  |some (.val lI (.one c) [])=>match actB σ ch with
   |some ab=>cond (lI || !ab) (k (σ.put o.dst (.cnd g.1 g.2 c))) B
   |none=>sy
  |_=>sy
def rO:G Æ->St->(St->F R)->F R
 |[],σ,k=>k σ
 |o::os,σ,k=>if uD E.N o then run1 E J σ [] o λσ'=>rO os σ' k else B
def BR(ops:Ç Æ):G Æ->St->(St->F R)->F R
 |[],σ,k=>k σ.clear
 |o::os,σ,k=>if uD E.N o then Dj E ops σ o λσ'=>BR ops os σ' k else B
def bare(ops:Ç Æ):Bool:=ops.toList.all λo=>o.guard.isNone
def rP(ops:Ç Æ)(σ:St)(k:St->F R):F R:=
 if bare ops then rO E ops.toList σ k else BR E ops ops.toList σ k
end
def qJ(o:Æ):G Nat:=o.after.toList.filterMap λe=>if Region.binds .any e then D e.on else B
def sE(o:Æ):Bool:=match o.op with
 |.nilCheck _|.fieldAddr _ _ _|.indexAddr _ _ _=>U
 |_=>J
def u9(o:Æ):Bool:=match o.op with
 |.store _ _ _=>U
 |_=>J
def š(cls:G H)(o:Æ):Nat:=(qJ o).foldl (λm j=>m|||(2^j|||cls.getD j 0)) 0
def Dk:G Æ->G H->G H
 |[],cls=>cls
 |o::os,cls=>Dk os (cls++[š cls o])
def Dl(cl:G H)(i j:H):Bool:=i==j||(cl.getD i 0).testBit j||(cl.getD j 0).testBit i
def Ţ(a b:G H):Bool:=a.all λk=> !b.contains k
def HE(ops:Ç Æ)(cl:G H)(A:G (G H))(i:H)(oi:Æ)(j:H)(oj:Æ):Bool:=
 (match oj.dst with
 |some t=>i==j||(oi.dst != D t&&(!(oi.looksAt ops).contains t||Dl cl i j))
 |none=>U)&&(A.isEmpty||Dl cl i j||Ţ (A.getD i []) (A.getD j []))
def Un(ops:Ç Æ)(cl:G H)(A:G (G H)):Bool:=
 ops.toList.zipIdx.all λx=>(qJ x.1).all (λj=>W (j<x.2))&&(A.isEmpty || !sE x.1||(A.getD x.2 []).isEmpty)&&ops.toList.zipIdx.all λy=>HE ops cl A x.2 x.1 y.2 y.1
def vA(ops:Ç Æ)(cl:G H)(A:G (G H))(i:H)(oi:Æ):G Nat:=
 if A.isEmpty then [] else ops.toList.zipIdx.flatMap λx=>if Dl cl i x.2||(sE oi&&u9 x.1) then [] else A.getD x.2 []
def jX(M:G H)(rd:H->BS)(k:H):BS:=if M.contains k then .gone else rd k
noncomputable section
variable(E:Env){R:Type}
def runD(M Ai:G H)(σ:St)(o:Æ)(k:St->F R):F R:=
 match dU E σ.ev (jX M σ.bx) [] o with
 |none=>B
 |some (.val lI s u)=>if u.all (λe=>Ai.contains e.1) then cond lI (k ((σ.upd u).setD o.dst s)) B else B
 |some (.call f args mk)=>E.C f args R λret=>match mk ret with
  |some (s,u)=>if u.all (λe=>Ai.contains e.1) then k ((σ.upd u).setD o.dst s) else B
  |none=>B
def LO(σ:St)(o:Æ)(k:St->F R):F R:=k (σ.setD o.dst .und)
def Dm(ops:Ç Æ)(M Ai:G H)(σ:St)(o:Æ)(k:St->F R):F R:=
 match o.guard with
 |none=>runD E M Ai σ o k
 |some _=>match qF ops o with
  |some (s,wn)=>match σ.sl s with
   |.one (.one (.d .bool v))=>
    cond v (cond wn (runD E M Ai (σ.setS s (.one (.one (.d .bool U)))) o k) (LO (σ.setS s (.one (.one (.d .bool U)))) o k))
     (cond wn (LO (σ.setS s (.one (.one (.d .bool J)))) o k) (runD E M Ai (σ.setS s (.one (.one (.d .bool J)))) o k))
   |.und=>LO σ o k
   |_=>B
  |none=>B
def BT(ops:Ç Æ)(cl:G H)(A:G (G H)):G Æ->H->St->(St->F R)->F R
 |[],_,σ,k=>k σ
 |o::os,i,σ,k=>if uD E.N o then Dm E ops (vA ops cl A i o) (A.getD i []) σ o λσ'=>BT ops cl A os (i+1) σ' k else B
def Dn(ops:Ç Æ)(A:G (G H))(σ:St)(k:St->F R):F R:=
 if Un ops (Dk ops.toList []) A then BT E ops (Dk ops.toList []) A ops.toList 0 σ k else B
end
def jY(σ:St):Loc->Leaf
 |.slot i=>match σ.sl i with
  |.one (.one x)=>x
  |_=> .dead
 |.cell k c=>match σ.bx k with
  |.live (.cell ls J)=>ls.getD c .dead
  |_=> .dead
def Dp(K:Keep)(l:Loc):F Nat:=(K.lists.find? λx=>x.locs.contains l).map (·.name)
def rQ(K:Keep)(loc:F Loc):Leaf->Leaf
 |.dead=> .dead
 |.nil=>match loc.bind (Dp K) with
  |some n=> .ol n
  |none=> .nil
 |.d t v=> .d t v
 |.ol k=>if K.boxes.contains k then .ol k else match loc.bind (Dp K) with
  |some n=> .ol n
  |none=> .dead
 |.bp k c=>if K.boxes.contains k then .bp k c else .dead
 |.ep _ _ _=> .dead
 |.tl k i=>if K.boxes.contains k then .tl k i else .dead
 |.hd k i=>if K.boxes.contains k then .hd k i else .dead
 |.ip ls=> .ip ls
 |.clo f bN=> .clo f bN
def HF(K:Keep)(i:H):Slot->Cel
 |.one (.one x)=> .one (rQ K (D (.slot i)) x)
 |.one (.st ls)=> .st (ls.map (rQ K B))
 |.one (.av n a xs)=> .av n a xs
 |_=> .one .dead
def xp(K:Keep)(k:H):BS->BS
 |.live (.cell ls frz)=> .live (.cell (ls.zipIdx.map λx=>rQ K (if frz then B else D (.cell k x.2)) x.1) frz)
 |.live (.arr n a xs)=> .live (.arr n a xs)
 |.live (.lst e a xs frz)=> .live (.lst e a xs frz)
 |_=> .gone
def BU(σ:St)(e:H)(a:Ty)(l:Loc):F (F H×G a.den×X):=
 match jY σ l with
 |.nil=>if isM e then B else D (B,[],J)
 |.ol k=>match σ.bx k with
  |.live (.lst e' a' xs frz)=>match (TV.mk (.list a') xs).to (.list a) with
   |some dj=>if e'=e then D (D k,dj,frz) else B
   |none=>B
  |_=>B
 |_=>B
def zO(σ:St)(e:H)(a:Ty):G Loc->F (F H×G a.den×X)
 |[]=>B
 |[l]=>BU σ e a l
 |l::ls=>match BU σ e a l,zO σ e a ls with
  |some (k,xs,f),D (k',_,_)=>if k=k' then D (k,xs,f) else B
  |_,_=>B
def BV(np:H)(σ:St)(bs:G H):G qE->F (G Item×G H)
 |[]=>D ([],[])
 |x::r=>match zO σ x.e x.a x.locs,BV np σ bs r with
  |some (k,xs,f),D (is,ks)=>match k with
   |none=>D (.b (.live (.lst x.e x.a xs x.frz))::is,ks)
   |some k=>if ks.contains k||bs.contains k||parK np k then B else D (.b (.live (.lst x.e x.a xs f))::is,k::ks)
  |_,_=>B
def xq(np:H):G qE->St->F St
 |[],σ=>D σ
 |x::r,σ=>if x.frz then match x.locs with
   |l::_=>match jY σ l with
    |.ol k=>match σ.bx k with
     |.live (.lst e a xs _)=>if parK np k||isM e then B else xq np r (σ.setB k (.live (.lst e a xs U)))
     |_=>B
    |_=>xq np r σ
   |[]=>xq np r σ
  else xq np r σ
def Keep.ok(np:H)(K:Keep):Bool:=rN (K.lists.map (·.name))&&K.lists.all λx=> !K.boxes.contains x.name && !parK np x.name
def zP(σ:St)(l:Loc)(x:Leaf):St:=
 match l with
 |.slot i=>match σ.sl i with
  |.one (.one _)=>σ.setS i (.one (.one x))
  |_=>σ
 |.cell k c=>match σ.bx k with
  |.live (.cell ls J)=>σ.setB k (.live (.cell (ls.set c x) J))
  |_=>σ
def Dq(np:H):G (Loc×Ty)->St->F St
 |[],σ=>D σ
 |(l,t)::r,σ=>match kK (λk=>if parK np k then .gone else mskM σ.bx k) t (jY σ l) with
  |some (v,u)=>Dq np r (zP (σ.upd u) l (.d t v))
  |none=>B
def LQ(np:H)(K:Keep)(σ:St):F Snap:=
 match BV np σ K.boxes K.lists with
 |some (is,_)=>if K.ok np then D ((K.slots.map λi=> .s (HF K i (σ.sl i)))++((K.boxes.map λk=> .b (xp K k (σ.bx k)))++is)) else B
 |none=>B
def mh(np:H)(K:Keep)(σ:St):F Snap:=
 match Dq np K.datas σ with
 |some σ1=>match xq np K.lists σ1 with
  |some σ2=>LQ np K σ2
  |none=>B
 |none=>B
def zQ:F Item->Slot
 |some (.s c)=> .one c
 |_=> .one (.one .dead)
def xr:F Item->BS
 |some (.b b)=>b
 |_=> .gone
def dJ(np:H)(K:Keep)(s:Snap):St where
 sl:=λi=>match K.slots.idxOf? i with
  |some j=>zQ s[j]?
  |none=> .one (.one .dead)
 bx:=λn=>match K.boxes.idxOf? n with
  |some j=>xr s[K.slots.length+j]?
  |none=>match (K.lists.map (·.name)).idxOf? n with
   |some j=>xr s[K.slots.length+K.boxes.length+j]?
   |none=>if parK np n then .gone else .free
def Uo(o:Æ):Bool:=
 match o.op with
 |.defer _=>J
 |_=>U
def dV:à->X
 |.skip=>U
 |.region _ ops _=>ops.toList.all Uo
 |.seq x y=>dV x&&dV y
 |.cond _ x y=>dV x&&dV y
 |.block _ c=>dV c
 |.scope c=>dV c
 |.label _=>U
 |.exit _=>U
 |.ret=>U
 |_=>J
def xt:à->G H
 |.region _ ops _=>ops.toList.filterMap (·.dst)
 |.seq x y=>xt x++xt y
 |.cond _ x y=>xt x++xt y
 |.block _ c=>xt c
 |.scope c=>xt c
 |_=>[]
def BW(ps:Ç H)(x y:à)(i:H):Bool:= !(ps.toList.contains i) && !((xt x++xt y).contains i)
def pinK(ps:Ç H)(x y:à)(K:Keep):Bool:=K.slots.all (BW ps x y)
def Env.rnd(E:Env)(ps:Ç H)(x y:à):Env:={ E with N:=⟨E.N.n,BW ps x y⟩ }
def isRf:à->X
 |.rangeFunc .. => U
 |_=>J
def Dr(kd:X)(n:H):Int:=cond kd 1 (â n)
def LS(kd:X)(n:H)(c:Ä):Bool:=cond kd (W (â n<=c)) (W (c<=0))
def itOk(kd:X)(n:H)(c:Ä):Bool:=cond kd (W (1<=c)) (W (c<=â n))
def Ds(kd:X)(c:Ä):Int:=cond kd (c+1) (c-1)
def chgV:(t:Ty)->G t.den->Ä->G TV
 |.pair (.int .i64) (.pair (.int .i64) (.int .i64)),xs,c=>[⟨.pair (.int .i64) (.pair (.int .i64) (.int .i64)),
  ((É xs c.toNat ((0:Ä),((0:Ä),(0:Ä)))).1,((É xs (c-1).toNat ((0:Ä),((0:Ä),(0:Ä)))).2.2,(É xs c.toNat ((0:Ä),((0:Ä),(0:Ä)))).2.2))⟩]
 |_,_,_=>[]
def Dt(kd:X)(t:Ty)(xs:G t.den)(c:Ä):G TV:=cond kd (chgV t xs c) [⟨.int .i64,c-1⟩,⟨t,É xs (c-1).toNat t.dflt⟩]
def setL(l:G (H×TV))(σ:St):St:=l.foldl (λσ q=>σ.setS q.1 (.one (rK q.2.t q.2.v))) σ
def rR:G H->X
 |[]=>U
 |x::r=> !(r.contains x)&&rR r
abbrev segT:Ty:= .pair (.int .i64) (.pair (.int .i64) (.int .i64))
def rfK(E:Env)(b f:H)(t:Ty)(ps:Ç H)(x y:à):F Bool:=match E.bw f with
 |some q=>cond (W (q.2=t)&&(cond q.1 (W (t=segT)) U&&(W (ps.toList.length=cond q.1 1 2)&&(rR ps.toList&&(ps.toList.all (λp=>W (p<E.N.n))&&(dV x&&(dV y&&pinK ps x y (E.keep b)))))))) (D q.1) B
 |none=>B
noncomputable section
variable(E:Env){R:Type}
def gx:H->à->St->(Ex->St->F R)->F R
 |_,.skip,σ,k=>k .normal σ
 |_,.region id ops J,σ,k=>rP E ops σ λσ'=>k .normal σ'
 |_,.region id ops U,σ,k=>Dn E ops (E.dw id) σ λσ'=>k .normal σ'
 |b,.seq x y,σ,k=>gx b x σ λe σ'=>match e with
  |.normal=>gx b y σ' k
  |e=>k e σ'
 |b,.cond c x y,σ,k=>match σ.ev c with
  |.one (.one (.d .bool v))=>cond v (gx b x σ k) (gx b y σ k)
  |_=>B
 |_,.block id c,σ,k=>gx id c σ λe σ'=>match e with
  |.exit i=>if i=id then k .normal σ' else k (.exit i) σ'
  |e=>k e σ'
 |b,.loop c,σ,k=>cond (isRf c) B (match mh E.np (E.keep b) σ with
  |some s=>E.L b s R λe s'=>k e (dJ E.np (E.keepX b e) s')
  |none=>B)
 |b,.rangeFunc g ps x y,σ,k=>match σ.ev g with
  |.one (.one (.clo f [.p [⟨.list t,xs⟩]]))=>match rfK E b f t ps x y with
   |some kd=>match mh E.np (E.keep b) σ with
    |some s=>E.L b (.s (.one (.d (.int .i64) (Dr kd (Ã xs))))::s) R λe s'=>k e (dJ E.np (E.keepX b e) s')
    |none=>B
   |none=>B
  |_=>B
 |b,.scope c,σ,k=>gx b c σ k
 |_,.label _,σ,k=>k .normal σ
 |_,.exit i,σ,k=>k (.exit i) σ
 |_,.ret,σ,k=>k .ret σ
 |_,_,_,_=>B
def zR(b:H)(c:à)(s:Snap):F (Snap ⊕ Ex×Snap):=
 gx E b c (dJ E.np (E.keep b) s) λe σ=>match e with
  |.normal=>match mh E.np (E.keep b) σ with
   |some s'=>D (.inl s')
   |none=>B
  |e=>match mh E.np (E.keepX b e) σ with
   |some s'=>D (.inr (e,s'))
   |none=>B
def Du(b:H)(g:Ë)(ps:Ç H)(x y:à)(s:Snap)(K:F (G Item)->Ex->St->F R):F R:=
 match s with
 |.s (.one (.d (.int .i64) n))::s0=>match (dJ E.np (E.keep b) s0).ev g with
  |.one (.one (.clo f [.p [⟨.list t,xs⟩]]))=>match rfK E b f t ps x y with
   |some kd=>cond (LS kd (Ã xs) n) (K B .normal (dJ E.np (E.keep b) s0)) (cond (itOk kd (Ã xs) n)
    (gx (E.rnd ps x y) 0 x (setL (ps.toList.zip (Dt kd t xs n)) (dJ E.np (E.keep b) s0)) λe σ=>match e with
     |.normal=>gx (E.rnd ps x y) 0 y σ (K (D [.s (.one (.d (.int .i64) (Ds kd n)))]))
     |_=>B) B)
   |none=>B
  |_=>B
 |_=>B
def BX(b:H)(g:Ë)(ps:Ç H)(x y:à)(s:Snap):F (Snap ⊕ Ex×Snap):=
 Du E b g ps x y s λp e σ=>match p,e with
  |some q,.normal=>match mh E.np (E.keep b) σ with
   |some s'=>D (.inl (q++s'))
   |none=>B
  |_,e=>cond (pinK ps x y (E.keepX b e)) (match mh E.np (E.keepX b e) σ with
   |some s'=>D (.inr (e,s'))
   |none=>B) B
def LU(b:H):à->Snap->F (Snap ⊕ Ex×Snap)
 |.rangeFunc g ps x y,s=>BX E b g ps x y s
 |c,s=>zR E b c s
end
def loopN{α β:Type}(f:α->F (α ⊕ β)):H->α->F β
 |0,_=>B
 |n+1,s=>match f s with
  |some (.inl s')=>loopN f n s'
  |some (.inr x)=>D x
  |none=>B
def HG(i:H):Arg->Cel
 |.v x=>rK x.t x.v
 |.ref _=> .one (.bp (i*64) 0)
 |.rl _ _=> .one (.ol (i*64))
 |.ip ls=> .one (.ip ls)
 |.clo f bN=> .one (.clo f bN)
 |.mv _ _=> .one (.ol (i*64+63))
def ob:F Arg->BS
 |some (.ref ls)=> .live (.cell (ls.map TV.leaf) J)
 |some (.rl e ⟨.list a,xs⟩)=> .live (.lst e a xs J)
 |_=> .free
def vB:F Arg->BS
 |some (.mv e ⟨.list a,xs⟩)=> .live (.lst e a xs J)
 |_=> .free
def St.init(args:G Arg):St where
 sl:=λi=>match args[i]? with
  |some a=> .one (HG i a)
  |none=> .one (.one .dead)
 bx:=λn=>if n%64=0 then ob args[n/64]? else if n%64=63 then vB args[n/64]? else .free
def soOf(rd:H->BS):G SoK->G Leaf->F (G RL×G H×Ups)
 |[],[]=>D ([],[],[])
 |.d t::ks,l::ls=>match kK rd t l,soOf rd ks ls with
  |some (x,u),D (r,n,v)=>cond t.leafy (D (.d ⟨t,x⟩::r,n,u++v)) B
  |_,_=>B
 |.own e a::ks,.nil::ls=>match soOf rd ks ls with
  |some (r,n,v)=>cond (isM e) B (D (.own e ⟨.list a,[]⟩::r,n,v))
  |none=>B
 |.own e _::ks,.ol k::ls=>match rd k with
  |.live (.lst e' b xs J)=>cond (Nat.beq e' e) (match soOf rd ks ls with
   |some (r,n,v)=>D (.own e' ⟨.list b,xs⟩::r,k::n,v)
   |none=>B) B
  |_=>B
 |_,_=>B
def rvOf(E:Env)(rd:H->BS)(own:X)(t:H)(c:Cel):F (RV×G H×Ups):=
 match c with
 |.one (.bp k 0)=>match rd k with
  |.live (.cell ls J)=>match tvs rd ls with
   |some (xs,u)=>D (.box xs,[k],u)
   |none=>B
  |_=>B
 |.one (.clo f bN)=>D (.clo f bN,[],[])
 |c=>match E.T t with
  |some ti=>match ti.ty with
   |some ty=>match own with
    |true=>match c,ty with
     |.st ls,_=>match soOf rd E.so ls with
      |some (r,n,v)=>D (.so r,n,v)
      |none=>B
     |.one .nil,.list a=>D (.own ti.elem ⟨.list a,[]⟩,[],[])
     |.one (.ol k),_=>match rd k with
      |.live (.lst e a xs J)=>D (.own e ⟨.list a,xs⟩,[k],[])
      |_=>B
     |_,_=>B
    |false=>match rJ rd ty c with
     |some (x,u)=>D (.v ⟨ty,x⟩,[],u)
     |none=>B
   |none=>B
  |none=>B
def BZ(E:Env)(σ:St):ç->F Cel
 |.tmp t=>match σ.sl t with
  |.one c=>D c
  |_=>B
 |.cell a t=>match E.T t,σ.sl a with
  |some ti,.one (.one x)=>qG (mskM σ.bx) ti x
  |_,_=>B
def vC(E:Env)(σ:St):G X->G ç->G H->F (G RV×G H×Ups)
 |_,[],_=>D ([],[],[])
 |os,r::rs,ts=>match BZ E σ r with
  |some c=>match rvOf E (λk=>if parK E.np k then .gone else mskM σ.bx k) (os.headD J) (ts.headD 0) c with
   |some (v,ks,u)=>match vC E σ os.tail rs ts.tail with
    |some (vs,Up,u')=>D (v::vs,ks++Up,u++u')
    |none=>B
   |none=>B
  |none=>B
def outs(np:H)(σ:St):H->G Arg->F (G Out×Ups)
 |_,[]=>D ([],[])
 |i,a::as=>match outs np σ (i+1) as with
  |some (os,u)=>match a with
   |.ref _=>match σ.bx (i*64) with
    |.live (.cell ls J)=>match tvs (λk=>if parK np k then .gone else mskM σ.bx k) ls with
     |some (xs,u')=>D (.ref xs::os,u'++u)
     |none=>B
    |_=>B
   |.rl e x=>match σ.bx (i*64) with
    |.live (.lst e' a xs J)=>if e'=e/\x.t = .list a then D (.rl ⟨.list a,xs⟩::os,u) else B
    |_=>B
   |_=>D (os,u)
  |none=>B
def hdOf(σ:St):Leaf->F H
 |.ol 0=>match σ.bx 0 with
  |.live (.lst e _ xs J)=>if isM e then B else D xs.length
  |_=>B
 |.hd 0 i=>match σ.bx 0 with
  |.live (.lst _ _ _ J)=>D i
  |_=>B
 |_=>B
def Uq(E:Env)(fn:Func)(args:G Arg)(σ:St):F Ret:=
 match args,fn.results.toList with
 |.rl _ _::_,[r]=>match BZ E σ r,outs E.np σ 0 args with
  |some (.one l),D (os,_)=>match hdOf σ l with
   |some m=>D ⟨[.hd m],os⟩
   |none=>B
  |_,_=>B
 |_,_=>B
def nilV(E:Env)(σ:St)(rs:G ç)(vs:G RV):F (G RV):=
 if E.ns.isEmpty then D vs else match rs,vs with
  |[r],[.v x]=>match BZ E σ r with
   |some (.st ls)=>if E.ns.all (λi=>match ls[i]? with|some .nil=>U|_=>J) then D [.vn x E.ns] else B
   |_=>B
  |_,_=>B
def zS(E:Env)(fn:Func)(args:G Arg)(σ:St):F Ret:=
 if E.hd then Uq E fn args σ else
 match vC E σ E.ro fn.results.toList fn.resultTypes.toList,outs E.np σ 0 args with
 |some (vs,ks,u),D (os,u')=>
  if rN ks&&(u++u').all (λe=> !ks.contains e.1) then match nilV E σ fn.results.toList vs with
   |some mV=>D ⟨mV,os⟩
   |none=>B
  else B
 |_,_=>B
noncomputable def vD(E:Env){R:Type}(fn:Func)(args:G Arg)(k:Ret->F R):F R:=
 if args.length=E.np then match fn.body with
 |some c=>gx E 0 c (St.init args) λe σ=>match e with
  |.exit _=>B
  |_=>match zS E fn args σ with
   |some r=>k r
   |none=>B
 |none=>B
 else B
def All2{α β:Type}(R:α->β->Prop):G α->G β->Prop
 |[],[]=>True
 |a::as,b::bs=>R a b/\All2 R as bs
 |_,_=>Ü
section All2
variable{α β γ:Type}{R R':α->β->Prop}
theorem All2.length:∀{as:G α}{bs:G β},All2 R as bs->as.length=bs.length
 |[],[],_=>rfl
 |_::_,_::_,h=>by simp[All2.length h.2]
 |[],_::_,h=>h.elim
 |_::_,[],h=>h.elim
theorem All2.mono(hr:∀a b,R a b->R' a b):∀{as:G α}{bs:G β},All2 R as bs->All2 R' as bs
 |[],[],_=>trivial
 |_::_,_::_,h=>⟨hr _ _ h.1,All2.mono hr h.2⟩
 |[],_::_,h=>h.elim
 |_::_,[],h=>h.elim
theorem All2.get:∀{as:G α}{bs:G β},All2 R as bs->∀(i:H)(a:α),as[i]? = D a->∃b,bs[i]? = D b/\R a b
 |[],[],_,i,a,h=>by simp at h
 |a::as,b::bs,h,0,a',he=>by simp at he;subst he;exact⟨b,smp_,h.1⟩
 |a::as,b::bs,h,i+1,a',he=>by
  obtain⟨b',hb,hr⟩:=All2.get h.2 i a' (by simpa using he);exact⟨b',by simpa using hb,hr⟩
 |[],_::_,h,_,_,_=>h.elim
 |_::_,[],h,_,_,_=>h.elim
theorem All2.append:∀{as:G α}{bs:G β}{HH:G α}{Ur:G β},All2 R as bs->All2 R HH Ur->All2 R (as++HH) (bs++Ur)
 |[],[],_,_,_,h'=>h'
 |_::_,_::_,_,_,h,h'=>⟨h.1,All2.append h.2 h'⟩
 |[],_::_,_,_,h,_=>h.elim
 |_::_,[],_,_,h,_=>h.elim
theorem All2.take:∀{as:G α}{bs:G β},All2 R as bs->∀n,All2 R (as.take n) (bs.take n)
 |[],[],_,n=>by simp[All2]
 |_::_,_::_,_,0=>by simp[All2]
 |_::_,_::_,h,n+1=>⟨h.1,All2.take h.2 n⟩
 |[],_::_,h,_=>h.elim
 |_::_,[],h,_=>h.elim
theorem All2.drop:∀{as:G α}{bs:G β},All2 R as bs->∀n,All2 R (as.drop n) (bs.drop n)
 |[],[],_,n=>by simp[All2]
 |_::_,_::_,h,0=>h
 |_::_,_::_,h,n+1=>All2.drop h.2 n
 |[],_::_,h,_=>h.elim
 |_::_,[],h,_=>h.elim
theorem All2.set:∀{as:G α}{bs:G β},All2 R as bs->∀i a b,R a b->All2 R (as.set i a) (bs.set i b)
 |[],[],_,i,_,_,_=>by simp[All2]
 |_::_,_::_,h,0,_,_,hr=>⟨hr,h.2⟩
 |_::_,_::_,h,i+1,_,_,hr=>⟨h.1,All2.set h.2 i _ _ hr⟩
 |[],_::_,h,_,_,_,_=>h.elim
 |_::_,[],h,_,_,_,_=>h.elim
theorem All2.map_left{f:γ->α}:∀{cs:G γ}{bs:G β},All2 R (cs.map f) bs↔All2 (λc b=>R (f c) b) cs bs
 |[],[]=>Iff.rfl
 |_::_,_::_=>and_congr_right λ_=>All2.map_left
 |[],_::_=>Iff.rfl
 |_::_,[]=>Iff.rfl
theorem All2.mem_right:∀{as:G α}{bs:G β},All2 R as bs->∀b∈bs,∃a∈as,R a b
 |[],[],_,b,hb=>by simp at hb
 |a::as,b::bs,h,b',hb=>by
  rcases je.1 hb with rfl|hb
  .exact⟨a,smp_,h.1⟩
  .obtain⟨a',ha,hr⟩:=All2.mem_right h.2 b' hb;exact⟨a',by simp[ha],hr⟩
 |[],_::_,h,_,_=>h.elim
 |_::_,[],h,_,_=>h.elim
end All2
theorem HI{α β γ:Type}{R:α->β->Prop}{R':γ->β->Prop}{ls:G α}{xs:G γ}{l:G β}(h:All2 R ls (l.take ls.length))(h':All2 R' xs (l.take ls.length)):xs.length=ls.length:=
 h'.length.trans h.length.symm
def One(u:I):Prop:=u.oneCell'=U
abbrev aY:=H->H->Prop
def Lies(S:aY)(w:Z)(g o:H)(cs:G I):Prop:=
 ∀j v,cs[j]? = D v->S g (o+j)/\w.cell? ⟨g,o+j,B⟩=D v
def Rep(S:aY)(w:Z):(t:Ty)->t.den->G I->Prop
 |.int k,n,cs=>cs=[.int k n]
 |.bool,b,cs=>cs=[.bool b]
 |.str,s,cs=>cs=[.string s]
 |.unit,_,cs=>cs=[]
 |.wrap a,v,cs=>Rep S w a v cs
 |.pair a b,v,cs=>∃c1 c2,cs=c1++c2/\Rep S w a v.1 c1/\Rep S w b v.2 c2
 |.list a,xs,cs=>∃ad cap,cs=[.slice ad (Ã xs) cap]/\Ã xs<=cap/\cap<=maxLen/\(ad=B->cap=0)/\
  ∀b,ad=D b->(xs≠[]->b.spot=B)/\∃css,All2 (λx c=>Rep S w a x c) xs css/\Lies S w b.block b.off css.flatten
 |.arr n a,xs,cs=>Ã xs=n/\∃css,All2 (λx c=>Rep S w a x c) xs css/\cs=css.flatten
def dK(S:aY)(w:Z)(S':aY)(w':Z):Prop:=
 ∀g o,S g o->S' g o/\w'.cell? ⟨g,o,B⟩=w.cell? ⟨g,o,B⟩
theorem dK.refl(S:aY)(w:Z):dK S w S w:=λ_ _ h=>⟨h,rfl⟩
theorem dK.trans{S S' Us:aY}{w w' HJ:Z}(h:dK S w S' w')(h':dK S' w' Us HJ):dK S w Us HJ:=
 λg o hs=>⟨(h' g o (h g o hs).1).1,((h' g o (h g o hs).1).2).trans (h g o hs).2⟩
theorem Lies.keep{S S':aY}{w w':Z}(h:dK S w S' w'){g o:H}{cs:G I}(hl:Lies S w g o cs):Lies S' w' g o cs:=
 λj v hv=>let ⟨hs,hc⟩:=hl j v hv;⟨(h _ _ hs).1,(h _ _ hs).2.trans hc⟩
theorem Rep.keep{S S':aY}{w w':Z}(h:dK S w S' w'):∀(t:Ty)(v:t.den)(cs:G I),Rep S w t v cs->Rep S' w' t v cs
 |.int _,_,_,hr=>hr
 |.bool,_,_,hr=>hr
 |.str,_,_,hr=>hr
 |.unit,_,_,hr=>hr
 |.wrap a,v,cs,hr=>Rep.keep h a v cs hr
 |.pair a b,_,_,⟨c1,c2,e,h1,h2⟩=>⟨c1,c2,e,Rep.keep h a _ _ h1,Rep.keep h b _ _ h2⟩
 |.list a,_,_,⟨ad,cap,e,h1,h2,h3,h4⟩=>⟨ad,cap,e,h1,h2,h3,λb hb=>by
  obtain⟨hs,css,ha,hl⟩:=h4 b hb;exact⟨hs,css,ha.mono (λx c hx=>Rep.keep h a x c hx),hl.keep h⟩⟩
 |.arr _ a,_,_,⟨hn,css,ha,e⟩=>⟨hn,css,ha.mono (λx c hx=>Rep.keep h a x c hx),e⟩
theorem All2.flatten_length{α:Type}{R:α->G I->Prop}{n:H}(hr:∀x c,R x c->c.length=n) :
  ∀{xs:G α}{css:G (G I)},All2 R xs css->css.flatten.length=xs.length*n
 |[],[],_=>smp_
 |_::xs,c::css,h=>by
  have:=All2.flatten_length hr h.2;simp only[qm,jc,hr _ _ h.1,this,ji,í];omega
 |[],_::_,h=>h.elim
 |_::_,[],h=>h.elim
theorem Rep.length{S:aY}{w:Z}:∀(t:Ty)(v:t.den)(cs:G I),Rep S w t v cs->cs.length=t.size
 |.int _,_,_,hr=>by rw[hr];rfl
 |.bool,_,_,hr=>by rw[hr];rfl
 |.str,_,_,hr=>by rw[hr];rfl
 |.unit,_,_,hr=>by rw[hr];rfl
 |.wrap a,v,cs,hr=>Rep.length a v cs hr
 |.pair a b,_,_,⟨c1,c2,e,h1,h2⟩=>by rw[e,jc,Rep.length a _ _ h1,Rep.length b _ _ h2];rfl
 |.list _,_,_,⟨ad,cap,e,_⟩=>by rw[e];rfl
 |.arr n a,xs,cs,⟨hn,css,ha,e⟩=>by
  rw[e,All2.flatten_length (λx c hx=>Rep.length a x c hx) ha,hn];rfl
theorem Rep.one{S:aY}{w:Z}:∀(t:Ty)(v:t.den)(cs:G I),Rep S w t v cs->∀u∈cs,One u
 |.int _,_,_,hr=>by rw[hr];intro u hu;simp at hu;subst hu;rfl
 |.bool,_,_,hr=>by rw[hr];intro u hu;simp at hu;subst hu;rfl
 |.str,_,_,hr=>by rw[hr];intro u hu;simp at hu;subst hu;rfl
 |.unit,_,_,hr=>by rw[hr];intro u hu;simp at hu
 |.wrap a,v,cs,hr=>Rep.one a v cs hr
 |.pair a b,_,_,⟨c1,c2,e,h1,h2⟩=>by
  rw[e];intro u hu;rcases jj.1 hu with hu|hu
  .exact Rep.one a _ _ h1 u hu
  .exact Rep.one b _ _ h2 u hu
 |.list _,_,_,⟨ad,cap,e,_⟩=>by rw[e];intro u hu;simp at hu;subst hu;rfl
 |.arr n a,xs,cs,⟨hn,css,ha,e⟩=>by
  rw[e];intro u hu;obtain⟨c,hc,zT⟩:=List.mem_flatten.1 hu;obtain⟨x,_,hx⟩:=ha.mem_right c hc;exact Rep.one a x c hx u zT
def kL(S:aY)(w:Z):Cap->I->Prop
 |.v x,u=>x.t.leafy=U/\Rep S w x.t x.v [u]
 |.p ls,u=>∃g o cs,u = .pointer (D ⟨g,o,B⟩)/\All2 (λx z=>Rep S w x.t x.v [z]) ls cs/\Lies S w g o cs
def bZ(S:aY)(w:Z)(γ:H->I)(bx:H->BS):Leaf->I->Prop
 |.dead,_=>True
 |.nil,u=>u = .slice B 0 0
 |.d t v,u=>Rep S w t v [u]
 |.ol k,u=>bx k ≠ .free/\One u/\∀b,bx k = .live b->u=γ k
 |.bp k c,u=>bx k ≠ .free/\One u/\∀b,bx k = .live b->∃g,γ k = .pointer (D ⟨g,0,B⟩)/\u = .pointer (D ⟨g,c,B⟩)
 |.ep k i c,u=>bx k ≠ .free/\One u/\∀b,bx k = .live b->match b with
  |.lst e a xs _=>isM e=J/\i<xs.length/\∃g cap,γ k = .slice (D ⟨g,0,B⟩) xs.length cap/\u = .pointer (D ⟨g,i*a.size+c,B⟩)
  |.arr n a _=>i<n/\∃g,γ k = .pointer (D ⟨g,0,B⟩)/\u = .pointer (D ⟨g,i*a.size+c,B⟩)
  |.cell _ _=>Ü
 |.tl k i,u=>bx k ≠ .free/\One u/\∀b,bx k = .live b->match b with
  |.lst e a xs _=>isM e=J/\i<=xs.length/\∃ad cap,γ k = .slice ad xs.length cap/\u = .slice (if cap=i then ad else ad.map (·.add (i*a.size))) (xs.length-i) (cap-i)
  |.arr _ _ _=>Ü
  |.cell _ _=>Ü
 |.hd k i,u=>bx k ≠ .free/\One u/\∀b,bx k = .live b->match b with
  |.lst e _ xs _=>isM e=J/\i<=xs.length/\∃ad cap,γ k = .slice ad xs.length cap/\u = .slice ad i cap
  |.arr _ _ _=>Ü
  |.cell _ _=>Ü
 |.ip ls,u=>∃g o cs,u = .pointer (D ⟨g,o,B⟩)/\All2 (λx z=>Rep S w x.t x.v [z]) ls cs/\Lies S w g o cs
 |.clo f bN,u=>∃cv:Ç I,u = .func (.func f) #[] cv/\All2 (kL S w) bN cv.toList
def cm(S:aY)(w:Z)(γ:H->I)(bx:H->BS):Cel->I->Prop
 |.one x,u=>bZ S w γ bx x u/\(x ≠ .dead->One u)
 |.st ls,u=>∃cs:Ç I,u = .agg cs/\All2 (bZ S w γ bx) ls cs.toList/\∀x∈cs.toList,One x
 |.av n a xs,u=>∃cs:Ç I,u = .agg cs/\Rep S w (.arr n a) xs cs.toList
def iZ(S:aY)(w:Z)(γ:H->I)(bx:H->BS)(tm:H->I):Slot->I->Prop
 |.one c,u=>cm S w γ bx c u
 |.tup l,u=>∃vs:Ç I,u = .tuple vs/\All2 (cm S w γ bx) l vs.toList
 |.cnd s b c,u=>(tm s = .bool b/\cm S w γ bx c u)\/(tm s ≠ .bool b/\u=undef)
 |.und,u=>u=undef
def blk:I->F H
 |.pointer (D a)=>D a.block
 |.slice (D a) _ _=>D a.block
 |.map (D g)=>D g
 |_=>B
def kM:Ty->X
 |.arr _ _=>U
 |t=>t.agg
def VRep(S:aY)(w:Z)(x:TV)(u:I):Prop:=
 Rep S w x.t x.v u.cells.toList/\(kM x.t=U->∃cs,u = .agg cs)/\(kM x.t=J->One u)
theorem VRep.keep{S S':aY}{w w':Z}(h:dK S w S' w'){x:TV}{u:I}(hv:VRep S w x u):VRep S' w' x u:=
 ⟨Rep.keep h _ _ _ hv.1,hv.2⟩
def LV(es:Ç MapEntry)(clock:H):Prop:=MapKept.Stamped es clock/\es.toList.map (·.born)=Ø clock
def HK(S:aY)(w:Z):(a:Ty)->G a.den->I->Prop
 |.pair k b,xs,u=>∃g es clock,u = .map (D g)/\w.heap[g]? = D (.map es clock)/\All2 (λ(x:k.den×b.den)(e:MapEntry)=>Rep S w k x.1 [e.key]/\VRep S w ⟨b,x.2⟩ e.val) xs es.toList/\LV es clock
 |_,_,_=>Ü
def sF(S:aY)(w:Z)(e:H)(a:Ty)(xs:G a.den)(u:I):Prop:=
 (isM e=J/\∃css,w.ownsRow 0 e a.size u xs.length css.flatten/\All2 (λx c=>Rep S w a x c) xs css)\/(isM e=U/\HK S w a xs u)
theorem HK.keep{S S':aY}{w w':Z}(h:dK S w S' w'):∀{a:Ty}{xs:G a.den}{u:I},(∀g,blk u=D g->w'.heap[g]? = w.heap[g]?)->HK S w a xs u->HK S' w' a xs u
 |.pair k b,xs,u,hg,⟨g,es,clock,hu,hh,ha,hq⟩=>⟨g,es,clock,hu,(hg g (by rw[hu];rfl)).trans hh,ha.mono λx e hx=>⟨Rep.keep h _ _ _ hx.1,VRep.keep h hx.2⟩,hq⟩
theorem sF.keep{S S':aY}{w w':Z}(h:dK S w S' w'){e:H}{a:Ty}{xs:G a.den}{u:I}(hg:∀g,blk u=D g->w'.heap[g]? = w.heap[g]?)(hl:sF S w e a xs u):sF S' w' e a xs u:=by
 rcases hl with⟨hm,css,h1,h2⟩|⟨hm,h1⟩
 .refine .inl ⟨hm,css,⟨h1.1,?_⟩,h2.mono (λx c hx=>Rep.keep h _ _ _ hx)⟩;rcases h1.2 with hn|⟨g,cap,cur,hv,gH,hh,rest⟩
  .exact .inl hn
  .exact .inr ⟨g,cap,cur,hv,gH,(hg g (by rw[hv];rfl)).trans hh,rest⟩
 .exact .inr ⟨hm,h1.keep h hg⟩
theorem sF.lt{S:aY}{w:Z}{e:H}{a:Ty}{xs:G a.den}{u:I}(hl:sF S w e a xs u){g:H}(hg:blk u=D g):g<w.heap.size:=by
 rcases hl with⟨hm,css,h1,h2⟩|⟨hm,h1⟩
 .rcases h1.2 with⟨hn,_⟩|⟨g',cap,cur,hv,gH,hh,rest⟩
  .rw[hn]at hg;simp[blk]at hg
  .rw[hv]at hg;simp[blk]at hg;subst hg;exact(jq.1 hh).1
 .revert h1
  cases a with
  |pair k b=>
   rintro⟨g',es,clock,hu,hh,ha⟩
   rw[hu]at hg;simp[blk]at hg;subst hg;exact(jq.1 hh).1
  |_=>exactλh=>h.elim
theorem sF.one{S:aY}{w:Z}{e:H}{a:Ty}{xs:G a.den}{u:I}(hl:sF S w e a xs u):One u:=by
 rcases hl with⟨hm,css,h1,h2⟩|⟨hm,h1⟩
 .rcases h1.2 with⟨hn,_⟩|⟨g',cap,cur,hv,_⟩
  .rw[hn];rfl
  .rw[hv];rfl
 .revert h1
  cases a with
  |pair k b=>rintro⟨g',es,clock,hu,_⟩;rw[hu];rfl
  |_=>exactλh=>h.elim
def fK(S:aY)(w:Z)(γ:H->I)(bx:H->BS)(k:H):Bx->Prop
 |.cell ls frz=>∃g cur e,γ k = .pointer (D ⟨g,0,B⟩)/\w.heap[g]? = D (.cells cur e (0,0))/\All2 (bZ S w γ bx) ls (cur.toList.take ls.length)/\
  (∀u∈cur.toList.take ls.length,One u)/\(frz=J->∀o,¬S g o)/\(frz=U->∀o,o<cur.size->S g o)
 |.lst e a xs frz=>sF S w e a xs (γ k)/\
  ∀g,blk (γ k)=D g->(frz=J->∀o,¬S g o)/\(frz=U->∀o,S g o↔o<xs.length*a.size)
 |.arr n a xs=>∃g cur e,γ k = .pointer (D ⟨g,0,B⟩)/\w.heap[g]? = D (.cells cur e (0,0))/\Rep S w (.arr n a) xs cur.toList/\∀o,¬S g o
theorem jZ{S:aY}{w:Z}{γ:H->I}{bx:H->BS}{k e:H}{a:Ty}{xs:G a.den}{frz:X}(hm:isM e=J)(h:fK S w γ bx k (.lst e a xs frz)) :
  ∃css,w.ownsRow 0 e a.size (γ k) xs.length css.flatten/\All2 (λx c=>Rep S w a x c) xs css/\
   ∀g,blk (γ k)=D g->(frz=J->∀o,¬S g o)/\(frz=U->∀o,S g o↔o<xs.length*a.size):=by
 obtain⟨h1,h2⟩:=h;rcases h1 with⟨_,css,h3,h4⟩|⟨h3,_⟩
 .exact⟨css,h3,h4,h2⟩
 .rw[hm]at h3;simp at h3
theorem HM{S:aY}{w:Z}{γ:H->I}{bx:H->BS}{k e:H}{a:Ty}{xs:G a.den}{frz:X}{ad:F Addr}{n c:H}(hs:γ k = .slice ad n c)(h:fK S w γ bx k (.lst e a xs frz)) :
  ∃css,w.ownsRow 0 e a.size (γ k) xs.length css.flatten/\All2 (λx c=>Rep S w a x c) xs css/\
   ∀g,blk (γ k)=D g->(frz=J->∀o,¬S g o)/\(frz=U->∀o,S g o↔o<xs.length*a.size):=by
 obtain⟨h1,h2⟩:=h;rcases h1 with⟨_,css,h3,h4⟩|⟨_,h3⟩
 .exact⟨css,h3,h4,h2⟩
 .revert h3
  rw[hs];cases a with
  |pair k b=>rintro⟨g',es,clock,hu,_⟩;simp at hu
  |_=>exactλh=>h.elim
theorem Ut{S:aY}{w:Z}{γ:H->I}{bx:H->BS}{k e:H}{a:Ty}{xs:G a.den}{frz:X}{ad:F Addr}{n c:H}(hs:γ k = .slice ad n c)(h:fK S w γ bx k (.lst e a xs frz)):isM e=false:=by
 rcases h.1 with⟨h1,_⟩|⟨_,h3⟩
 .exact h1
 .revert h3
  rw[hs];cases a with
  |pair k b=>rintro⟨g',es,clock,hu,_⟩;simp at hu
  |_=>exactλh=>h.elim
theorem Dv{S:aY}{w:Z}{γ:H->I}{bx:H->BS}{k e:H}{a:Ty}{xs:G a.den}{frz:X}(hm:isM e=J) (h:∃css,w.ownsRow 0 e a.size (γ k) xs.length css.flatten/\All2 (λx c=>Rep S w a x c) xs css/\
  ∀g,blk (γ k)=D g->(frz=J->∀o,¬S g o)/\(frz=U->∀o,S g o↔o<xs.length*a.size)):fK S w γ bx k (.lst e a xs frz):=by
 obtain⟨css,h1,h2,h3⟩:=h;exact⟨.inl ⟨hm,css,h1,h2⟩,h3⟩
def lJ:Bx->Bx->Prop
 |.cell _ _,.cell _ _=>True
 |.lst e a xs _,.lst e' a' dj _=>e=e'/\a=a'/\(isM e=J->xs.length=dj.length)
 |.arr n a _,.arr n' a' _=>n=n'/\a=a'
 |_,_=>Ü
theorem lJ.refl(b:Bx):lJ b b:=by cases b<;>simp[lJ]
theorem lJ.trans{a b c:Bx}(h:lJ a b)(h':lJ b c):lJ a c:=by
 cases a<;>cases b<;>cases c<;>simp only[lJ]at h h' ⊢ <;> first
  |exact h.elim
  |exact h'.elim
  |(obtain⟨rfl,rfl,h3⟩:=h;obtain⟨rfl,rfl,h4⟩:=h';exact⟨rfl,rfl,λhm=>(h3 hm).trans (h4 hm)⟩)
  |exact⟨h.1.trans h'.1,h.2.trans h'.2⟩
def BxLe(γ:H->I)(bx:H->BS)(γ':H->I)(bx':H->BS):Prop:=
 ∀k,bx k ≠ .free->bx' k ≠ .free/\γ' k=γ k/\∀b',bx' k = .live b'->∃b,bx k = .live b/\lJ b b'
theorem BxLe.refl(γ:H->I)(bx:H->BS):BxLe γ bx γ bx:=λ_ h=>⟨h,rfl,λb hb=>⟨b,hb,.refl b⟩⟩
section keeps
variable{S S':aY}{w w':Z}{γ γ':H->I}{bx bx':H->BS}(hk:dK S w S' w')(hb:BxLe γ bx γ' bx')
include hk
theorem kL.keep{x:Cap}{u:I}(h:kL S w x u):kL S' w' x u:=by
 cases x with
 |v x=>exact⟨h.1,Rep.keep hk _ _ _ h.2⟩
 |p ls=>obtain⟨g,o,cs,hu,ha,hl⟩:=h;exact⟨g,o,cs,hu,ha.mono (λx z hx=>Rep.keep hk _ _ _ hx),hl.keep hk⟩
include hb
theorem bZ.keep{x:Leaf}{u:I}(h:bZ S w γ bx x u):bZ S' w' γ' bx' x u:=by
 cases x with
 |dead=>trivial
 |nil=>exact h
 |d t v=>exact Rep.keep hk _ _ _ h
 |ol k=>obtain⟨h1,h2,h3⟩:=h;obtain⟨b1,b2,b3⟩:=hb k h1;exact⟨b1,h2,λb aW=>by obtain⟨b0,gH,_⟩:=b3 b aW;rw[b2];exact h3 b0 gH⟩
 |bp k c=>obtain⟨h1,h2,h3⟩:=h;obtain⟨b1,b2,b3⟩:=hb k h1;exact⟨b1,h2,λb aW=>by obtain⟨b0,gH,_⟩:=b3 b aW;rw[b2];exact h3 b0 gH⟩
 |ep k i c=>
  obtain⟨h1,h2,h3⟩:=h;obtain⟨b1,b2,b3⟩:=hb k h1;refine⟨b1,h2,λb aW=>?_⟩;obtain⟨b0,gH,hs⟩:=b3 b aW;have h4:=h3 b0 gH;rw[b2]
  cases b0<;>cases b<;>simp only[lJ]at hs<;>first
   |exact hs.elim
   |exact h4.elim
   |(obtain⟨rfl,rfl,hl⟩:=hs;simp only at h4 ⊢;obtain⟨hm,h4⟩:=h4;rw[<-hl hm];exact⟨hm,h4⟩)
   |(obtain⟨rfl,rfl⟩:=hs;exact h4)
 |tl k i=>
  obtain⟨h1,h2,h3⟩:=h;obtain⟨b1,b2,b3⟩:=hb k h1;refine⟨b1,h2,λb aW=>?_⟩;obtain⟨b0,gH,hs⟩:=b3 b aW;have h4:=h3 b0 gH;rw[b2]
  cases b0<;>cases b<;>simp only[lJ]at hs<;>first
   |exact hs.elim
   |exact h4.elim
   |(obtain⟨rfl,rfl,hl⟩:=hs;simp only at h4 ⊢;obtain⟨hm,h4⟩:=h4;rw[<-hl hm];exact⟨hm,h4⟩)
 |hd k i=>
  obtain⟨h1,h2,h3⟩:=h;obtain⟨b1,b2,b3⟩:=hb k h1;refine⟨b1,h2,λb aW=>?_⟩;obtain⟨b0,gH,hs⟩:=b3 b aW;have h4:=h3 b0 gH;rw[b2]
  cases b0<;>cases b<;>simp only[lJ]at hs<;>first
   |exact hs.elim
   |exact h4.elim
   |(obtain⟨rfl,rfl,hl⟩:=hs;simp only at h4 ⊢;obtain⟨hm,h4⟩:=h4;rw[<-hl hm];exact⟨hm,h4⟩)
 |ip ls=>obtain⟨g,o,cs,hu,ha,hl⟩:=h;exact⟨g,o,cs,hu,ha.mono (λx z hx=>Rep.keep hk _ _ _ hx),hl.keep hk⟩
 |clo f bN=>obtain⟨cv,hu,ha⟩:=h;exact⟨cv,hu,ha.mono (λx z hx=>kL.keep hk hx)⟩
theorem cm.keep{x:Cel}{u:I}(h:cm S w γ bx x u):cm S' w' γ' bx' x u:=by
 cases x with
 |one x=>exact⟨bZ.keep hk hb h.1,h.2⟩
 |st ls=>obtain⟨cs,hu,ha,h1⟩:=h;exact⟨cs,hu,ha.mono (λx z hx=>bZ.keep hk hb hx),h1⟩
 |av n a xs=>obtain⟨cs,hu,ha⟩:=h;exact⟨cs,hu,Rep.keep hk _ _ _ ha⟩
theorem iZ.keep{tm:H->I}{x:Slot}{u:I}(h:iZ S w γ bx tm x u):iZ S' w' γ' bx' tm x u:=by
 cases x with
 |one c=>exact cm.keep hk hb h
 |tup l=>obtain⟨vs,hu,ha⟩:=h;exact⟨vs,hu,ha.mono (λx z hx=>cm.keep hk hb hx)⟩
 |cnd s b c=>exact h.imp (λh=>⟨h.1,cm.keep hk hb h.2⟩) id
 |und=>exact h
end keeps
structure Refs where
 blks:G H
 val:H->F I
 ds:G Deferred:=[]
 kw:H->F Obj:=λ_=>B
 fix:H->F Value:=λ_=>B
 mv:G Nat:=[]
instance:Membership H Refs:=⟨λr g=>g∈r.blks⟩
def Own(w0:Z)(refs:Refs)(g:H):Prop:=w0.heap.size<=g\/(g∈refs.mv/\g∈refs)
theorem Own.nil{w0:Z}{refs:Refs}{g:H}(h:Own w0 refs g)(hm:refs.mv=[]):w0.heap.size<=g:=h.elim id λh=>by rw[hm]at h;exact absurd h.1 smp_
theorem Own.swap{w0:Z}{refs refs':Refs}{g:H}(h:Own w0 refs g)(hb:refs'.blks=refs.blks)(hm:refs'.mv=refs.mv):Own w0 refs' g:=h.imp id λh=>⟨hm▸h.1,by show g∈refs'.blks;rw[hb];exact h.2⟩
theorem Own.no{w0:Z}{refs:Refs}{g:H}(h:Own w0 refs g)(h1:g<w0.heap.size)(h2:g∉refs):False:=h.elim (λh=>omg_) λh=>h2 h.2
structure Rel(N:NT)(np:H)(S0:aY)(w0:Z)(refs:Refs)(σ:St)(a:Ù)(w:Z)(S:aY)(γ:H->I):Prop where
 size:a.tmps.size=N.n
 defers:a.defers=refs.ds
 slot:∀i,iZ S w γ σ.bx (λj=>a.tmps.getD j undef) (σ.sl i) (a.tmps.getD i undef)
 box:∀k b,σ.bx k = .live b->fK S w γ σ.bx k b
 own:∀k b g,σ.bx k = .live b->blk (γ k)=D g->Own w0 refs g\/(g∈refs/\parK np k=U)
 apart:∀k k' b b' g,k≠k'->σ.bx k = .live b->σ.bx k' = .live b'->blk (γ k)=D g->blk (γ k')≠D g
 ext:∀g o,S0 g o->S g o
 new:∀g o,S g o->S0 g o\/Own w0 refs g
 here:∀g o,S g o->g<w.heap.size
 below:∀g,g<w0.heap.size->g∉refs->w.heap[g]? = w0.heap[g]?
 grow:w0.heap.size<=w.heap.size
 os:w.os=w0.os
 tape:w.tape=w0.tape
 output:w.output=w0.output
 par:∀k v,refs.val k=D v->parK np k=U/\σ.bx k ≠ .free/\γ k=v
 kept:∀g o,refs.kw g=D o->w.heap[g]? = D o/\∀k b,σ.bx k = .live b->blk (γ k)≠D g
 fix:∀i v,refs.fix i=D v->N.pin i=U/\a.tmps.getD i undef=v
section
variable{N:NT}{np:H}{S0:aY}{w0:Z}{refs:Refs}{σ:St}{a:Ù}{w:Z}{S:aY}{γ:H->I}
theorem Rel.kw_live(hR:Rel N np S0 w0 refs σ a w S γ){k:H}{b:Bx}{g:H}(hk:σ.bx k = .live b)(hg:blk (γ k)=D g):refs.kw g=none:=by
 cases h:refs.kw g with
 |none=>rfl
 |some o=>exact absurd hg ((hR.kept g o h).2 k b hk)
theorem Rel.kw_new(hR:Rel N np S0 w0 refs σ a w S γ){g:H}(hg:w.heap.size<=g):refs.kw g=none:=by
 cases h:refs.kw g with
 |none=>rfl
 |some o=>have:=(jq.1 (hR.kept g o h).1).1;omega
end
def lK:Ty->G I
 |.int k=>[.int k 0]
 |.bool=>[.bool J]
 |.str=>[.string ByteArray.empty]
 |.unit=>[]
 |.wrap a=>lK a
 |.pair a b=>lK a++lK b
 |.list _=>[.slice B 0 0]
 |.arr n a=>(Ê n (lK a)).flatten
def LW:I->I->X
 |.int k n,.int k' n'=>W (k=k')&&W (n=n')
 |.bool b,.bool b'=>b==b'
 |.string s,.string s'=>W (s.data.toList=s'.data.toList)
 |.slice B 0 0,.slice B 0 0=>U
 |_,_=>J
def B0:G I->G I->X
 |[],[]=>U
 |a::l,b::l'=>LW a b&&B0 l l'
 |_,_=>J
theorem ţ{a b:I}(h:LW a b=U):a=b:=by
 unfold LW at h;split at h<;>simp_all;rename_i s s';cases s;cases s';simp_all
theorem Uu:∀{l l':G I},B0 l l'=U->l=l'
 |[],[],_=>rfl
 |a::l,b::l',h=>by
  simp only[B0,jg]at h;rw[ţ h.1,Uu h.2]
 |[],_::_,h=>by simp[B0]at h
 |_::_,[],h=>by simp[B0]at h
def aggD:Ô->X
 |.struct _|.array _ _=>U
 |_=>J
def HN(T:H->F TyI)(e:H)(a:Ty):Bool:=
 match T e with
 |some te=>W (te.ty=D a)
 |none=>J
def mi(T:H->F TyI)(ti:TyI)(t:Ty):Ô->X
 |.int k=>W (t = .int k)
 |.bool=>W (t = .bool)
 |.string=>W (t = .str)
 |.slice e=>match t with
  |.list a=>W (e=ti.elem)&&HN T e a&&W (0<a.size)
  |_=>J
 |.array n e=>match t with
  |.arr n' a=>W (n=n')&&W (e=ti.elem)&&HN T e a&&W (0<a.size)
  |_=>J
 |.struct _=>t.agg
 |_=>J
def Dw(T:H->F TyI)(ti:TyI):Ô->X
 |.struct fs=>W (fs.toList.map (λf=>(f.offset,f.type))=ti.flds)&&fs.toList.all (λf=>match T f.type with|some tf=>W (0<tf.size)|none=>J)
 |_=>ti.flds.isEmpty
def Dx(P:À)(f:Å->F (G Ty)):H->G Field->F (G Ty)
 |_,[]=>D []
 | n, x :: xs => if x.name != "_" && W (x.offset = n) then
   match f x.type with
   |some ks=>if (P.info? x.type).map (·.size)=D ks.length then match Dx P f (n+ks.length) xs with
     |some r=>D (ks++r)
     |none=>B
    else B
   |none=>B
  else B
def xu(P:À):H->Å->F (G Ty)
 |0,_=>B
 |d+1,t=>match P.underlying t with
  |some (.int k)=>D [.int k]
  |some .bool=>D [.bool]
  |some .string=>D [.str]
  |some (.struct fs)=>if P.stoodInHeld t then B else Dx P (xu P d) 0 fs.toList
  |_=>B
def LX(P:À)(t:Å)(ks:G Ty):Bool:=
 W (xu P 12 t=D ks) && !P.eqGuardType P.depth t&&(match P.underlying t with|some (.struct _)=>U|_=>J)
def mpOk(ti:TyI)(d:Ô):Bool:=match ti.mp with
 |none=>U
 |some (k,v)=>match d with
  |.map k' v'=>W (k=k')&&W (v=v')
  |_=>J
def zOk(i:ë)(d:Ô):Bool:=match i.zero with
 |some (.agg _)=>aggD d
 |some (.tuple _)=>J
 |_=> !aggD d
def tyOk(P:À)(T:H->F TyI)(n:H)(ti:TyI):Bool:=
 match P.info? n,P.underlying n with
 |some i,D d=>W (i.size=ti.size)&&W (i.bytes<=32768)&&W (ti.agg=aggD d)&&Dw T ti d&&(((ti.cmp.isEmpty||LX P n ti.cmp)&&mpOk ti d)&&(zOk i d && !isM ti.elem)) &&
  match ti.ty with
  |none=>U
  |some t=>W (t.size=ti.size)&&(match i.zero with|some z=>B0 z.cells.toList (lK t)|none=>J)&&mi T ti t d
 |_,_=>J
def db(P:À)(T:H->F TyI):Prop:=∀n ti,T n=D ti->tyOk P T n ti=U
def tab(l:G (F TyI))(n:H):F TyI:=l.getD n B
theorem Ť(P:À)(l:G (F TyI))(h:(l.zipIdx.all λx=>match x.1 with|some ti=>tyOk P (tab l) x.2 ti|none=>U)=U):db P (tab l):=by
 intro n ti hn;rw[kj]at h
 have hm:(D ti,n)∈l.zipIdx:=by
  rw[List.mem_zipIdx_iff_getElem?];unfold tab at hn;rw[List.getD_eq_getElem?_getD]at hn;cases hl:l[n]? with
  |none=>simp[hl]at hn
  |some x=>simp[hl]at hn;simp[hn]
 exact h _ hm
section
variable{P:À}{T:H->F TyI}(hT:db P T){n:H}{ti:TyI}(hn:T n=D ti)
include hT hn
theorem ť(hc:ti.cmp.isEmpty=J):LX P n ti.cmp=true:=by
 have h:=hT n ti hn;unfold tyOk at h;split at h
 .simp only[jg,hc,y9]at h;exact h.1.2.1.1
 .simp at h
theorem Ŧ{k v:H}(hm:ti.mp=D (k,v)):P.underlying n=D (.map k v):=by
 have h:=hT n ti hn;unfold tyOk at h;split at h
 .rename_i i d hi hd;simp only[jg]at h;have h2:=h.1.2.1.2;simp only[mpOk,hm]at h2;split at h2
  .simp only[jg,js]at h2;rw[hd,h2.1,h2.2]
  .simp at h2
 .simp at h
theorem oc:∃i d,P.info? n=D i/\P.underlying n=D d/\i.size=ti.size/\i.bytes<=32768/\ti.agg=aggD d/\Dw T ti d=U/\
  ∀t,ti.ty=D t->t.size=ti.size/\(∃z,i.zero=D z/\z.cells.toList=lK t)/\mi T ti t d=true:=by
 have h:=hT n ti hn;unfold tyOk at h;split at h
 .rename_i i d hi hd;simp only[jg,js]at h;obtain⟨⟨⟨⟨⟨h1,h2⟩,h3⟩,h4⟩,_⟩,h5⟩:=h;refine⟨i,d,hi,hd,h1,h2,h3,h4,λt ht=>?_⟩;simp only[ht,jg,js]at h5;obtain⟨⟨h6,h7⟩,h8⟩:=h5;refine⟨h6,?_,h8⟩;split at h7
  .rename_i z hz;exact⟨z,hz,Uu h7⟩
  .simp at h7
 .simp at h
theorem kA(w:Z):(sizeOf n).run P w = .ok ti.size w:=by
 obtain⟨i,d,hi,hd,hs,_⟩:=oc hT hn;simp[sizeOf,typeInfo,hi,hs]
theorem B3(w:Z):(isAgg n).run P w = .ok ti.agg w:=by
 obtain⟨i,d,hi,hd,hs,_,ha,_⟩:=oc hT hn;simp only[isAgg,Y,run_underlying hd,O];rw[ha];cases d<;>rfl
theorem B4(w:Z){t:Ty}(ht:ti.ty=D t):∃z,(zeroValue n).run P w = .ok z w/\z.cells.toList=lK t:=by
 obtain⟨i,d,hi,hd,hs,_,ha,_,h⟩:=oc hT hn;obtain⟨_,⟨z,hz,hc⟩,_⟩:=h t ht;exact⟨z,by simp[zeroValue,typeInfo,hi,hz],hc⟩
theorem ŧ{i:ë}{d:Ô}(hi:P.info? n=D i)(hd:P.underlying n=D d):zOk i d=true:=by
 have h:=hT n ti hn;unfold tyOk at h;rw[hi,hd]at h;simp only[jg]at h;exact h.1.2.2.1
theorem LY:isM ti.elem=false:=by
 have h:=hT n ti hn;unfold tyOk at h;split at h
 .simp only[jg]at h;simpa using h.1.2.2.2
 .simp at h
theorem od{t:Ty}(ht:ti.ty=D t):t.size=ti.size:=by
 obtain⟨i,d,hi,hd,hs,_,ha,_,h⟩:=oc hT hn;exact(h t ht).1
theorem LZ{k:Î}(ht:ti.ty=D (.int k)):P.underlying n=D (.int k):=by
 obtain⟨i,d,hi,hd,hs,_,ha,_,h⟩:=oc hT hn;have:=(h _ ht).2.2;cases d<;>simp_all[mi,Ty.agg]
theorem pG{a:Ty}(ht:ti.ty=D (.list a)):P.underlying n=D (.slice ti.elem)/\0<a.size/\∃te,T ti.elem=D te/\te.ty=D a:=by
 obtain⟨i,d,hi,hd,hs,_,ha,_,h⟩:=oc hT hn;have gU:=(h _ ht).2.2;cases d with
 |slice e=>
  simp only[mi,jg,js]at gU;obtain⟨⟨rfl,h2⟩,h3⟩:=gU;refine⟨hd,h3,?_⟩;unfold HN at h2;split at h2
  .rename_i te cT;exact⟨te,cT,by simpa using h2⟩
  .simp at h2
 |_=>simp_all[mi,Ty.agg]
theorem B5{m:H}{a:Ty}(ht:ti.ty=D (.arr m a)):P.underlying n=D (.array m ti.elem)/\0<a.size/\∃te,T ti.elem=D te/\te.ty=D a:=by
 obtain⟨i,d,hi,hd,hs,_,ha,_,h⟩:=oc hT hn;have gU:=(h _ ht).2.2;cases d with
 |array m' e=>
  simp only[mi,jg,js]at gU;obtain⟨⟨⟨rfl,rfl⟩,h2⟩,h3⟩:=gU;refine⟨hd,h3,?_⟩;unfold HN at h2;split at h2
  .rename_i te cT;exact⟨te,cT,by simpa using h2⟩
  .simp at h2
 |_=>simp_all[mi,Ty.agg]
theorem Uv{j:H}{f:H×H}(hf:ti.flds[j]? = D f) :
  ∃fs,P.underlying n=D (.struct fs)/\∃fl,fs[j]? = D fl/\fl.offset=f.1/\fl.type=f.2/\∃tf,T f.2=D tf/\0<tf.size:=by
 obtain⟨i,d,hi,hd,_,_,oF,fh,_⟩:=oc hT hn;cases d with
 |struct fs=>
  simp only[Dw,jg,js]at fh;obtain⟨h1,h2⟩:=fh;rw[<-h1]at hf;rw[qv]at hf;cases hq:fs.toList[j]? with
  |none=>simp[hq]at hf
  |some fl=>
   simp only[hq,qj,j5]at hf;subst hf;refine⟨fs,hd,fl,by simpa using hq,rfl,rfl,?_⟩;have:=kj.1 h2 fl (ko hq);split at this
   .rename_i tf sG;exact⟨tf,sG,by simpa using this⟩
   .simp at this
 |_=>
  have:ti.flds=[]:=by simpa[Dw]using fh
  simp[this]at hf
end
section
variable{N:NT}{np:H}{S0:aY}{w0:Z}{refs:Refs}{σ:St}{a:Ù}{w:Z}{S:aY}{γ:H->I}
def tm(a:Ù)(j:H):Value:=a.tmps.getD j undef
def Ũ(P:À)(o:Æ)(a:Ù)(w:Z)(v:I)(w':Z):Prop:=
 (execOp a.eval o).run P w = .ok (.value v) w'\/((execOp a.eval o).run P w = .ok .skip w'/\v=undef)
def L0(P:À)(N:NT)(np:H)(S0:aY)(w0:Z)(refs:Refs)(o:Æ)(σ:St)(a:Ù)(w:Z)(S:aY)(γ:H->I)(s:Slot)(u:Ups):Prop:=
 ∃v w' S' γ',Ũ P o a w v w'/\Rel N np S0 w0 refs (σ.upd u) a w' S' γ'/\iZ S' w' γ' (σ.upd u).bx (tm a) s v
theorem mj{P:À}{o:Æ}{s:Slot}{v:I}(hR:Rel N np S0 w0 refs σ a w S γ)(hr:(execOp a.eval o).run P w = .ok (.value v) w)
  (hs:iZ S w γ σ.bx (tm a) s v):L0 P N np S0 w0 refs o σ a w S γ s []:=
 ⟨v,w,S,γ,.inl hr,hR,hs⟩
theorem ũ(v:I)(bx:H->BS):cm S w γ bx (.one (LL v)) v:=by
 unfold LL
 split<;>first
  |exact⟨rfl,λ_=>rfl⟩
  |exact⟨trivial,λh=>absurd rfl h⟩
theorem sH(hR:Rel N np S0 w0 refs σ a w S γ)(x:Ë):iZ S w γ σ.bx (tm a) (σ.ev x) (a.eval x):=by
 cases x with
 |tmp t=>exact hR.slot t
 |const v=>exact ũ v _
 |global g=>exact⟨trivial,λh=>absurd rfl h⟩
 |func f=>exact⟨⟨#[],rfl,trivial⟩,λ_=>rfl⟩
def sJ(tm:H->I)(act:G (H×X)):Prop:=∀g∈act,tm g.1 = .bool g.2
theorem L3{bx:H->BS}{t:H->I}{act:G (H×X)}(bn:sJ t act){s:Slot}{u:I}(h:iZ S w γ bx t s u):cm S w γ bx (s.cel act) u:=by
 cases s with
 |one c=>exact h
 |tup l=>exact⟨trivial,λh=>absurd rfl h⟩
 |und=>exact⟨trivial,λh=>absurd rfl h⟩
 |cnd s b c=>
  simp only[Slot.cel];split
  .rename_i hc;have hm:(s,b)∈act:=by simpa using hc
   have:=bn _ hm;rcases h with h|h
   .exact h.2
   .exact absurd this h.1
  .exact⟨trivial,λh=>absurd rfl h⟩
theorem ff(hR:Rel N np S0 w0 refs σ a w S γ){act:G (H×X)}(bn:sJ (tm a) act)(x:Ë) :
 cm S w γ σ.bx ((σ.ev x).cel act) (a.eval x):=L3 bn (sH hR x)
theorem jA{bx:H->BS}{c:Cel}{u:I}(h:cm S w γ bx c u):bZ S w γ bx (lf c) u:=by
 cases c with
 |one x=>exact h.1
 |st ls=>trivial
 |av n a xs=>trivial
theorem qK{k:Î}{n:(Ty.int k).den}{u:I}(h:Rep S w (.int k) n [u]):u = .int k n:=by simpa[Rep]using h
theorem L4{n:Ty.bool.den}{u:I}(h:Rep S w .bool n [u]):u = .bool n:=by simpa[Rep]using h
theorem Dy{n:Ty.str.den}{u:I}(h:Rep S w .str n [u]):u = .string n:=by simpa[Rep]using h
theorem oG{t:Ty}{x:TV}{v:t.den}(h:x.to t=D v):x=⟨t,v⟩:=by
 unfold TV.to at h;split at h
 .rename_i e;obtain⟨t',v'⟩:=x;subst e;simp at h;rw[h]
 .simp at h
theorem Uw{P:À}(op:ã)(t:Å)(x y:Ë)(k k':Î)(p q:Ä) :
  (eqGuard op t x y (.int k p) (.int k' q)).run P w = .ok () w:=by
 unfold eqGuard;cases op<;>simp
theorem Ux{P:À}(op:ã)(t:Å)(x y:Ë)(p q:X):(eqGuard op t x y (.bool p) (.bool q)).run P w = .ok () w:=by
 unfold eqGuard;cases op<;>simp
theorem Uy{P:À}(op:ã)(t:Å)(x y:Ë)(p q:È):(eqGuard op t x y (.string p) (.string q)).run P w = .ok () w:=by
 unfold eqGuard;cases op<;>simp
theorem Uz{P:À}(t:Å){k k':Î}{x y:Ä}(h:0<=y) :
  (binOp .shr t (.int k x) (.int k' y)).run P w = .ok (.int k (ê x (2^min (Â y) k.bits))) w:=by
 have h':¬y<0:=omg_;simp[binOp,Op.shift,h']
theorem Ū{P:À}{op:ã}{k:Î}{x y:Ä}{l:Leaf}{bx:H->BS}(t:Å)(h:binI op k x y=D (U,l)) :
  ∃u,(binOp op t (.int k x) (.int k y)).run P w = .ok u w/\bZ S w γ bx l u/\One u:=by
 cases op with
 |add=>simp[binI]at h;subst h;exact⟨_,by simp[binOp,Ý],rfl,rfl⟩
 |sub=>simp[binI]at h;subst h;exact⟨_,by simp[binOp,Ý],rfl,rfl⟩
 |mul=>simp[binI]at h;subst h;exact⟨_,by simp[binOp,Ý],rfl,rfl⟩
 |quo=>simp only[binI,j5,j9,qn,beq_eq_false_iff_ne]at h;obtain⟨h0,rfl⟩:=h;exact⟨_,by simp[binOp,õ,h0],rfl,rfl⟩
 |rem=>simp only[binI,j5,j9,qn,beq_eq_false_iff_ne]at h;obtain⟨h0,rfl⟩:=h;exact⟨_,by simp[binOp,õ,h0],rfl,rfl⟩
 |shr=>
  simp only[binI]at h;split at h
  .rename_i h0;simp only[j5,j9,qc]at h;subst h;exact⟨_,Uz t (by simpa using h0),rfl,rfl⟩
  .simp at h
 |and=>simp[binI]at h
 |or=>simp[binI]at h
 |xor=>simp[binI]at h
 |andNot=>simp[binI]at h
 |shl=>simp[binI]at h
 |eql=>simp[binI,cmpI]at h;subst h;exact⟨_,by simp[binOp,Ö],rfl,rfl⟩
 |neq=>simp[binI,cmpI]at h;subst h;exact⟨_,by simp[binOp,Ö],rfl,rfl⟩
 |lss=>simp[binI,cmpI]at h;subst h;exact⟨_,by simp[binOp,Ö],rfl,rfl⟩
 |leq=>simp[binI,cmpI]at h;subst h;exact⟨_,by simp[binOp,Ö],rfl,rfl⟩
 |gtr=>simp[binI,cmpI]at h;subst h;exact⟨_,by simp[binOp,Ö],rfl,rfl⟩
 |geq=>simp[binI,cmpI]at h;subst h;exact⟨_,by simp[binOp,Ö],rfl,rfl⟩
end
def L5:Ty->I->I->X->Prop
 |.int k,u,v,b=>∃x y:Ä,u = .int k x/\v = .int k y/\b=(x==y)
 |.bool,u,v,b=>∃x y:X,u = .bool x/\v = .bool y/\b=(x==y)
 |.str,u,v,b=>∃x y:È,u = .string x/\v = .string y/\b=(x.toList==y.toList)
 |_,_,_,_=>Ü
def iO:G Ty->G I->G I->X->Prop
 |[],[],[],b=>b=U
 |k::ks,u::us,v::vs,b=>∃b1 b2,L5 k u v b1/\iO ks us vs b2/\b=(b1&&b2)
 |_,_,_,_=>Ü
theorem iO.length:∀{ks:G Ty}{us vs:G I}{b:X},iO ks us vs b->us.length=ks.length/\vs.length=ks.length
 |[],[],[],_,_=>⟨rfl,rfl⟩
 |_::_,_::_,_::_,_,⟨_,_,_,h,_⟩=>by have:=iO.length h;simp[this.1,this.2]
 |[],_::_,_,_,h=>by simp[iO]at h
 |[],[],_::_,_,h=>by simp[iO]at h
 |_::_,[],_,_,h=>by simp[iO]at h
 |_::_,_::_,[],_,h=>by simp[iO]at h
theorem iO.split:∀{k1 k2:G Ty}{us vs:G I}{b:X},iO (k1++k2) us vs b->
  ∃b1 b2,iO k1 (us.take k1.length) (vs.take k1.length) b1/\iO k2 (us.drop k1.length) (vs.drop k1.length) b2/\b=(b1&&b2)
 |[],k2,us,vs,b,h=>⟨U,b,by simp[iO],by simpa using h,smp_⟩
 |k::k1,k2,u::us,v::vs,b,⟨b1,b2,h1,h2,hb⟩=>by
  obtain⟨c1,c2,h3,h4,hc⟩:=iO.split h2;exact⟨b1&&c1,c2,⟨b1,c1,h1,h3,rfl⟩,h4,by rw[hb,hc,Bool.and_assoc]⟩
 |_::_,_,[],_,_,h=>by simp[iO]at h
 |_::_,_,_::_,[],_,h=>by simp[iO]at h
theorem iO.single{k:Ty}{us vs:G I}{b:X}(h:iO [k] us vs b):∃u v,us=[u]/\vs=[v]/\L5 k u v b:=by
 have hl:=h.length;match us,vs,hl with
 |[u],[v],_=>obtain⟨b1,b2,h1,h2,hb⟩:=h;simp only[iO]at h2;subst h2;rw[Bool.and_true]at hb;exact⟨u,v,rfl,rfl,hb▸h1⟩
def rS(P:À)(t:Å)(us:G I):Value:=
 match P.underlying t with
 |some (.struct _)=> .agg us.toArray
 |_=>us.headD undef
theorem UA{P:À}{w:Z}{t:Å}{us:G I}{o n:H}{i:ë}{d:Ô}(hi:P.info? t=D i)(hn:i.size=n)
  (hd:P.underlying t=D d)(hl:o+n<=us.length)(h1:(∃fs,d = .struct fs)\/((∀fs,d ≠ .struct fs)/\(∀m e,d ≠ .array m e)/\n=1)) :
  (part t us.toArray o).run P w = .ok (rS P t ((us.drop o).take n)) w:=by
 rcases h1 with⟨fs,rfl⟩|⟨h1,h2,rfl⟩
 .simp[part,isAgg,run_underlying hd,sizeOf,typeInfo,hi,hn,rS,hd,List.take_drop]
 .have hv:rS P t ((us.drop o).take 1)=us[o]:=by
   have:(us.drop o).take 1=[us[o]]:=by rw[jb omg_];rfl
   unfold rS;rw[this,hd];cases d<;>first|rfl|exact absurd rfl (h1 _)
  have ha:(isAgg t).run P w = .ok J w:=by simp only[isAgg,Y,run_underlying hd,O];cases d<;>first|rfl|exact absurd rfl (h1 _)|exact absurd rfl (h2 _ _)
  rw[hv];simp only[part,Y,ha,O,kv,zu];rw[show us.toArray[o]? = D us[o] by simp];rfl
theorem UB(P:À)(w:Z):∀(k:H)(t:Å)(ks:G Ty),xu P k t=D ks->∀d,k<=d->∀us vs b,iO ks us vs b->
  (ó d t (rS P t us) (rS P t vs)).run P w = .ok b w
 |0,_,_,h,_,_,_,_,_,_=>by simp[xu]at h
 |k+1,t,ks,h,d,hd,us,vs,b,he=>by
  obtain⟨d,rfl⟩:∃d',d=d'+1:=⟨d-1,omg_⟩;unfold xu at h;split at h
  .rename_i kk hu;simp at h;subst h;obtain⟨u,v,rfl,rfl,hc⟩:=he.single;obtain⟨x,y,rfl,rfl,hb⟩:=hc;simp[rS,hu,run_equalIn_int w d t _ _ _ _ hu,hb]
  .rename_i hu;simp at h;subst h;obtain⟨u,v,rfl,rfl,hc⟩:=he.single;obtain⟨x,y,rfl,rfl,hb⟩:=hc;simp[rS,hu,run_equalIn_bool' w d t _ _ hu,hb]
  .rename_i hu;simp at h;subst h;obtain⟨u,v,rfl,rfl,hc⟩:=he.single;obtain⟨x,y,rfl,rfl,hb⟩:=hc;simp[rS,hu,run_equalIn_string w d t _ _ hu,hb]
  .rename_i fs hu;split at h
   .simp at h
   rename_i aQ;have hf:P.fieldsOf t=fs:=by simp[Program.fieldsOf,hu]
   have fq:∀us:G I,rS P t us = .agg us.toArray:=λus=>by simp[rS,hu]
   rw[fq,fq,run_equalIn_agg w d t _ _ (by rw[hf];exact hu) (by simpa using aQ),hf]
   have key:∀(fl:G Field)(n:H)(ks:G Ty),Dx P (xu P k) n fl=D ks->∀b,n<=us.length->n<=vs.length->iO ks (us.drop n) (vs.drop n) b->
     (î d us.toArray vs.toArray fl).run P w = .ok b w:=by
    intro fl;induction fl with
    |nil=>intro n ks hk b ū Ŭ hc;simp[Dx]at hk;subst hk;have hl:=hc.length;have:us.drop n=[]:=kf hl.1;have h':vs.drop n=[]:=kf hl.2;rw[this,h']at hc;simp[iO]at hc;subst hc;rfl
    |cons x fl ih=>
     intro n ks hk b ū Ŭ hc;simp only[Dx,jg,bne_iff_ne,ne_eq,js]at hk;split at hk
     .rename_i hx;split at hk
      .rename_i k1 dE;split at hk
       .rename_i cp;split at hk
        .rename_i k2 gy;simp at hk;subst hk;obtain⟨b1,b2,fL,gm,hb⟩:=hc.split;have hlen:=hc.length;simp only[zj,jc]at hlen;cases hi:P.info? x.type with
         |none=>simp[hi]at cp
         |some i=>
          simp only[hi,qj,j5]at cp
          have zU:∃dd,P.underlying x.type=D dd/\((∃fs,dd = .struct fs)\/((∀fs,dd ≠ .struct fs)/\(∀m e,dd ≠ .array m e)/\k1.length=1)):=by
           cases k with
           |zero=>simp[xu]at dE
           |succ k=>
            unfold xu at dE;split at dE
            .rename_i eE;simp at dE;subst dE;exact⟨_,eE,.inr ⟨smp_,smp_,rfl⟩⟩
            .rename_i eE;simp at dE;subst dE;exact⟨_,eE,.inr ⟨smp_,smp_,rfl⟩⟩
            .rename_i eE;simp at dE;subst dE;exact⟨_,eE,.inr ⟨smp_,smp_,rfl⟩⟩
            .rename_i eE;exact⟨_,eE,.inl ⟨_,rfl⟩⟩
            .simp at dE
          obtain⟨dd,qL,pH⟩:=zU;have xv:=UA (P:=P) (w:=w) (us:=us) (o:=n) hi cp qL omg_ pH;have xw:=UA (P:=P) (w:=w) (us:=vs) (o:=n) hi cp qL omg_ pH;have gI:=UB P w k x.type k1 dE d omg_ _ _ b1 fL;simp only[î];rw[if_pos hx.1];simp only[Y,hx.2,xv,O,xw,gI,Ó];cases b1
          .simp[hb]
          .simp only[jl,kv,zu];rw[hb,ym];refine ih (n+k1.length) k2 gy b2 omg_ omg_ ?_;rw[<-ß,<-ß];exact gm
        .simp at hk
       .simp at hk
      .simp at hk
     .simp at hk
   exact key fs.toList 0 ks h b omg_ omg_ (by simpa using he)
  .simp at h
termination_by k=>k
section
variable{S:aY}{w:Z}{γ:H->I}{bx:H->BS}
theorem ŭ{t t':Ty}{x:t.den}{y:t'.den}{b:X}{u v:I}(h:eqT ⟨t,x⟩ ⟨t',y⟩=D b)(hx:Rep S w t x [u])(hy:Rep S w t' y [v])(ht:t'=t):L5 t u v b:=by
 subst ht;cases t' with
 |int k=>simp[eqT]at h;exact⟨x,y,qK hx,qK hy,h.symm⟩
 |bool=>simp[eqT]at h;exact⟨x,y,L4 hx,L4 hy,h.symm⟩
 |str=>simp[eqT]at h;exact⟨x,y,Dy hx,Dy hy,h.symm⟩
 |_=>simp[eqT]at h
theorem Ů(ks:G Ty):∀{l l':G Leaf}{b:X}{us vs:G I},eqL ks l l'=D b->All2 (bZ S w γ bx) l us->All2 (bZ S w γ bx) l' vs->iO ks us vs b:=by
 induction ks with
 |nil=>
  intro l l' b us vs h h1 h2;cases l with
  |cons _ _=>simp[eqL]at h
  |nil=>
   cases l' with
   |cons _ _=>simp[eqL]at h
   |nil=>
    cases us with
    |cons _ _=>exact h1.elim
    |nil=>cases vs with
     |cons _ _=>exact h2.elim
     |nil=>simp[eqL]at h;simp[iO,h]
 |cons k ks ih=>
  intro l l' b us vs h h1 h2;cases l with
  |nil=>simp[eqL]at h
  |cons l0 l=>
   cases l' with
   |nil=>cases l0<;>simp[eqL]at h
   |cons m0 l'=>
    cases us with
    |nil=>exact h1.elim
    |cons u us=>
     cases vs with
     |nil=>exact h2.elim
     |cons v vs=>
      cases l0 with
      |d t x=>
       cases m0 with
       |d t' y=>
        simp only[eqL]at h;split at h
        .rename_i hk;obtain⟨rfl,rfl⟩:=hk;split at h
         .rename_i b1 dR;have hc:=ŭ dR h1.1 h2.1 rfl;split at h
          .split at h
           .simp at h;subst h;cases us with
            |nil=>cases vs with
             |nil=>exact⟨b1,U,hc,by simp[iO],smp_⟩
             |cons _ _=>exact h2.2.elim
            |cons _ _=>exact h1.2.elim
           .simp at h
          .split at h
           .rename_i b2 fv;simp at h;subst h;exact⟨b1,b2,hc,ih fv h1.2 h2.2,rfl⟩
           .simp at h
         .simp at h
        .simp at h
       |_=>simp[eqL]at h
      |_=>simp[eqL]at h
theorem UC{P:À}{T:H->F TyI}(hT:db P T){t:Å}{l l':G Leaf}{b:X}{us vs:Ç I}
  (bz:(xj (T t)).isEmpty=J)(h:eqL (xj (T t)) l l'=D b)(h1:All2 (bZ S w γ bx) l us.toList)(h2:All2 (bZ S w γ bx) l' vs.toList) :
  P.eqGuardType P.depth t=J/\(ó 10000 t (.agg us) (.agg vs)).run P w = .ok b w:=by
 cases ht:T t with
 |none=>simp[xj,ht]at bz
 |some ti=>
  simp only[xj,ht]at bz h;have hc:=ť hT ht bz;simp only[LX,jg,js,qn]at hc;obtain⟨⟨hk,hg⟩,hs⟩:=hc;refine⟨hg,?_⟩;have he:=UB P w 12 t _ hk 10000 omg_ us.toList vs.toList b (Ů _ h h1 h2);split at hs
  .rename_i fs hu;simpa[rS,hu]using he
  .simp at hs
end
section
variable{N:NT}{np:H}{S0:aY}{w0:Z}{refs:Refs}{σ:St}{a:Ù}{w:Z}{S:aY}{γ:H->I}{bx:H->BS}
theorem xx{k:Î}{n:(Ty.int k).den}{u:I}(h:cm S w γ bx (.one (.d (.int k) n)) u):u = .int k n:=qK (S:=S) (w:=w) h.1
theorem uE{n:Ty.bool.den}{u:I}(h:cm S w γ bx (.one (.d .bool n)) u):u = .bool n:=L4 (S:=S) (w:=w) h.1
theorem UD{n:Ty.str.den}{u:I}(h:cm S w γ bx (.one (.d .str n)) u):u = .string n:=Dy (S:=S) (w:=w) h.1
theorem ů{P:À}{T:H->F TyI}(hT:db P T){op:ã}{t:Å}{x y:Ë}{c c':Cel}{l:Leaf}{u v:I}
  (h:binC (T t) op c c'=D (U,l))(hc:cm S w γ bx c u)(fP:cm S w γ bx c' v) :
  ∃z,(do eqGuard op t x y u v;binOp op t u v:Sem I).run P w = .ok z w/\bZ S w γ bx l z/\One z:=by
 unfold binC at h;split at h
 .rename_i k p k' q;have hu:=xx hc;have hv:=xx fP;subst hu hv;split at h
  .rename_i hk;subst hk;obtain⟨z,hz,hl,h1⟩:=Ū (P:=P) (w:=w) (S:=S) (γ:=γ) (bx:=bx) t h;exact⟨z,by simp only[Y,Uw,O,hz],hl,h1⟩
  .split at h
   .split at h
    .rename_i h0;simp only[j5,j9,qc]at h;subst h;exact⟨_,by simp only[Y,Uw,O,Uz t (by simpa using h0)],rfl,rfl⟩
    .simp at h
   .simp at h
 .rename_i p q;have hu:=uE hc;have hv:=uE fP;subst hu hv;split at h
  .rename_i hb
   have UE:P.underlying t=D .bool:=by
    unfold Ul at hb;split at hb
    .rename_i ti Dz;obtain⟨i,d,hi,hd,_,_,_,_,hh⟩:=oc hT Dz;have:=(hh _ (by simpa using hb)).2.2;cases d<;>simp_all[mi,Ty.agg]
    .simp at hb
   split at h
   .simp only[j5,j9,qc]at h;subst h;refine⟨.bool (p==q),?_,rfl,rfl⟩;simp only[Y,Ux,O,binOp];simp only[ü,ï,run_equalIn_bool' w 9999 t p q UE,O,Á]
   .simp only[j5,j9,qc]at h;subst h;refine⟨.bool (!(p==q)),?_,rfl,rfl⟩;simp only[Y,Ux,O,binOp];simp only[ü,ï,run_equalIn_bool' w 9999 t p q UE,O,Á]
   .simp at h
  .simp at h
 .rename_i p q;have hu:=UD hc;have hv:=UD fP;subst hu hv;split at h
  .simp only[j5,j9,qc]at h;subst h;exact⟨_,by simp only[Y,Uy,O,binOp,ð,Á],rfl,rfl⟩
  .simp only[j5,j9,qc]at h;subst h;exact⟨_,by simp only[Y,Uy,O,binOp,ð,Á],rfl,rfl⟩
  .simp at h
 .rename_i p q;obtain⟨us,rfl,h1,_⟩:=hc;obtain⟨vs,rfl,h2,_⟩:=fP;split at h
  .simp at h
  rename_i bz;have bz:(xj (T t)).isEmpty=false:=by simpa using bz
  split at h
  .split at h
   .rename_i b hb;simp only[j5,j9,qc]at h;subst h;obtain⟨hg,he⟩:=UC hT bz hb h1 h2;exact⟨_,by simp only[Y,run_eqGuard_agg w .eql t x y us vs hg,O,run_eql_struct,he],rfl,rfl⟩
   .simp at h
  .split at h
   .rename_i b hb;simp only[j5,j9,qc]at h;subst h;obtain⟨hg,he⟩:=UC hT bz hb h1 h2;exact⟨_,by simp only[Y,run_eqGuard_agg w .neq t x y us vs hg,O,run_neq_struct,he],rfl,rfl⟩
   .simp at h
  .simp at h
 .simp at h
theorem Ű{P:À}{op:UnOp}{c:Cel}{l:Leaf}{u:I}(h:unC op c=D l)(hc:cm S w γ bx c u) :
  ∃z,(ì op u).run P w = .ok z w/\bZ S w γ bx l z/\One z:=by
 unfold unC at h;split at h
 .have hu:=uE hc;subst hu;split at h
  .simp at h;subst h;exact⟨_,by simp[ì],rfl,rfl⟩
  .simp at h
 .have hu:=xx hc;subst hu;split at h
  .simp at h;subst h;exact⟨_,by simp[ì,Ý],rfl,rfl⟩
  .simp at h
 .simp at h
theorem ű{P:À}{cs:G Cel}{l:Leaf}{us:G I}{ts:Ç Å}{ty:Å}(h:minC cs=D l)(hc:All2 (cm S w γ bx) cs us) :
  ∃z,(è ts ty us.toArray).run P w = .ok z w/\bZ S w γ bx l z/\One z:=by
 unfold minC at h;split at h
 .rename_i k p k' q;match us,hc with
  |[u,v],⟨h1,h2,_⟩=>
   have hu:=xx h1;have hv:=xx h2;subst hu hv;split at h
   .simp at h;subst h;exact⟨_,by simp[è,ÿ],rfl,rfl⟩
   .simp at h
 .simp at h
theorem Ų{P:À}{cs:G Cel}{l:Leaf}{us:G I}{ts:Ç Å}{ty:Å}(h:maxC cs=D l)(hc:All2 (cm S w γ bx) cs us) :
  ∃z,(é ts ty us.toArray).run P w = .ok z w/\bZ S w γ bx l z/\One z:=by
 unfold maxC at h;split at h
 .rename_i k p k' q;match us,hc with
  |[u,v],⟨h1,h2,_⟩=>
   have hu:=xx h1;have hv:=xx h2;subst hu hv;split at h
   .simp at h;subst h;exact⟨_,by simp[é,Builtin.max2],rfl,rfl⟩
   .simp at h
 .simp at h
theorem rT:∀(t:Ty)(v:t.den)(cs:G I),Rep S w t v cs->All2 (λx z=>Rep S w x.t x.v [z]) (scat t v) cs
 |.int k,v,cs,h=>by rw[h];exact⟨rfl,trivial⟩
 |.bool,v,cs,h=>by rw[h];exact⟨rfl,trivial⟩
 |.str,v,cs,h=>by rw[h];exact⟨rfl,trivial⟩
 |.unit,v,cs,h=>by rw[h];exact trivial
 |.wrap a,v,cs,h=>rT a v cs h
 |.pair a b,v,cs,⟨c1,c2,e,h1,h2⟩=>by rw[e];exact(rT a v.1 c1 h1).append (rT b v.2 c2 h2)
 |.list a,v,cs,h=>by
  obtain⟨ad,cap,e,h'⟩:=h;subst e;exact⟨⟨ad,cap,rfl,h'⟩,trivial⟩
 |.arr n a,v,cs,⟨hn,css,ha,e⟩=>by
  have key:∀(xs:G a.den)(css:G (G I)),All2 (λx c=>Rep S w a x c) xs css->
    All2 (λx z=>Rep S w x.t x.v [z]) (xs.flatMap (scat a)) css.flatten:=by
   intro xs;induction xs with
   |nil=>intro css h;cases css with|nil=>exact trivial|cons _ _=>exact h.elim
   |cons x xs ih=>
    intro css h;cases css with
    |nil=>exact h.elim
    |cons c css=>exact(rT a x c h.1).append (ih css h.2)
  have hw:∀l:G a.den,(Ø l.length).flatMap (λi=>scat a (l.getD i a.dflt))=l.flatMap (scat a):=by
   intro l;induction l with
   |nil=>rfl
   |cons x l ih=>rw[ji,List.range_succ_eq_map,z7,List.flatMap_map];simp only[z7];congr 1
  have hm:∀(l:G a.den)(m:H),l.length=m->(Ø m).flatMap (λi=>scat a (l.getD i a.dflt))=l.flatMap (scat a):=by intro l m hl;subst hl;exact hw l
  have he:scat (.arr n a) v=List.flatMap (scat a) v:=hm v n hn;rw[e,he];exact key v css ha
theorem uF:∀{xs:G TV}{cs:G I},All2 (λx z=>Rep S w x.t x.v [z]) xs cs->All2 (bZ S w γ bx) (xs.map TV.leaf) cs:=
 λh=>All2.map_left.2 h
theorem L6(t:Ty)(v:t.den)(cs:G I)(u:I)(h:Rep S w t v cs)(hu:(t.agg=U\/∃n a,t = .arr n a)->u = .agg cs.toArray)(eE:t.agg=J->(∀n a,t ≠ .arr n a)->cs=[u]) :
  cm S w γ bx (rK t v) u:=by
 cases t with
 |int k=>have:=eE rfl smp_;subst this;exact⟨h,λ_=>Rep.one _ _ _ h u smp_⟩
 |bool=>have:=eE rfl smp_;subst this;exact⟨h,λ_=>Rep.one _ _ _ h u smp_⟩
 |str=>have:=eE rfl smp_;subst this;exact⟨h,λ_=>Rep.one _ _ _ h u smp_⟩
 |list a=>have:=eE rfl smp_;subst this;exact⟨h,λ_=>Rep.one _ _ _ h u smp_⟩
 |unit=>have:=hu (.inl rfl);subst this;exact⟨_,rfl,by simpa using uF (rT _ v cs h),by simpa using Rep.one _ _ _ h⟩
 |wrap a=>have:=hu (.inl rfl);subst this;exact⟨_,rfl,by simpa using uF (rT _ v cs h),by simpa using Rep.one _ _ _ h⟩
 |pair a b=>have:=hu (.inl rfl);subst this;exact⟨_,rfl,by simpa using uF (rT _ v cs h),by simpa using Rep.one _ _ _ h⟩
 |arr n a=>have:=hu (.inr ⟨n,a,rfl⟩);subst this;exact⟨_,rfl,by simpa using h⟩
theorem UF{g o:H}{cs:G I}(h:∀j v,cs[j]? = D v->w.cell? ⟨g,o+j,B⟩=D v)(P:À) :
  (loadCells ⟨g,o,B⟩ cs.length).run P w = .ok cs.toArray w:=
 run_loadCells_list (P:=P) w ⟨g,o,B⟩ cs (λj v hv=>by rw[Ì];exact h j v hv)
theorem ų{P:À}{T:H->F TyI}(hT:db P T){t:Å}{ti:TyI}(ht:T t=D ti){ls:G Leaf}{c:Cel}(h:u4 ti ls=D c)
  {g o:H}{cs:G I}(hr:All2 (bZ S w γ bx) ls cs)(h1:∀u∈cs,One u)(hl:∀j v,cs[j]? = D v->w.cell? ⟨g,o+j,B⟩=D v) :
  ∃u,(loadVar t ⟨g,o,B⟩).run P w = .ok u w/\cm S w γ bx c u:=by
 unfold u4 at h;split at h
 .rename_i ha;split at h
  .rename_i hlen;simp at h;subst h;refine⟨.agg cs.toArray,?_,cs.toArray,rfl,by simpa using hr,by simpa using h1⟩;have hs:=UF (w:=w) hl P;rw[<-hr.length,hlen]at hs;simp only[loadVar,Y,B3 hT ht,ha,O,if_true,kA hT ht,hs,Á]
  .simp at h
 .rename_i ha;split at h
  .simp at h;subst h;match cs,hr with
   |[u],⟨hr,_⟩=>refine⟨u,?_,hr,λ_=>h1 u smp_⟩;have dF:=hl 0 u rfl;simp only[loadVar,Y,B3 hT ht,O,if_neg ha,run_load];rw[vr]at dF;simp[dF]
  .simp at h
end
theorem zV{α:Type}{R:α->G I->Prop}{m:H}(hm:∀x c,R x c->c.length=m) :
  ∀{xs:G α}{css:G (G I)},All2 R xs css->∀(i:H)(d:α),i<xs.length->
   ∃c,css[i]? = D c/\R (xs.getD i d) c/\∀(j:H)(v:I),c[j]? = D v->css.flatten[i*m+j]? = D v
 |[],_,_,i,d,hi=>by simp at hi
 |x::xs,c::css,h,0,d,_=>⟨c,smp_,by simpa using h.1,λj v hv=>by
  have hj:j<c.length:=(ka.1 hv).1;simp[List.getElem?_append_left hj,hv]⟩
 |x::xs,c::css,h,i+1,d,hi=>by
  obtain⟨c',h1,h2,h3⟩:=zV hm h.2 i d (by simpa using hi);refine⟨c',by simpa using h1,by simpa using h2,λj v hv=>?_⟩;have hl:=hm _ _ h.1;rw[qm,kn (by rw[hl,yf];omega),hl];have:(i+1)*m+j-m=i*m+j:=by rw[yf];omega
  rw[this];exact h3 j v hv
 |_::_,[],h,_,_,_=>h.elim
section
variable{N:NT}{np:H}{S0:aY}{w0:Z}{refs:Refs}{σ:St}{a:Ù}{w:Z}{S:aY}{γ:H->I}
def RdR(σ:St)(rd:H->BS):Prop:=∀k,rd k=σ.bx k\/rd k = .gone
theorem RdR.live{rd:H->BS}(h:RdR σ rd){k:H}{b:Bx}(hk:rd k = .live b):σ.bx k = .live b:=by
 rcases h k with h|h
 .rw[<-h,hk]
 .rw[h]at hk;simp at hk
theorem RdR.free{rd:H->BS}(h:RdR σ rd){k:H}(hk:nk (rd k)=U):σ.bx k = .free:=by
 rcases h k with h|h
 .rw[<-h];revert hk;cases rd k<;>simp[nk]
 .rw[h]at hk;simp[nk]at hk
def NoM(rd:H->BS):Prop:=∀(k e:H)(a:Ty)(xs:G a.den)(f:X),rd k = .live (.lst e a xs f)->isM e=J
def RdOk(σ:St)(rd:H->BS):Prop:=RdR σ rd/\NoM rd
theorem RdOk.live{rd:H->BS}(h:RdOk σ rd){k:H}{b:Bx}(hk:rd k = .live b):σ.bx k = .live b:=h.1.live hk
theorem RdOk.free{rd:H->BS}(h:RdOk σ rd){k:H}(hk:nk (rd k)=U):σ.bx k = .free:=h.1.free hk
theorem RdOk.nm{rd:H->BS}(h:RdOk σ rd){k e:H}{a:Ty}{xs:G a.den}{f:X}(hk:rd k = .live (.lst e a xs f)):isM e=false:=h.2 k e a xs f hk
theorem Ŵ{rd:H->BS}{k:H}{b:Bx}(h:mskM rd k = .live b):rd k = .live b/\∀(e:H)(a:Ty)(xs:G a.den)(f:X),b = .lst e a xs f->isM e=false:=by
 unfold mskM at h;split at h
 .rename_i e a xs f hk;split at h
  .simp at h
  .rename_i hm;rw[hk,h];refine⟨rfl,λe' a' dj f' hb=>?_⟩;simp only[BS.live.injEq]at h;rw[<-h]at hb;cases hb;simpa using hm
 .rename_i bz;refine⟨h,λe a xs f hb=>?_⟩;subst hb;exact absurd h (bz e a xs f)
theorem UG{rd:H->BS}(k:H):mskM rd k=rd k\/mskM rd k = .gone:=by
 unfold mskM;split
 .rename_i e a xs f hk;split
  .exact .inr rfl
  .exact .inl hk.symm
 .exact .inl rfl
theorem ŵ(rd:H->BS):NoM (mskM rd):=λk e a xs f h=>(Ŵ h).2 e a xs f rfl
theorem RdR.msk{rd:H->BS}(h:RdR σ rd):RdOk σ (mskM rd):=
 ⟨λk=>(UG (rd:=rd) k).elim (λe=>(h k).imp (e.trans ·) (e.trans ·)) .inr,ŵ rd⟩
theorem Ŷ(hR:Rel N np S0 w0 refs σ a w S γ){k e:H}{t:Ty}{xs:G t.den}{frz:X}(hk:σ.bx k = .live (.lst e t xs frz))
  {g cap:H}(hg:γ k = .slice (D ⟨g,0,B⟩) xs.length cap){i:H}(hi:i<xs.length) :
  ∃cs,Rep S w t (xs.getD i t.dflt) cs/\∀(j:H)(v:I),cs[j]? = D v->w.cell? ⟨g,i*t.size+j,B⟩=D v:=by
 obtain⟨css,bd,ha,_⟩:=HM hg (hR.box k _ hk);obtain⟨c,h1,h2,h3⟩:=zV (λx c hx=>Rep.length t x c hx) ha i t.dflt hi;refine⟨c,h2,λj v hv=>?_⟩;have:=bd.cells (g:=g) (by rw[hg];rfl) (i*t.size+j) v (h3 j v hv);rwa[Ì,ki]at this
theorem ŷ(hR:Rel N np S0 w0 refs σ a w S γ){k n:H}{t:Ty}{xs:G t.den}(hk:σ.bx k = .live (.arr n t xs))
  {g:H}(hg:γ k = .pointer (D ⟨g,0,B⟩)){i:H}(hi:i<n) :
  ∃cs,Rep S w t (xs.getD i t.dflt) cs/\∀(j:H)(v:I),cs[j]? = D v->w.cell? ⟨g,i*t.size+j,B⟩=D v:=by
 obtain⟨g',cur,e,aL,hh,⟨hn,css,ha,he⟩,_⟩:=hR.box k _ hk;rw[hg]at aL;simp at aL;subst aL;obtain⟨c,h1,h2,h3⟩:=zV (λx c hx=>Rep.length t x c hx) ha i t.dflt (by rw[hn];exact hi);refine⟨c,h2,λj v hv=>?_⟩;have:=h3 j v hv;rw[<-he]at this;rw[cell_of_row w g _ cur e (0,0) hh];simpa using this
theorem HO{l:G I}{c n j:H}{v:I}(h:((l.drop c).take n)[j]? = D v):l[c+j]? = D v:=by
 rw[zb]at h;split at h
 .rwa[Ò]at h
 .simp at h
theorem L7{l:G I}{c n:H}{P:I->Prop}(h:∀u∈l,P u):∀u∈(l.drop c).take n,P u:=
 λu hu=>h u (ve (qq hu))
theorem UH{P:À}{E:Env}(hT:db P E.T)(hR:Rel N np S0 w0 refs σ a w S γ){rd:H->BS}(bj:RdOk σ rd){t:Å}{ti:TyI}(ht:E.T t=D ti)
  {x:Leaf}{c:Cel}{u:I}(h:qG rd ti x=D c)(hx:bZ S w γ σ.bx x u) :
  ∃z,(Ú t u).run P w = .ok z w/\cm S w γ σ.bx c z:=by
 have fin:∀(g o:H)(ls:G Leaf)(cs:G I),u = .pointer (D ⟨g,o,B⟩)->u4 ti ls=D c->All2 (bZ S w γ σ.bx) ls cs->(∀u∈cs,One u)->
   (∀(j:H)(v:I),cs[j]? = D v->w.cell? ⟨g,o+j,B⟩=D v)->∃z,(Ú t u).run P w = .ok z w/\cm S w γ σ.bx c z:=by
  intro g o ls cs hu hm hr h1 hl;obtain⟨z,hz,hc⟩:=ų (P:=P) hT ht hm hr h1 hl;exact⟨z,by subst hu;simp only[Ú,Y,Ñ,Á,O,hz],hc⟩
 cases x with
 |bp k o=>
  obtain⟨_,_,hb⟩:=hx;simp only[qG]at h;split at h
  .rename_i ls frz hk;have hk:=bj.live hk;obtain⟨g,hg,hu⟩:=hb _ hk;obtain⟨g',cur,e,aL,hh,ha,h1,_⟩:=hR.box k _ hk;rw[hg]at aL;simp at aL;subst aL;refine fin g o _ (((cur.toList.take ls.length).drop o).take ti.size) hu h ((ha.drop o).take ti.size) (L7 h1) (λj v hv=>?_);rw[cell_of_row w g _ cur e (0,0) hh];have hv:=HO hv;rw[zb]at hv;split at hv
   .simpa using hv
   .simp at hv
  .rename_i n el xs hk;split at h
   .rename_i hc;obtain⟨rfl,bO⟩:=hc;simp at h;subst h;have hk:=bj.live hk;obtain⟨g,hg,hu⟩:=hb _ hk;obtain⟨g',cur,e,aL,hh,bR,_⟩:=hR.box k _ hk;rw[hg]at aL;simp at aL;subst aL;obtain⟨L8,_,_⟩:=B5 hT ht bO;obtain⟨i,d,hi,hd,hs,_,oF,_,HP⟩:=oc hT ht;have cp:cur.size=ti.size:=by have:=Rep.length _ _ _ bR;rw[od hT ht bO]at this;simpa using this
    refine⟨.agg cur,?_,cur,rfl,bR⟩;subst hu;have:=run_loadVar_row (P:=P) w g e t cur (0,0) d hh hd (by rw[L8]at hd;cases hd;rfl) (by rw[hi];simp[hs,cp]);simp only[Ú,Y,Ñ,Á,O,this]
   .simp at h
  .simp at h
 |ep k i o=>
  obtain⟨_,_,hb⟩:=hx;simp only[qG]at h;split at h
  .rename_i e el xs frz hk;have hk:=bj.live hk;obtain⟨_,hi,g,cap,hg,hu⟩:=hb _ hk;obtain⟨cs,bR,dF⟩:=Ŷ hR hk hg hi;refine fin g _ _ ((cs.drop o).take ti.size) hu h (((uF (rT el _ cs bR)).drop o).take ti.size) (L7 (Rep.one _ _ _ bR)) (λj v hv=>?_);rw[Í];exact dF _ v (HO hv)
  .rename_i n el xs hk;have hk:=bj.live hk;obtain⟨hi,g,hg,hu⟩:=hb _ hk;obtain⟨cs,bR,dF⟩:=ŷ hR hk hg hi;refine fin g _ _ ((cs.drop o).take ti.size) hu h (((uF (rT el _ cs bR)).drop o).take ti.size) (L7 (Rep.one _ _ _ bR)) (λj v hv=>?_);rw[Í];exact dF _ v (HO hv)
  .simp at h
 |ip ls=>
  obtain⟨g,o,cs,hu,ha,hl⟩:=hx;simp only[qG]at h;refine fin g o _ (cs.take ti.size) hu h ((uF ha).take ti.size) (λu hu=>?_) (λj v hv=>?_)
  .obtain⟨x,_,hx⟩:=ha.mem_right u (qq hu);exact Rep.one _ _ _ hx u smp_
  .rw[zb]at hv;split at hv
   .exact(hl j v hv).2
   .simp at hv
 |_=>simp[qG]at h
theorem Ÿ{P:À}{T:H->F TyI}(hT:db P T){f:Field}{tf:TyI}(hf:T f.type=D tf)(hs:0<tf.size)(g o:H) :
  (fieldPlace ⟨g,o,B⟩ f).run P w = .ok ⟨g,o+f.offset,B⟩ w:=by
 have h0:tf.size≠0:=omg_;simp only[fieldPlace,Y,kA hT hf,O,Ó,if_neg h0,Á,Ì]
theorem DA{rd:H->BS}{k:H}(h:isLive (rd k)=U):∃b,rd k = .live b:=by
 revert h
 cases rd k<;>simp[isLive]
theorem Ź{P:À}{E:Env}(hT:db P E.T){rd:H->BS}(bj:RdOk σ rd){t:Å}{ti:TyI}(ht:E.T t=D ti){i:H}{x l:Leaf}{u:I}
  (h:rL rd ti i x=D l)(hx:bZ S w γ σ.bx x u) :
  ∃z,(á t u i).run P w = .ok z w/\bZ S w γ σ.bx l z/\One z:=by
 have fin:∀(g o:H)(f:H×H),u = .pointer (D ⟨g,o,B⟩)->ti.flds[i]? = D f->
   (á t u i).run P w = .ok (.pointer (D ⟨g,o+f.1,B⟩)) w:=by
  intro g o f hu hf;obtain⟨fs,hd,fl,fh,vE,bO,tf,sG,hs⟩:=Uv hT ht hf;subst hu;simp only[á,Y,run_underlying hd,O,fh,Ñ,Á,Ÿ hT (bO▸sG) hs,vE]
 cases x with
 |bp k o=>
  obtain⟨kB,_,hb⟩:=hx;simp only[rL]at h;split at h
  .rename_i f hf;split at h
   .rename_i hl;simp at h;subst h;obtain⟨b,hk⟩:=DA hl;obtain⟨g,hg,hu⟩:=hb b (bj.live hk);exact⟨_,fin g o f hu hf,⟨kB,rfl,λb' aW=>by obtain⟨g',aL,eE⟩:=hb b' aW;rw[hu]at eE;simp at eE;subst eE;exact⟨g,aL,rfl⟩⟩,rfl⟩
   .simp at h
  .simp at h
 |ep k j o=>
  obtain⟨kB,_,hb⟩:=hx;simp only[rL]at h;split at h
  .rename_i f hf;split at h
   .rename_i hl;simp at h;subst h;obtain⟨b,hk⟩:=DA hl;have h0:=hb b (bj.live hk);have dO:=bj.live hk;cases b with
    |cell _ _=>exact h0.elim
    |lst e el xs frz=>obtain⟨ct,hi,g,cap,hg,hu⟩:=h0;refine⟨_,fin g _ f hu hf,⟨kB,rfl,λb' aW=>?_⟩,rfl⟩;rw[dO]at aW;cases aW;exact⟨ct,hi,g,cap,hg,by rw[Í]⟩
    |arr n el xs=>obtain⟨hi,g,hg,hu⟩:=h0;refine⟨_,fin g _ f hu hf,⟨kB,rfl,λb' aW=>?_⟩,rfl⟩;rw[dO]at aW;cases aW;exact⟨hi,g,hg,by rw[Í]⟩
   .simp at h
  .simp at h
 |ip ls=>
  obtain⟨g,o,cs,hu,ha,hl⟩:=hx;simp only[rL]at h;split at h
  .rename_i f hf;simp at h;subst h;refine⟨_,fin g o f hu hf,⟨g,o+f.1,cs.drop f.1,rfl,ha.drop f.1,λj v hv=>?_⟩,rfl⟩;rw[Ò]at hv;have:=hl _ v hv;rwa[<-Í]at this
  .simp at h
 |_=>simp[rL]at h
theorem zW{i:Ä}{n:H}:inR i n=U↔0<=i/\i<n:=by simp[inR]
theorem L9{P:À}{T:H->F TyI}(hT:db P T){t:Å}{ti:TyI}(ht:T t=D ti){a':Ty}{k:Î}{i:Ä}{len cap g o:H}(bO:ti.ty=D (.list a'))(hi:0<=i/\i<len) :
  (Ð t (.slice (D ⟨g,o,B⟩) len cap) (.int k i)).run P w = .ok (.pointer (D ⟨g,o+i.toNat*a'.size,B⟩)) w:=by
 obtain⟨hd,_,te,cT,cU⟩:=pG hT ht bO;have hs:=od hT cT cU;simp only[Ð,asIntOf,Y,Á,O,run_underlying hd,Ó,if_pos hi,kA hT cT,hs,Ì]
theorem UI{P:À}{T:H->F TyI}(hT:db P T){t:Å}{ti:TyI}(ht:T t=D ti){n:H}{a':Ty}{k:Î}{i:Ä}{g o:H}(bO:ti.ty=D (.arr n a'))(hi:0<=i/\i<n) :
  (Ð t (.pointer (D ⟨g,o,B⟩)) (.int k i)).run P w = .ok (.pointer (D ⟨g,o+i.toNat*a'.size,B⟩)) w:=by
 obtain⟨hd,_,te,cT,cU⟩:=B5 hT ht bO;have hs:=od hT cT cU;simp only[Ð,asIntOf,Y,Á,O,run_underlying hd,Ñ,Ó,if_pos hi,kA hT cT,hs,Ì]
theorem Ma{t:F Ty}(h:qH t=U):∃a,t=D (.list a):=by
 unfold qH at h;split at h
 .exact⟨_,rfl⟩
 .simp at h
theorem ź{P:À}{E:Env}(hT:db P E.T)(hR:Rel N np S0 w0 refs σ a w S γ){rd:H->BS}(bj:RdOk σ rd){t:Å}{ti:TyI}(ht:E.T t=D ti)
  {x y l:Leaf}{u v:I}(h:u7 rd ti x y=D (U,l))(hx:bZ S w γ σ.bx x u)(hy:bZ S w γ σ.bx y v) :
  ∃z,(Ð t u v).run P w = .ok z w/\bZ S w γ σ.bx l z/\One z:=by
 unfold u7 at h;split at h
 .rename_i k kd i;have hv:v = .int kd i:=qK (S:=S) (w:=w) hy;subst hv;split at h
  .rename_i e el xs frz hk;split at h
   .rename_i bO;simp only[j5,j9]at h;obtain⟨hi,rfl⟩:=h;have bh:=zW.1 hi;have ct:=bj.nm hk;have hk:=bj.live hk;have hu:=hx.2.2 _ hk;obtain⟨css,bd,_⟩:=jZ ct (hR.box k _ hk);rcases bd.2 with⟨_,hz⟩|⟨g,cap,cur,hg,_,hh,_⟩
    .omega
    .rw[hu,hg];refine⟨_,L9 hT ht bO bh,⟨hx.1,rfl,λb hb=>?_⟩,rfl⟩;rw[hk]at hb;cases hb;exact⟨ct,omg_,g,cap,hg,smp_⟩
   .simp at h
  .simp at h
 .rename_i el xs kd i;have hv:v = .int kd i:=qK (S:=S) (w:=w) hy;subst hv;split at h
  .rename_i bO;simp only[j5,j9]at h;obtain⟨hi,rfl⟩:=h;have bh:=zW.1 hi;obtain⟨ad,cap,hu,hle,ml,hn,hb⟩:=hx;simp at hu;subst hu;cases ad with
   |none=>have:=hn rfl;omega
   |some b=>obtain⟨dz,css,ha,hl⟩:=hb b rfl;obtain⟨g,o,sp⟩:=b;have dz:=dz (λe=>by rw[e]at bh;simp at bh;omega);simp at dz;subst dz;refine⟨_,L9 hT ht bO bh,?_,rfl⟩;obtain⟨c,h1,h2,h3⟩:=zV (λx c hx=>Rep.length el x c hx) ha i.toNat el.dflt omg_;exact⟨g,_,c,rfl,rT el _ c h2,λj v hv=>by rw[Í];exact hl _ v (h3 j v hv)⟩
  .simp at h
 .rename_i k kd i;have hv:v = .int kd i:=qK (S:=S) (w:=w) hy;subst hv;split at h
  .rename_i n el xs hk;split at h
   .rename_i bO;simp only[j5,j9]at h;obtain⟨hi,rfl⟩:=h;have bh:=zW.1 hi;have hk:=bj.live hk;obtain⟨g,hg,hu⟩:=hx.2.2 _ hk;subst hu;refine⟨_,UI hT ht bO bh,⟨hx.1,rfl,λb hb=>?_⟩,rfl⟩;rw[hk]at hb;cases hb;exact⟨omg_,g,hg,smp_⟩
   .simp at h
  .rename_i ls frz hk;split at h
   .rename_i n el bO;split at h
    .rename_i kC;simp only[j5,j9]at h;obtain⟨hi,rfl⟩:=h;have bh:=zW.1 hi;have hk:=bj.live hk;obtain⟨g,hg,hu⟩:=hx.2.2 _ hk;subst hu;obtain⟨a',mm⟩:=Ma kC;cases mm;refine⟨_,UI hT ht bO bh,⟨hx.1,rfl,λb hb=>?_⟩,rfl⟩;exact⟨g,hg,by simp[Ty.size]⟩
    .simp at h
   .simp at h
  .simp at h
 .rename_i k j kd i;have hv:v = .int kd i:=qK (S:=S) (w:=w) hy;subst hv;split at h
  .rename_i e el xs frz hk;split at h
   .rename_i bO;simp only[j5,j9]at h;obtain⟨hi,rfl⟩:=h;have bh:=zW.1 hi;have ct:=bj.nm hk;have hk:=bj.live hk;obtain⟨_,hj,ad,hG,aL,hu⟩:=hx.2.2 _ hk;obtain⟨css,bd,_⟩:=jZ ct (hR.box k _ hk);rcases bd.2 with⟨_,hz⟩|⟨g,cap,cur,hg,_,hh,kD,_⟩
    .omega
    .rw[hg]at aL;simp only[Value.slice.injEq,qc]at aL;obtain⟨rfl,rfl⟩:=aL;rw[if_neg (show¬cap=j by omega)]at hu;simp only[qj,Ì,ki]at hu;subst hu;refine⟨_,L9 hT ht bO bh,⟨hx.1,rfl,λb hb=>?_⟩,rfl⟩;rw[hk]at hb;cases hb;refine⟨ct,omg_,g,cap,hg,?_⟩;simp[í]
   .simp at h
  .simp at h
 .simp at h
theorem Mb{P:À}{T:H->F TyI}(hT:db P T){n:H}{ti:TyI}(hn:T n=D ti)(ht:ti.ty=D .str):P.underlying n=D .string:=by
 obtain⟨i,d,hi,hd,hs,_,ha,_,h⟩:=oc hT hn;have:=(h _ ht).2.2;cases d<;>simp_all[mi,Ty.agg]
theorem Ż{P:À}{E:Env}(hT:db P E.T){t:H}{ti:TyI}(ht:E.T t=D ti)(bO:ti.ty=D .str)(s:È)(kd:Î)(j:Ä)(hj:inR j s.size=U) :
  (Þ t (.string s) (.int kd j)).run P w = .ok (.int .u8 (dr s j)) w:=by
 have hd:=Mb hT ht bO;have hi:=zW.1 hj;have aq:j.toNat<s.size:=omg_;have gJ:j.toNat<s.data.size:=aq;have hg:s[j.toNat]? = D s[j.toNat]:=by simp[aq]
 simp only[Þ,Y,asIntOf,Á,O,run_underlying hd];rw[if_pos hi.1,hg];simp only[Á];congr 2;unfold dr;have:s.data.getD j.toNat 0=s.data[j.toNat]:=by rw[zp,kb gJ];rfl
 rw[this];rfl
theorem ż{P:À}{E:Env}(hT:db P E.T){bx:H->BS}{t:Å}{ti:TyI}(ht:E.T t=D ti)
  {c c':Cel}{y:Leaf}{u v:I}(h:idxV ti c y=D (U,c'))(hc:cm S w γ bx c u)(hy:bZ S w γ bx y v) :
  ∃z,(Þ t u v).run P w = .ok z w/\cm S w γ bx c' z:=by
 unfold idxV at h;split at h
 .rename_i n el xs kd i;have hv:v = .int kd i:=qK (S:=S) (w:=w) hy;subst hv;split at h
  .rename_i bO;simp only[j5,j9]at h;obtain⟨hi,rfl⟩:=h;have bh:=zW.1 hi;obtain⟨cs,rfl,hn,css,ha,he⟩:=hc;obtain⟨hd,cq,te,cT,cU⟩:=B5 hT ht bO;have cp:=od hT cT cU;obtain⟨c,h1,h2,h3⟩:=zV (λx c hx=>Rep.length el x c hx) ha i.toNat el.dflt omg_;have ej:=Rep.length el _ c h2
   have hex:∀j,j<te.size->cs.toList[i.toNat*el.size+j]? = c[j]? := by
    intro j hj;rw[he];have:c[j]? = D c[j]:=jm omg_;rw[this];exact h3 j _ this
   obtain⟨ii,dd,hii,qL,_,_,oF,_,gU⟩:=oc hT cT
   have sK:∃z,(part ti.elem cs (i.toNat*te.size)).run P w = .ok z w/\cm S w γ bx (rK el (xs.getD i.toNat el.dflt)) z:=by
    have eF:=(gU _ cU).2.2;rw[<-cp];by_cases mn:te.agg=U
    .refine⟨.agg (cs.extract (i.toNat*el.size) (i.toNat*el.size+te.size)),?_,?_⟩
     .simp only[part,Y,B3 hT cT,mn,O,if_true,kA hT cT,Á]
     .have qM:(cs.extract (i.toNat*el.size) (i.toNat*el.size+te.size))=c.toArray:=by
       apply ze;simp only[Array.toList_extract,List.extract_eq_take_drop];apply ya;intro j;rw[zb];split
       .rename_i hj;rw[Ò];exact hex j omg_
       .rename_i hj;exact(zi omg_).symm
      rw[qM];refine L6 el _ c _ h2 (λ_=>rfl) (λhf Ž=>?_);exfalso;rw[mn]at oF;cases dd with
      |struct fs=>simp[mi]at eF;rw[eF]at hf;simp at hf
      |array m e=>cases el<;>simp[mi]at eF;exact Ž _ _ rfl
      |_=>simp[aggD]at oF
    .have hf:te.agg=false:=by simpa using mn
     have gV:el.agg=J/\∀n a,el ≠ .arr n a:=by
      rw[hf]at oF;cases dd with
      |struct fs=>simp[aggD]at oF
      |array m e=>simp[aggD]at oF
      |int k=>simp[mi]at eF;subst eF;exact⟨rfl,smp_⟩
      |bool=>simp[mi]at eF;subst eF;exact⟨rfl,smp_⟩
      |string=>simp[mi]at eF;subst eF;exact⟨rfl,smp_⟩
      |slice e=>cases el<;>simp[mi]at eF;exact⟨rfl,smp_⟩
      |_=>simp[mi]at eF
     have dm:∃z,c=[z]:=by
      have:el.size=1:=by cases el<;>first|rfl|(exfalso;simp[Ty.agg]at gV)
      rw[this]at ej;exact List.length_eq_one_iff.1 ej
     obtain⟨z,rfl⟩:=dm;have hz:cs[i.toNat*el.size]? = D z:=by have:=hex 0 omg_;simpa using this
     refine⟨z,?_,L6 el _ [z] z h2 (λho=>?_) (λ_ _=>rfl)⟩
     .simp only[part,Y,B3 hT cT,hf,O,kv,zu,hz,Á]
     .rcases ho with ho|⟨n,a,ho⟩
      .rw[gV.1]at ho;simp at ho
      .exact absurd ho (gV.2 _ _)
   obtain⟨z,hz,kN⟩:=sK;refine⟨z,?_,kN⟩;simp only[Þ,asIntOf,Y,Á,O,run_underlying hd,Ó,if_pos bh,kA hT cT,hz]
  .simp at h
 .rename_i s kd i;have hv:v = .int kd i:=qK (S:=S) (w:=w) hy;subst hv;split at h
  .rename_i bO;simp only[j5,j9]at h;obtain⟨hi,rfl⟩:=h;have hu:u = .string s:=Dy (S:=S) (w:=w) hc.1;subst hu;exact⟨_,Ż hT ht bO s kd i hi,rfl,λ_=>rfl⟩
  .simp at h
 .simp at h
theorem ž{P:À}{E:Env}(hT:db P E.T)(hR:Rel N np S0 w0 refs σ a w S γ){rd:H->BS}(bj:RdOk σ rd){t ty:Å}{ti:TyI}(ht:E.T t=D ti){x l:Leaf}{u:I}
  (h:lenC rd ti.ty x=D l)(hx:bZ S w γ σ.bx x u):∃z,(Û #[t] ty #[u]).run P w = .ok z w/\bZ S w γ σ.bx l z/\One z:=by
 have sl:∀(ad:F Addr)(n c:H),qH ti.ty=U->(Û #[t] ty #[.slice ad n c]).run P w = .ok (.int .i64 n) w:=by intro ad n c hl;obtain⟨a',bO⟩:=Ma hl;obtain⟨hd,_⟩:=pG hT ht bO;simp[Û,run_underlying hd,goInt]
 unfold lenC at h;split at h
 .split at h
  .rename_i hl;simp at h;subst h;have hu:u = .slice B 0 0:=hx;subst hu;exact⟨_,sl B 0 0 hl,rfl,rfl⟩
  .simp at h
 .rename_i k;split at h
  .rename_i e el xs frz hk;split at h
   .rename_i hl;simp at h;subst h;have ct:=bj.nm hk;have hk:=bj.live hk;have hu:=hx.2.2 _ hk;obtain⟨css,bd,_⟩:=jZ ct (hR.box k _ hk);rcases bd.2 with⟨hg,hz⟩|⟨g,cap,cur,hg,_⟩
    .rw[hu,hg,hz];exact⟨_,sl _ _ _ hl,rfl,rfl⟩
    .rw[hu,hg];exact⟨_,sl _ _ _ hl,rfl,rfl⟩
   .simp at h
  .simp at h
 .rename_i el xs;split at h
  .rename_i hl;simp at h;subst h;obtain⟨ad,cap,hu,_⟩:=hx;simp at hu;subst hu;exact⟨_,sl _ _ _ hl,rfl,rfl⟩
  .simp at h
 .rename_i s;split at h
  .rename_i bO;simp at h;subst h;have hu:u = .string s:=Dy (S:=S) (w:=w) hx;subst hu;have hd:=Mb hT ht bO;exact⟨_,by simp[Û,run_underlying hd,goInt],rfl,rfl⟩
  .simp at h
 .rename_i k j;split at h
  .rename_i e el xs frz hk;split at h
   .rename_i hl;simp at h;subst h;have hk:=bj.live hk;obtain⟨_,hj,ad,hG,aL,hu⟩:=hx.2.2 _ hk;rw[hu];refine⟨_,sl _ _ _ hl,?_,rfl⟩;show [Value.int .i64 _]=[Value.int .i64 _];congr 2
   .simp at h
  .simp at h
 .rename_i k j;split at h
  .rename_i e el xs frz hk;split at h
   .rename_i hl;simp at h;subst h;have hk:=bj.live hk;obtain⟨_,hj,ad,hG,aL,hu⟩:=hx.2.2 _ hk;rw[hu];exact⟨_,sl _ _ _ hl,rfl,rfl⟩
   .simp at h
  .simp at h
 .simp at h
end
section
variable{N:NT}{np:H}{S0:aY}{w0:Z}{refs:Refs}{σ:St}{a:Ù}{w:Z}{S:aY}{γ:H->I}
theorem Rel.step(hR:Rel N np S0 w0 refs σ a w S γ){bx':H->BS}{w':Z}{S':aY}{γ':H->I}(hk:dK S w S' w')(hb:BxLe γ σ.bx γ' bx')
   (box:∀k b,bx' k = .live b->fK S' w' γ' bx' k b)(own:∀k b g,bx' k = .live b->blk (γ' k)=D g->Own w0 refs g\/(g∈refs/\parK np k=U))
   (apart:∀k k' b b' g,k≠k'->bx' k = .live b->bx' k' = .live b'->blk (γ' k)=D g->blk (γ' k')≠D g)
   (new:∀g o,S' g o->S0 g o\/Own w0 refs g)(here:∀g o,S' g o->g<w'.heap.size)(below:∀g,g<w0.heap.size->g∉refs->w'.heap[g]? = w0.heap[g]?)
   (grow:w0.heap.size<=w'.heap.size)(os:w'.os=w0.os)(tape:w'.tape=w0.tape)(output:w'.output=w0.output)
   (kept:∀g,g<w.heap.size->refs.kw g≠B->(∀k b,σ.bx k = .live b->blk (γ k)≠D g)->w'.heap[g]? = w.heap[g]? /\ ∀k b,bx' k = .live b->blk (γ' k)≠D g) :
   Rel N np S0 w0 refs { σ with bx:=bx' } a w' S' γ':=
 ⟨hR.size,hR.defers,λi=>iZ.keep hk hb (hR.slot i),box,own,apart,λg o h=>(hk g o (hR.ext g o h)).1,new,here,below,grow,os,tape,output,λk v h=>⟨(hR.par k v h).1,(hb k (hR.par k v h).2.1).1,(hb k (hR.par k v h).2.1).2.1.trans (hR.par k v h).2.2⟩,
  λg o h=>by
   obtain⟨h1,h2⟩:=hR.kept g o h;obtain⟨h3,h4⟩:=kept g (jq.1 h1).1 (by rw[h];simp) h2;exact⟨h3.trans h1,h4⟩,hR.fix⟩
theorem fK.keep{S':aY}{w':Z}{γ':H->I}{bx bx':H->BS}(hk:dK S w S' w')(hb:BxLe γ bx γ' bx'){k:H}{b:Bx}(hg:γ' k=γ k)
  (hblk:∀g,blk (γ k)=D g->w'.heap[g]? = w.heap[g]? /\ ∀o,S' g o↔S g o)(h:fK S w γ bx k b):fK S' w' γ' bx' k b:=by
 cases b with
 |cell ls frz=>obtain⟨g,cur,e,h1,h2,h3,h4,h5,h6⟩:=h;obtain⟨e1,e2⟩:=hblk g (by rw[h1];rfl);exact⟨g,cur,e,hg.trans h1,e1.trans h2,h3.mono (λx u hx=>bZ.keep hk hb hx),h4,λhf o hs=>h5 hf o ((e2 o).1 hs),λhf o ho=>(e2 o).2 (h6 hf o ho)⟩
 |lst e t xs frz=>
  obtain⟨h1,h3⟩:=h;refine⟨?_,λg aL=>?_⟩
  .rw[hg];exact h1.keep hk λg aL=>(hblk g aL).1
  .rw[hg]at aL;obtain⟨e1,e2⟩:=hblk g aL;obtain⟨h4,h5⟩:=h3 g aL;exact⟨λhf o hs=>h4 hf o ((e2 o).1 hs),λhf o=>(e2 o).trans (h5 hf o)⟩
 |arr n t xs=>obtain⟨g,cur,e,h1,h2,h3,h4⟩:=h;obtain⟨e1,e2⟩:=hblk g (by rw[h1];rfl);exact⟨g,cur,e,hg.trans h1,e1.trans h2,Rep.keep hk _ _ _ h3,λo hs=>h4 o ((e2 o).1 hs)⟩
theorem hP(σ:St)(k:H)(b:BS):(σ.setB k b).bx k=b:=by simp[St.setB]
theorem dn(σ:St){k k':H}(b:BS)(h:k'≠k):(σ.setB k b).bx k'=σ.bx k':=by simp[St.setB,h]
theorem ſ(hR:Rel N np S0 w0 refs σ a w S γ){k e:H}{t:Ty}{xs:G t.den}{f:X}(hm:isM e=J)(hk:σ.bx k = .live (.lst e t xs f)){S':aY}{w':Z}(aQ:dK S w S' w')
  (hs:∀g o,blk (γ k)=D g->o<xs.length*t.size->S' g o/\w'.cell? ⟨g,o,B⟩=w.cell? ⟨g,o,B⟩):Rep S' w' (.list t) xs [γ k]:=by
 obtain⟨css,bd,ha,_⟩:=jZ hm (hR.box k _ hk);rcases bd.2 with⟨hg,hz⟩|⟨g,cap,cur,hg,_,hh,hle,ml,dy,eI⟩
 .refine⟨B,0,?_,?_,?_,λ_=>rfl,λb hb=>by simp at hb⟩
  .rw[hg];show [Value.slice B 0 0]=[Value.slice B (Ã xs) 0];rw[show Ã xs=0 from hz]
  .show Ã xs<=0;rw[show Ã xs=0 from hz];exact jn _
  .simp[maxLen]
 .refine⟨D ⟨g,0,B⟩,cap,by rw[hg],hle,ml,smp_,λb hb=>?_⟩;simp at hb;subst hb;refine⟨λ_=>rfl,css,ha.mono (λx c hx=>Rep.keep aQ _ _ _ hx),λj v hv=>?_⟩;have hlen:=All2.flatten_length (λx c hx=>Rep.length t x c hx) ha;have hj:j<xs.length*t.size:=by rw[<-hlen];exact(ka.1 hv).1
  obtain⟨h1,h2⟩:=hs g j (by rw[hg];rfl) hj;simp only[ki];refine⟨h1,h2.trans ?_⟩;have:=bd.cells (g:=g) (by rw[hg];rfl) j v hv;rwa[Ì,ki]at this
theorem Mc(hR:Rel N np S0 w0 refs σ a w S γ){k e:H}{t:Ty}{xs:G t.den}{f:X}(hm:isM e=J)(hk:σ.bx k = .live (.lst e t xs f))(hp:parK np k=J) :
  ∃S',Rel N np S0 w0 refs (σ.setB k (.live (.lst e t xs U))) a w S' γ/\dK S w S' w/\Rep S' w (.list t) xs [γ k]:=by
 let S':aY:=λg o=>S g o\/(blk (γ k)=D g/\o<xs.length*t.size)
 have aQ:dK S w S' w:=λg o h=>⟨.inl h,rfl⟩;have sL:Rep S' w (.list t) xs [γ k]:=ſ hR hm hk aQ (λg o hb ho=>⟨.inr ⟨hb,ho⟩,rfl⟩)
 have DB:BxLe γ σ.bx γ (σ.setB k (.live (.lst e t xs U))).bx:=by
  intro k' bH;by_cases cD:k'=k
  .subst cD;rw[hP];exact⟨smp_,rfl,λb hb=>by simp at hb;subst hb;exact⟨_,hk,rfl,rfl,λ_=>rfl⟩⟩
  .rw[dn σ _ cD];exact⟨bH,rfl,λb hb=>⟨b,hb,.refl b⟩⟩
 have bU:∀k' b,(σ.setB k (.live (.lst e t xs U))).bx k' = .live b->∃b',σ.bx k' = .live b':=by
  intro k' b hb;by_cases cD:k'=k
  .subst cD;exact⟨_,hk⟩
  .rw[dn σ _ cD]at hb;exact⟨b,hb⟩
 refine⟨S',?_,aQ,sL⟩
 have cL:∀k' b,(σ.setB k (.live (.lst e t xs U))).bx k' = .live b->fK S' w γ (σ.setB k (.live (.lst e t xs U))).bx k' b:=by
  intro k' b hb;by_cases cD:k'=k
  .subst cD;rw[hP]at hb;simp at hb;subst hb;obtain⟨css,bd,ha,hS⟩:=jZ hm (hR.box k' _ hk);refine Dv hm ⟨css,bd,ha.mono (λx c hx=>Rep.keep aQ _ _ _ hx),λg hg=>⟨smp_,λ_ o=>?_⟩⟩;obtain⟨h1,h2⟩:=hS g hg;constructor
   .intro hs;rcases hs with hs|hs
    .cases f with
     |false=>exact absurd hs (h1 rfl o)
     |true=>exact(h2 rfl o).1 hs
    .exact hs.2
   .exactλho=> .inr ⟨hg,ho⟩
  .rw[dn σ _ cD]at hb;refine fK.keep aQ DB rfl (λg hg=>⟨rfl,λo=>⟨λhs=>?_,.inl⟩⟩) (hR.box k' b hb);rcases hs with hs|hs
   .exact hs
   .exact absurd hs.1 (hR.apart k' k b _ g cD hb hk hg)
 refine Rel.step hR aQ DB cL ?_ ?_ ?_ ?_ hR.below hR.grow hR.os hR.tape hR.output (λg _ _ h=>⟨rfl,λk' b' aW=>by obtain⟨b2,fv⟩:=bU k' b' aW;exact h k' b2 fv⟩)
 .intro k' b g hb hg;obtain⟨b',aW⟩:=bU k' b hb;exact hR.own k' b' g aW hg
 .intro k1 k2 b1 b2 g bz h1 h2 hg;obtain⟨vF,nr⟩:=bU k1 b1 h1;obtain⟨vG,mo⟩:=bU k2 b2 h2;exact hR.apart k1 k2 vF vG g bz nr mo hg
 .intro g o hs;rcases hs with hs|hs
  .exact hR.new g o hs
  .rcases hR.own k _ g hk hs.1 with h|h
   .exact .inr h
   .rw[hp]at h;simp at h
 .intro g o hs;rcases hs with hs|hs
  .exact hR.here g o hs
  .obtain⟨css,bd,_⟩:=jZ hm (hR.box k _ hk);rcases bd.2 with⟨hn,_⟩|⟨g',cap,cur,hg,_,hh,_⟩
   .rw[hn]at hs;simp[blk]at hs
   .rw[hg]at hs;simp[blk]at hs;rw[<-hs.1];exact(jq.1 hh).1
def FrzL(np:H)(bx:H->BS)(u:Ups):Prop:=
 ∀x∈u,parK np x.1=J/\∃e t xs f,bx x.1 = .live (.lst e t xs f)/\x.2 = .live (.lst e t xs U)/\isM e=J
def Froz(bx:H->BS)(γ:H->I)(S:aY)(w:Z)(u:Ups):Prop:=
 ∀x∈u,∀e t xs f,bx x.1 = .live (.lst e t xs f)->Rep S w (.list t) xs [γ x.1]
theorem FrzL.app{bx:H->BS}{u v:Ups}:FrzL np bx (u++v)↔FrzL np bx u/\FrzL np bx v:=by
 simp only[FrzL,jj];exact⟨λh=>⟨λx hx=>h x (.inl hx),λx hx=>h x (.inr hx)⟩,λh x hx=>hx.elim (h.1 x) (h.2 x)⟩
theorem Froz.app{bx:H->BS}{u v:Ups}:Froz bx γ S w (u++v)↔Froz bx γ S w u/\Froz bx γ S w v:=by
 simp only[Froz,jj];exact⟨λh=>⟨λx hx=>h x (.inl hx),λx hx=>h x (.inr hx)⟩,λh x hx=>hx.elim (h.1 x) (h.2 x)⟩
theorem FrzL.nil{bx:H->BS}:FrzL np bx []:=λ_ h=>by simp at h
theorem Froz.nil{bx:H->BS}:Froz bx γ S w []:=λ_ h=>by simp at h
theorem Froz.keep{bx:H->BS}{u:Ups}{S':aY}{w':Z}(hk:dK S w S' w')(h:Froz bx γ S w u):Froz bx γ S' w' u:=
 λx hx e t xs f hb=>Rep.keep hk _ _ _ (h x hx e t xs f hb)
def mW(bx bx':H->BS):Prop:=
 ∀k,bx' k=bx k\/∃e t xs f f',bx k = .live (.lst e t xs f)/\bx' k = .live (.lst e t xs f')
theorem mW.refl(bx:H->BS):mW bx bx:=λ_=> .inl rfl
theorem mW.trans{b1 b2 b3:H->BS}(h:mW b1 b2)(h':mW b2 b3):mW b1 b3:=by
 intro k;rcases h k with e|⟨e,t,xs,f,f',h1,h2⟩
 .rcases h' k with e'|⟨e2,t,xs,f,f',h1,h2⟩
  .exact .inl (e'.trans e)
  .exact .inr ⟨e2,t,xs,f,f',e▸h1,h2⟩
 .rcases h' k with e'|⟨e2,t2,UJ,f2,f2',h3,h4⟩
  .exact .inr ⟨e,t,xs,f,f',h1,e'.trans h2⟩
  .rw[h2]at h3;cases h3;exact .inr ⟨e,t,xs,f,f2',h1,h4⟩
theorem mW.free{b1 b2:H->BS}(h:mW b1 b2){k:H}(hk:b1 k = .free):b2 k = .free:=by
 rcases h k with e|⟨e,t,xs,f,f',h1,h2⟩
 .rw[e,hk]
 .rw[h1]at hk;simp at hk
theorem mW.cell{b1 b2:H->BS}(h:mW b1 b2){k:H}{ls:G Leaf}{f:X}(hk:b1 k = .live (.cell ls f)):b2 k = .live (.cell ls f):=by
 rcases h k with e|⟨e,t,xs,f,f',h1,h2⟩
 .rw[e,hk]
 .rw[h1]at hk;simp at hk
theorem mW.arr{b1 b2:H->BS}(h:mW b1 b2){k n:H}{t:Ty}{xs:G t.den}(hk:b1 k = .live (.arr n t xs)):b2 k = .live (.arr n t xs):=by
 rcases h k with e|⟨e,t,xs,f,f',h1,h2⟩
 .rw[e,hk]
 .rw[h1]at hk;simp at hk
theorem mW.lst{b1 b2:H->BS}(h:mW b1 b2){k e:H}{t:Ty}{xs:G t.den}{f:X}(hk:b1 k = .live (.lst e t xs f)):∃f',b2 k = .live (.lst e t xs f'):=by
 rcases h k with e|⟨e,t,xs,f,f',h1,h2⟩
 .exact⟨f,by rw[e,hk]⟩
 .rw[h1]at hk;cases hk;exact⟨f',h2⟩
theorem mW.le{b1 b2:H->BS}(h:mW b1 b2):BxLe γ b1 γ b2:=by
 intro k hk;rcases h k with e|⟨e,t,xs,f,f',h1,h2⟩
 .rw[e];exact⟨hk,rfl,λb hb=>⟨b,hb,.refl b⟩⟩
 .rw[h2];exact⟨smp_,rfl,λb hb=>by simp at hb;subst hb;exact⟨_,h1,rfl,rfl,λ_=>rfl⟩⟩
theorem B6:∀(u:Ups)(σ:St),(σ.upd u).sl=σ.sl
 |[],_=>rfl
 |e::u,σ=>B6 u (σ.setB e.1 e.2)
theorem nt:∀(u v:Ups)(σ:St),σ.upd (u++v)=(σ.upd u).upd v
 |[],_,_=>rfl
 |e::u,v,σ=>nt u v (σ.setB e.1 e.2)
theorem qN:∀(u:Ups)(σ:St)(S:aY),Rel N np S0 w0 refs σ a w S γ->FrzL np σ.bx u->
  ∃S',Rel N np S0 w0 refs (σ.upd u) a w S' γ/\dK S w S' w/\Froz σ.bx γ S' w u/\mW σ.bx (σ.upd u).bx
 |[],σ,S,hR,_=>⟨S,hR,.refl S w,.nil,.refl _⟩
 |x::u,σ,S,hR,hf=>by
  obtain⟨hp,e,t,xs,f,hb,hx,hm⟩:=hf x smp_;obtain⟨S1,bV,dh,rU⟩:=Mc hR hm hb hp;rw[<-hx]at bV
  have nu:mW σ.bx (σ.setB x.1 x.2).bx:=by
   intro k;by_cases hk:k=x.1
   .subst hk;exact .inr ⟨e,t,xs,f,U,hb,by rw[hP,hx]⟩
   .exact .inl (dn σ _ hk)
  have vH:FrzL np (σ.setB x.1 x.2).bx u:=by intro y hy;obtain⟨qO,e',t',dj,f',aW,oe⟩:=hf y (by simp[hy]);obtain⟨f2,h2⟩:=nu.lst aW;exact⟨qO,e',t',dj,f2,h2,oe⟩
  obtain⟨S2,dA,dp,kE,og⟩:=qN u _ S1 bV vH;refine⟨S2,dA,dh.trans dp,λy hy e' t' dj f' aW=>?_,nu.trans og⟩;rcases je.1 hy with rfl|hy
  .rw[hb]at aW;cases aW;exact Rep.keep dp _ _ _ rU
  .obtain⟨f2,h2⟩:=nu.lst aW;exact kE y hy e' t' dj f2 h2
def RdF(np:H)(σ:St)(rd:H->BS):Prop:=(∀k,(rd k=σ.bx k/\parK np k=J)\/rd k = .gone)/\NoM rd
theorem RdF.ok{rd:H->BS}(h:RdF np σ rd):RdOk σ rd:=⟨λk=>(h.1 k).imp (·.1) id,h.2⟩
theorem RdF.par{rd:H->BS}(h:RdF np σ rd){k:H}{b:Bx}(hk:rd k = .live b):parK np k=false:=by
 rcases h.1 k with h|h
 .exact h.2
 .rw[h]at hk;simp at hk
def DC(S:aY)(w:Z)(γ:H->I)(bx:H->BS):Prop:=∀k b,bx k = .live b->fK S w γ bx k b
theorem xy{rd:H->BS}(bj:RdF np σ rd)(hB:DC S w γ σ.bx){t:Ty}{l:Leaf}{v:t.den}{u:Ups}{z:I}(h:kK rd t l=D (v,u))(hl:bZ S w γ σ.bx l z) :
  FrzL np σ.bx u/\∀S' w',dK S w S' w'->Froz σ.bx γ S' w' u->Rep S' w' t v [z]:=by
 unfold kK at h;split at h
 .split at h
  .rename_i t' v' v'' jI;simp only[j5,j9]at h;obtain⟨rfl,rfl⟩:=h;have:=oG jI;cases this;exact⟨.nil,λS' w' hk _=>Rep.keep hk _ _ _ hl⟩
  .simp at h
 .split at h
  .simp only[j5,j9]at h;obtain⟨rfl,rfl⟩:=h;have hz:z = .slice B 0 0:=hl;subst hz;exact⟨.nil,λS' w' _ _=>⟨B,0,rfl,jn _,by simp[maxLen],λ_=>rfl,λb hb=>by simp at hb⟩⟩
  .simp at h
 .rename_i k;split at h
  .rename_i e el xs f hk;split at h
   .rename_i v' jI;simp only[j5,j9]at h;obtain⟨rfl,rfl⟩:=h;have:=oG jI;cases this;have bH:=bj.ok.live hk;refine⟨λx hx=>?_,λS' w' _ hf=>?_⟩
    .have iD:=kr.1 hx;subst iD;exact⟨bj.par hk,e,el,xs,f,bH,rfl,bj.ok.nm hk⟩
    .have:=hf (k,_) (kr.2 rfl) e el xs f bH;rw[hl.2.2 _ bH];exact this
   .simp at h
  .simp at h
 .simp at h
theorem zX{rd:H->BS}(bj:RdF np σ rd)(hB:DC S w γ σ.bx):∀(t:Ty){ls r:G Leaf}{v:t.den}{u:Ups}{zs:G I},gath rd t ls=D (v,r,u)->All2 (bZ S w γ σ.bx) ls zs->
  FrzL np σ.bx u/\r=ls.drop t.size/\∀S' w',dK S w S' w'->Froz σ.bx γ S' w' u->Rep S' w' t v (zs.take t.size)
 |.unit,ls,r,v,u,zs,h,ha=>by
  simp only[gath,j5,j9]at h;obtain⟨_,rfl,rfl⟩:=h;exact⟨.nil,rfl,λS' w' _ _=>rfl⟩
 |.wrap b,ls,r,v,u,zs,h,ha=>by
  simp only[gath]at h;split at h
  .rename_i x r' u' hx;simp only[j5,j9]at h;obtain⟨rfl,rfl,rfl⟩:=h;exact zX bj hB b hx ha
  .simp at h
 |.pair b c,ls,r,v,u,zs,h,ha=>by
  simp only[gath]at h;split at h
  .rename_i x r1 u1 hx;split at h
   .rename_i y r2 u2 hy;simp only[j5,j9]at h;obtain⟨rfl,rfl,rfl⟩:=h;obtain⟨f1,e1,p1⟩:=zX bj hB b hx ha;have B7:All2 (bZ S w γ σ.bx) r1 (zs.drop b.size):=by rw[e1];exact ha.drop _
    obtain⟨f2,e2,p2⟩:=zX bj hB c hy B7;refine⟨FrzL.app.2 ⟨f1,f2⟩,?_,λS' w' hk hf=>?_⟩
    .rw[e2,e1,ß];rfl
    .obtain⟨vH,zY⟩:=Froz.app.1 hf;refine⟨zs.take b.size,(zs.drop b.size).take c.size,?_,p1 S' w' hk vH,p2 S' w' hk zY⟩;show zs.take (b.size+c.size)=_;rw[List.take_add]
   .simp at h
  .simp at h
 |.arr _ _,_,_,_,_,_,h,_=>by simp[gath]at h
 |.int k,l::ls,r,v,u,z::zs,h,ha=>by
  simp only[gath]at h;split at h
  .rename_i v' u' hv;simp only[j5,j9]at h;obtain⟨rfl,rfl,rfl⟩:=h;obtain⟨f,p⟩:=xy bj hB hv ha.1;exact⟨f,rfl,p⟩
  .simp at h
 |.bool,l::ls,r,v,u,z::zs,h,ha=>by
  simp only[gath]at h;split at h
  .rename_i v' u' hv;simp only[j5,j9]at h;obtain⟨rfl,rfl,rfl⟩:=h;obtain⟨f,p⟩:=xy bj hB hv ha.1;exact⟨f,rfl,p⟩
  .simp at h
 |.str,l::ls,r,v,u,z::zs,h,ha=>by
  simp only[gath]at h;split at h
  .rename_i v' u' hv;simp only[j5,j9]at h;obtain⟨rfl,rfl,rfl⟩:=h;obtain⟨f,p⟩:=xy bj hB hv ha.1;exact⟨f,rfl,p⟩
  .simp at h
 |.list b,l::ls,r,v,u,z::zs,h,ha=>by
  simp only[gath]at h;split at h
  .rename_i v' u' hv;simp only[j5,j9]at h;obtain⟨rfl,rfl,rfl⟩:=h;obtain⟨f,p⟩:=xy bj hB hv ha.1;exact⟨f,rfl,p⟩
  .simp at h
 |.int _,[],_,_,_,_,h,_=>by simp[gath]at h
 |.bool,[],_,_,_,_,h,_=>by simp[gath]at h
 |.str,[],_,_,_,_,h,_=>by simp[gath]at h
 |.list _,[],_,_,_,_,h,_=>by simp[gath]at h
 |.int _,_::_,_,_,_,[],_,ha=>ha.elim
 |.bool,_::_,_,_,_,[],_,ha=>ha.elim
 |.str,_::_,_,_,_,[],_,ha=>ha.elim
 |.list _,_::_,_,_,_,[],_,ha=>ha.elim
def cellsOf(u:I):G Value:=u.cells.toList
theorem B8{u:I}(h:One u):u.cells.toList=[u]:=by
 cases u<;>first|rfl|simp[One,Value.oneCell']at h
theorem UK(rd:H->BS):∀(t:Ty){ls r:G Leaf}{v:t.den}{u:Ups},gath rd t ls=D (v,r,u)->r.length+t.size=ls.length:=by
 intro t;induction t with
 |unit=>intro ls r v u h;simp only[gath,j5,j9]at h;rw[<-h.2.1];rfl
 |wrap a ih=>
  intro ls r v u h;simp only[gath]at h;split at h
  .rename_i x r' u' hx;simp only[j5,j9]at h;rw[<-h.2.1];exact ih hx
  .simp at h
 |pair a b qP oH=>
  intro ls r v u h;simp only[gath]at h;split at h
  .rename_i x r1 u1 hx;split at h
   .rename_i y r2 u2 hy;simp only[j5,j9]at h;rw[<-h.2.1];have e1:=qP hx;have e2:=oH hy;simp only[Ty.size];omega
   .simp at h
  .simp at h
 |arr n a _=>intro ls r v u h;simp[gath]at h
 |int k=>
  intro ls r v u h;cases ls<;>simp only[gath]at h
  .simp at h
  .split at h
   .simp only[j5,j9]at h;rw[<-h.2.1];simp[Ty.size]
   .simp at h
 |bool=>
  intro ls r v u h;cases ls<;>simp only[gath]at h
  .simp at h
  .split at h
   .simp only[j5,j9]at h;rw[<-h.2.1];simp[Ty.size]
   .simp at h
 |str=>
  intro ls r v u h;cases ls<;>simp only[gath]at h
  .simp at h
  .split at h
   .simp only[j5,j9]at h;rw[<-h.2.1];simp[Ty.size]
   .simp at h
 |list a _=>
  intro ls r v u h;cases ls<;>simp only[gath]at h
  .simp at h
  .split at h
   .simp only[j5,j9]at h;rw[<-h.2.1];simp[Ty.size]
   .simp at h
theorem jyK(rd:H->BS):∀(t:Ty){ls r:G Leaf}{v:t.den}{u:Ups},gath rd t (.dead::ls)=D (v,r,u)->r = .dead::ls:=by
 intro t;induction t with
 |unit=>intro ls r v u h;simp only[gath,j5,j9]at h;exact h.2.1.symm
 |wrap a ih=>
  intro ls r v u h;simp only[gath]at h;split at h
  .rename_i x r' u' hx;simp only[j5,j9]at h;rw[<-h.2.1];exact ih hx
  .simp at h
 |pair a b qP oH=>
  intro ls r v u h;simp only[gath]at h;split at h
  .rename_i x r1 u1 hx;have h1:=qP hx;subst h1;split at h
   .rename_i y r2 u2 hy;simp only[j5,j9]at h;rw[<-h.2.1];exact oH hy
   .simp at h
  .simp at h
 |arr n a _=>intro ls r v u h;simp[gath]at h
 |int k=>intro ls r v u h;simp[gath,kK]at h
 |bool=>intro ls r v u h;simp[gath,kK]at h
 |str=>intro ls r v u h;simp[gath,kK]at h
 |list a _=>intro ls r v u h;simp[gath,kK]at h
theorem jsw{t:Ty}(h:t.agg=U):kM t=true:=by
 revert h;cases t<;>simp[kM,Ty.agg]
theorem DD{rd:H->BS}(bj:RdF np σ rd)(hB:DC S w γ σ.bx){t:Ty}{c:Cel}{v:t.den}{u:Ups}{z:I}(h:rJ rd t c=D (v,u))(hc:cm S w γ σ.bx c z) :
  FrzL np σ.bx u/\(∀S' w',dK S w S' w'->Froz σ.bx γ S' w' u->VRep S' w' ⟨t,v⟩ z)/\z.cells.toList.length=t.size:=by
 unfold rJ at h;split at h
 .rename_i l;split at h
  .simp at h
  rename_i oF;split at h
  .rename_i v' u' hv;simp only[j5,j9]at h;obtain⟨rfl,rfl⟩:=h;obtain⟨f,e,p⟩:=zX bj hB t hv (zs:=[z]) ⟨hc.1,trivial⟩;have hlen:=UK rd t hv;simp at hlen;have hd:l ≠ .dead:=by intro hl;subst hl;have:=jyK rd t hv;simp at this
   have h1:=B8 (hc.2 hd);refine⟨f,λS' w' hk hf=>⟨?_,λhm=>?_,λ_=>hc.2 hd⟩,by simp[h1,hlen]⟩
   .have:=p S' w' hk hf;rw[hlen]at this;rw[h1];exact this
   .exfalso;cases t<;>simp[kM,Ty.agg]at hm oF;simp[gath]at hv
  .simp at h
 .rename_i ls;split at h
  .rename_i oF;split at h
   .rename_i v' u' hv;simp only[j5,j9]at h;obtain⟨rfl,rfl⟩:=h;obtain⟨cs,rfl,ha,h1⟩:=hc;obtain⟨f,e,p⟩:=zX bj hB t hv ha;have hlen:=UK rd t hv;have hl:=ha.length;simp at hlen;have dy:cs.toList.length=t.size:=omg_;refine⟨f,λS' w' hk hf=>⟨?_,λ_=>⟨cs,rfl⟩,λhm=>?_⟩,dy⟩
    .have:=p S' w' hk hf;rwa[List.take_of_length_le omg_]at this
    .rw[jsw oF]at hm;simp at hm
   .simp at h
  .simp at h
 .split at h
  .rename_i v' jI;simp only[j5,j9]at h;obtain⟨rfl,rfl⟩:=h;have:=oG jI;cases this;obtain⟨cs,rfl,hr⟩:=hc;exact⟨.nil,λS' w' hk _=>⟨Rep.keep hk _ _ _ hr,λ_=>⟨cs,rfl⟩,by simp[kM]⟩,Rep.length _ _ _ hr⟩
  .simp at h
end
end Go.Lft
