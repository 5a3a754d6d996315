/- A typed p7 of the HH code, on plain data: xa. -/
import Derived.WalkKit
import Derived.Orders
import Derived.MapKept
open Option renaming none->B,some->D
open _root_ renaming Option->F,Nat->H,List->I,Bool->X,Int->Ä,Array->È,ByteArray->Ë,False->Ù,DecidableEq->æ
open Bool renaming false->J,true->U
open Go renaming Value->O,World->À,Program->Á,Oper->Å,TypeId->Ç,Operand->Ì,IntKind->Î,Code->Ó,TypeDesc->Ö,Act->Û,BinOp->ä,ResultVar->å,TypeInfo->ì
open Go.Result renaming andThen_ok->W
open Decidable renaming decide->Y
open Go.Sem renaming run_bind->Z,run_pure->Ã,run_ite->ß
open Int renaming toNat->Â,ofNat->Ï,fdiv->ë
open List renaming replicate->Æ,length->É,getD->Ê,take->Ð,range->Ñ,length_append->Õ,drop->Ø,drop_drop->á,set->ú
open Go.Addr renaming add_lit->Í
open Go.Instr renaming indexAt->Ò,sureAddr->Ô,loadAt->Ü,index->à,fieldAt->ã
open Go.Op renaming intCmp->Ú,intArith->Þ,unary->í,eqFields->î,maxDepth->ï,stringOp->ð,equalIn->ò,intDiv->ô,equal->ü
open Go.Builtin renaming len_->Ý,min_->é,max_->ê
open Nat renaming beq->â,ble->ÿ
noncomputable section
theorem j4{α β:Type _}(a:α)(f:α->F β):(D a).bind f=f a:=rfl
theorem j5{α:Type _}(a b:α):(D a=D b)=(a=b):=Option.some.injEq a b
theorem j6{α:Sort _}{a b:α}:cond U a b=a:=rfl
theorem j7{α:Sort _}{a b:α}:cond J a b=b:=rfl
theorem j8(n:H):Â (n:Ä)=n:=rfl
theorem j9{α β:Type _}(a:α)(b:β)(c:α)(d:β):((a,b)=(c,d))=(a=c/\b=d):=Prod.mk.injEq a b c d
theorem ja{a b:Prop}(h:a)(g:b):a/\b:=And.intro h g
abbrev jb:=@List.mem_cons
abbrev jc:=@Bool.and_eq_true
abbrev jd:=@List.getElem_mem
abbrev je:=@bne_self_eq_false
abbrev jf:=@List.length_cons
abbrev jg:=@Bool.not_true
abbrev jh:=@Nat.le_refl
abbrev ji:=@List.mem_append
abbrev jj:=@List.drop_zero
abbrev jk:=@List.append_assoc
abbrev jl:=@decide_eq_true_eq
abbrev jm:=@List.mem_append_right
abbrev jn:=@List.getElem?_eq_getElem
abbrev jo:=@List.mem_append_left
abbrev jp:=@congrArg
abbrev jq:=@Array.getElem?_eq_some_iff
abbrev jr:=@List.nil_append
abbrev js:=@List.length_nil
abbrev jt:=@Classical.byContradiction
abbrev ju:=@Array.getElem?_eq_getElem
abbrev jv:=@Bool.not_false
abbrev jw:=@List.all_eq_true
abbrev jx:=@Int.le_refl
abbrev jy:=@Nat.zero_le
abbrev jz:=@List.mem_of_getElem?
abbrev k5:=@Nat.mul_le_mul_right
abbrev k6:=@List.take_append_drop
abbrev k7:=@List.mem_map
abbrev k8:=@List.eq_nil_of_length_eq_zero
abbrev k9:=@List.mem_singleton
abbrev ka:=@decide_eq_false_iff_not
abbrev kb:=@Option.map_some
abbrev kc:=@true_and
abbrev ke:=@beq_self_eq_true
abbrev kf:=@Nat.le_trans
abbrev kg:=@List.length_pos_iff
abbrev ki:=@List.length_map
abbrev kj:=@List.getElem?_append_right
abbrev kn:=@List.length_singleton
abbrev ko:=@List.getElem?_append_left
abbrev kp:=@Option.getD_some
abbrev kq:=@List.flatten_cons
abbrev kr:=@Bool.false_eq_true
abbrev ku:=@Nat.zero_add
abbrev kv:=@of_decide_eq_true
abbrev kx:=@List.take_add_one
abbrev ky:=@List.pairwise_iff_getElem
abbrev kz:=@List.mem_flatMap
abbrev q7:=@Array.getElem?_toList
abbrev q8:=@List.getElem?_map
abbrev q9:=@Bool.not_eq_true'
abbrev qa:=@Bool.eq_false_iff
abbrev qb:=@List.pairwise_singleton
abbrev qc:=@List.map_cons
abbrev qd:=@Nat.lt_of_lt_of_le
abbrev qe:=@Bool.or_eq_true
abbrev qf:=@Option.isSome_none
abbrev qg:=@Option.isSome_some
abbrev qh:=@Array.length_toList
abbrev qi:=@Nat.mul_le_mul
abbrev qj:=@List.getElem?_eq_none
abbrev qk:=@List.nodup_cons
abbrev ql:=@List.mem_of_mem_take
abbrev qm:=@List.mem_cons_of_mem
abbrev qn:=@List.contains_eq_mem
abbrev qo:=@List.cons_append
abbrev qp:=@Int.ofNat_eq_natCast
abbrev qq:=@Int.le_trans
abbrev qr:=@Nat.lt_or_ge
abbrev qs:=@Int.tdiv_eq_ediv_of_nonneg
abbrev qt:=@List.getElem_of_mem
abbrev qu:=@List.append_nil
abbrev qv:=@List.take_append_of_le_length
abbrev qw:=@List.length_drop
abbrev qx:=@Bool.true_and
abbrev qy:=@List.pairwise_append
abbrev qz:=@List.flatMap_cons
abbrev z6:=@List.nodup_append
abbrev z7:=@List.all_cons
abbrev z8:=@Bool.and_self
abbrev za:=@List.length_replicate
abbrev zb:=@List.mem_cons_self
abbrev zd:=@List.mem_iff_getElem?
abbrev ze:=@List.eq_nil_or_concat
abbrev zf:=@List.concat_eq_append
abbrev zg:=@List.mem_of_mem_drop
abbrev zh:=@List.length_set
abbrev zi:=@Array.toList_eq_nil_iff
abbrev zj:=@Bool.cond_true_left
abbrev zk:=@List.drop_left
abbrev zm:=@Int.tmod_lt_of_pos
abbrev zo:=@Bool.true_or
abbrev zp:=@List.filter_append
abbrev zq:=@List.set_append_right
abbrev zr:=@List.foldl_cons
abbrev zt:=@Nat.le_of_ble_eq_true
abbrev zu:=@List.length_filter_le
abbrev zv:=@if_false
abbrev zw:=@List.ext_getElem?
abbrev v6:=@List.any_eq_false
abbrev v7:=@Nat.lt_trichotomy
abbrev v8:=@Bool.or_eq_false_iff
abbrev va:=@List.mem_or_eq_of_mem_set
abbrev vb:=@List.take_take
abbrev vc:=@List.nodup_nil
abbrev vd:=@Nat.succ_mul
abbrev ve:=@List.range'_succ
abbrev vf:=@List.not_mem_nil
abbrev vg:=@Int.ediv_le_self
abbrev vi:=@Option.getD_none
abbrev vj:=@Nat.mul_le_mul_left
abbrev vk:=@List.filterMap_cons
abbrev vp:=@List.getLast?_singleton
abbrev vq:=@List.filter_cons_of_pos
abbrev vr:=@List.cons.injEq
abbrev vu:=@beq_iff_eq
abbrev vv:=@Nat.eq_zero_or_pos
abbrev vw:=@Int.tmod_nonneg
abbrev vz:=@Bool.eq_iff_iff
abbrev y8:=@Int.ediv_nonneg
abbrev y9:=@and_true
abbrev ya:=@decide_eq_true
set_option linter.unusedVariables false
namespace Go.Lft
theorem aa{p:Prop}(h:p:=by omega):p:=h
theorem ae{p:Prop}(h:p:=by simp):p:=h
theorem aj{p:Prop}(h:p:=by (simp;omega)):p:=h
theorem sx{α:Type}(l:I α):Ï l.length=(l.length:Ä):=rfl
inductive Ty where
 |int (k:Î)
 |bool
 |str
 |unit
 |wrap (a:Ty)
 |pair (a b:Ty)
 |list (a:Ty)
 |arr (n:H) (a:Ty)
 deriving æ
@[reducible] def Ty.den:Ty->Type
 |.int _=>Ä
 |.bool=>X
 |.str=>Ë
 |.unit=>Unit
 |.wrap a=>a.den
 |.pair a b=>a.den×b.den
 |.list a=>I a.den
 |.arr _ a=>I a.den
def Ty.dflt:(t:Ty)->t.den
 |.int _=>(0:Ä)
 |.bool=>J
 |.str=>ByteArray.empty
 |.unit=>()
 |.wrap a=>a.dflt
 |.pair a b=>(a.dflt,b.dflt)
 |.list _=>[]
 |.arr n a=>Æ n a.dflt
def Ty.size:Ty->H
 |.int _|.bool|.str|.list _=>1
 |.unit=>0
 |.wrap a=>a.size
 |.pair a b=>a.size+b.size
 |.arr n a=>n*a.size
def Ty.flat:Ty->X
 |.int _|.bool|.str|.unit=>U
 |.wrap a=>a.flat
 |.pair a b=>a.flat&&b.flat
 |.list _=>J
 |.arr _ a=>a.flat
def Ty.leafy:Ty->X
 |.int _|.bool|.str|.list _=>U
 |_=>J
structure TV where
 t:Ty
 v:t.den
def TV.to(t:Ty)(x:TV):F t.den:=if h:x.t=t then D (h▸x.v) else B
inductive Cap where
 |v (x:TV)
 |p (ls:I TV)
inductive Leaf where
 |dead
 |nil
 |d (t:Ty) (v:t.den)
 |ol (k:H)
 |bp (k:H) (c:H)
 |ep (k:H) (i:H) (c:H)
 |tl (k:H) (i:H)
 |hd (k:H) (i:H)
 |ip (ls:I TV)
 |clo (f:H) (caps:I Cap)
 |clr (f:H) (ks:I H)
inductive Cel where
 |one (x:Leaf)
 |st (ls:I Leaf)
 |av (n:H) (a:Ty) (xs:I a.den)
inductive Slot where
 |one (c:Cel)
 |tup (l:I Cel)
 |cnd (s:H) (want:X) (c:Cel)
 |und
def mZ{α β:Type}[BEq α](xs:I (α×β))(k:α):Bool:=xs.any λx=>k==x.1
def iQ{α β:Type}[BEq α](d:β):I (α×β)->α->β
 |[],_=>d
 |x::r,k=>cond (k==x.1) x.2 (iQ d r k)
def kV{α β:Type}[BEq α]:I (α×β)->α->β->I (α×β)
 |[],k,v=>[(k,v)]
 |x::r,k,v=>cond (k==x.1) ((k,v)::r) (x::kV r k v)
@[reducible] def Ty.keq:(t:Ty)->BEq t.den
 |.int _=>⟨λ(a b:Ä)=>a==b⟩
 |.str=>⟨λ(a b:Ë)=>a==b⟩
 |_=>⟨λ_ _=>J⟩
def Ty.isKey:Ty->X
 |.int _|.str=>U
 |_=>J
def eJ(s:Ë)(i:Ä):Int:=(s.data.getD i.toNat 0).toNat
def isM(e:H):Bool:=ÿ 4294967296 e
inductive Bx where
 |cell (ls:I Leaf) (frz:X)
 |lst (e:H) (a:Ty) (xs:I a.den) (frz:X)
 |arr (n:H) (a:Ty) (xs:I a.den)
 |row (e:H) (a:Ty) (n:H) (ls:I Leaf)
inductive BS where
 |free|gone|live (b:Bx)
def mskM(rd:H->BS)(k:H):BS:=match rd k with
 |.live (.lst e a xs f)=>if isM e then .gone else .live (.lst e a xs f)
 |b=>b
structure St where
 sl:H->Slot
 bx:H->BS
def St.setS(σ:St)(i:H)(s:Slot):St:={ σ with sl:=λj=>if j=i then s else σ.sl j }
def St.setB(σ:St)(k:H)(b:BS):St:={ σ with bx:=λj=>if j=k then b else σ.bx j }
inductive Item where
 |s (c:Cel)
 |b (x:BS)
abbrev Snap:=I Item
inductive Arg where
 |v (x:TV)
 |ref (ls:I TV)
 |rl (e:H) (x:TV)
 |ip (ls:I TV)
 |clo (f:H) (caps:I Cap)
 |mv (e:H) (x:TV)
inductive RL where
 |d (x:TV)
 |own (e:H) (x:TV)
inductive SoK where
 |d (t:Ty)
 |own (e:H) (a:Ty)
inductive RV where
 |v (x:TV)
 |own (e:H) (x:TV)
 |box (ls:I TV)
 |hd (n:H)
 |vn (x:TV) (ns:I H)
 |clo (f:H) (caps:I Cap)
 |so (ls:I RL)
 |raw (ns:I H) (s:Snap)
inductive Out where
 |ref (ls:I TV)
 |rl (x:TV)
structure Ret where
 vals:I RV
 outs:I Out
inductive Ex where
 |normal|exit (id:H)|ret
 deriving æ
inductive Loc where
 |slot (i:H)
 |cell (k c:H)
 deriving æ
structure p8 where
 name:H
 e:H
 a:Ty
 locs:I Loc
 frz:X
structure Keep where
 slots:I H
 boxes:I H
 lists:I p8
 datas:I (Loc×Ty):=[]
structure TyI where
 size:H
 agg:X
 ty:F Ty
 flds:I (H×H)
 elem:H
 cmp:I Ty:=[]
 mp:F (H×H):=B
def parK(np k:H):Bool:=Y (k%64=0)&&Y (k/64<np)
structure NT where
 n:H
 pin:H->X
instance(n:H):OfNat NT n:=⟨⟨n,λ_=>J⟩⟩
def NT.ok(N:NT)(d:H):Prop:=d<N.n/\N.pin d=J
inductive Gh where
 |ex (k c n m:H)
 |rl (k:H)
 |se (k:H)
 |da (l:I (Loc×Ty))
structure Env where
 N:NT
 np:H
 T:H->F TyI
 C:H->I Arg->(R:Type)->(Ret->F R)->F R
 modes:H->I X
 L:H->Snap->(R:Type)->(Ex->Snap->F R)->F R
 keep:H->Keep
 keepX:H->Ex->Keep
 ro:I X
 dw:H->I (I H):=λ_=>[]
 nz:Bool:=J
 hd:Bool:=J
 ns:I Nat:=[]
 bw:H->F (X×Ty):=λ_=>B
 so:I SoK:=[]
 cr:I Nat:=[]
 un:H->Nat:=λ_=>0
 pre:H->I Gh:=λ_=>[]
 rw:Bool:=J
 rn:I Nat:=[]
 b1:I Nat:=[]
 ks:H->Bool:=λ_=>J
 mvf:H->Bool:=λ_=>J
 mr:H->F (H×H):=λ_=>B
 M:H->Snap->(R:Type)->(Snap->F R)->F R:=λ_ _ _ _=>B
 pa:H->F (H×Ty):=λ_=>B
 sc:Bool:=J
 off:Nat:=0
def Env.offR(E:Env)(r:H):Env:={ E with off:=E.off+16*r }
def Env.off0(E:Env):Env:={ E with off:=0 }
def insI(x:Ä):I Ä->I Ä
 |[]=>[x]
 |y::ys=>cond (Y (x<=y)) (x::y::ys) (y::insI x ys)
def sy:I Ä->I Ä
 |[]=>[]
 |x::xs=>insI x (sy xs)
def VW{β:Type}(xs:I (Ä×β)):Bool:=ÿ xs.length 1000000&&xs.all λx=>Y (-9223372036854775808<=x.1)&&Y (x.1<=9223372036854775807)
def u4{β:Type}(xs:I (Ä×β)):I Int:=sy (xs.map λx=>x.1)
def VX:(a:Ty)->I a.den->F (X×I Ä)
 |.pair (.int .i64) _,xs=>D (VW xs,u4 xs)
 |_,_=>B
def LL:O->Leaf
 |.int k n=> .d (.int k) n
 |.bool b=> .d .bool b
 |.string s=> .d .str s
 |.slice B 0 0=> .nil
 |_=> .dead
def St.ev(σ:St):Ì->Slot
 |.tmp t=>σ.sl t
 |.const v=> .one (.one (LL v))
 |.func f=> .one (.one (.clo f []))
 |.global _=> .one (.one .dead)
def p9(ops:È Å)(o:Å):F (H×X):=
 match o.guard with
 |none=>B
 |some (j,w)=>match ops[j]? with
  |some oj=>match oj.dst with
   |some s=>D (s,w)
   |none=>B
  |none=>B
def St.chain(σ:St):H->H×X->I (H×X)
 |0,g=>[g]
 |n+1,g=>match σ.sl g.1 with
  |.cnd s w _=>g::σ.chain n (s,w)
  |_=>[g]
def Slot.cel(act:I (H×X)):Slot->Cel
 |.one c=>c
 |.tup _=> .one .dead
 |.und=> .one .dead
 |.cnd s w c=>if act.contains (s,w) then c else .one .dead
abbrev Ups:=I (H×BS)
def scat:(t:Ty)->t.den->I TV
 |.unit,_=>[]
 |.wrap a,v=>scat a v
 |.pair a b,v=>scat a v.1++scat b v.2
 |.arr n a,v=>(Ñ n).flatMap λi=>scat a (Ê v i a.dflt)
 |t,v=>[⟨t,v⟩]
def TV.leaf(x:TV):Leaf:= .d x.t x.v
def pI:Ty->I Leaf
 |.unit=>[]
 |.wrap a=>pI a
 |.pair a b=>pI a++pI b
 |.arr n a=>(Ñ n).flatMap λ_=>pI a
 |.list _=>[.nil]
 |t=>[.d t t.dflt]
def hdr:(t:Ty)->H->F t.den
 |.list .unit,n=>D (Æ n ())
 |_,_=>B
def lenL(rd:H->BS):Leaf->F H
 |.d (.list .unit) _=>B
 |.d (.list _) xs=>D (É xs)
 |.ol k=>match rd k with
  |.live (.lst _ _ xs _)=>D xs.length
  |.live (.row _ _ n _)=>D n
  |_=>B
 |_=>B
def pJ(rd:H->BS)(t:Ty)(l:Leaf):F t.den:=match lenL rd l with
 |some n=>hdr t n
 |none=>B
def lV(rd:H->BS)(t:Ty):Leaf->F (t.den×Ups)
 |.d t' v=>match (TV.mk t' v).to t with
  |some v'=>D (v',[])
  |none=>B
 |.nil=>match t with
  |.list _=>D ([],[])
  |_=>B
 |.ol k=>match rd k with
  |.live (.lst e a xs _)=>match (TV.mk (.list a) xs).to t with
   |some v'=>D (v',[(k,.live (.lst e a xs U))])
   |none=>B
  |_=>B
 |_=>B
def kW(rd:H->BS)(t:Ty)(l:Leaf):F (t.den×Ups):=match pJ rd t l with
 |some v=>D (v,[])
 |none=>lV rd t l
def gath(rd:H->BS):(t:Ty)->I Leaf->F (t.den×I Leaf×Ups)
 |.unit,ls=>D ((),ls,[])
 |.wrap a,ls=>match gath rd a ls with
  |some (x,r,u)=>D (x,r,u)
  |none=>B
 |.pair a b,ls=>match gath rd a ls with
  |some (x,r,u)=>match gath rd b r with
   |some (y,r',u')=>D ((x,y),r',u++u')
   |none=>B
  |none=>B
 |.arr _ _,_=>B
 |t,l::ls=>match kW rd t l with
  |some (v,u)=>D (v,ls,u)
  |none=>B
 |_,[]=>B
def Ty.agg:Ty->X
 |.unit|.wrap _|.pair _ _=>U
 |_=>J
def rG(rd:H->BS)(t:Ty):Cel->F (t.den×Ups)
 |.one l=>if t.agg then B else match gath rd t [l]with
  |some (v,[],u)=>D (v,u)
  |_=>B
 |.st ls=>if t.agg then match gath rd t ls with
  |some (v,[],u)=>D (v,u)
  |_=>B
  else B
 |.av n a xs=>match (TV.mk (.arr n a) xs).to t with
  |some v=>D (v,[])
  |none=>B
def qA:(t:Ty)->t.den->Cel
 |.arr n a,v=> .av n a v
 |t,v=>if t.agg then .st ((scat t v).map TV.leaf) else .one (.d t v)
def Cel.leaves:Cel->F (I Leaf)
 |.one .dead=>B
 |.one l=>D [l]
 |.st ls=>D ls
 |.av n (.list b) ys=>D ((Ñ n).map λi=> .d (.list b) (Ê ys i []))
 |.av _ _ _=>B
def cmpI(op:ä)(x y:Ä):F Bool:=
 match op with
 |.eql=>D (x==y)
 |.neq=>D (x != y)
 |.lss=>D (Y (x<y))
 |.leq=>D (Y (x<=y))
 |.gtr=>D (Y (x>y))
 |.geq=>D (Y (x>=y))
 |_=>B
def eqT:TV->TV->F X
 |⟨.int k,x⟩,⟨.int k',y⟩=>if k=k' then D ((show Ä from x)==(show Ä from y)) else B
 |⟨.bool,x⟩,⟨.bool,y⟩=>D ((show X from x)==(show X from y))
 |⟨.str,x⟩,⟨.str,y⟩=>D ((show Ë from x).toList==(show Ë from y).toList)
 |_,_=>B
def eqL:I Ty->I Leaf->I Leaf->F X
 |[],[],[]=>D U
 |k::ks,.d t x::l,.d t' y::l'=>if t=k/\t'=k then match eqT ⟨t,x⟩ ⟨t',y⟩with
  |some b=>match ks with
   |[]=>match l,l' with
    |[],[]=>D b
    |_,_=>B
   |ks=>match eqL ks l l' with
    |some b'=>D (b&&b')
    |none=>B
  |none=>B
  else B
 |_,_,_=>B
def binI(op:ä)(k:Î)(x y:Ä):F (X×Leaf):=
 match op with
 |.add=>D (U,.d (.int k) (k.wrap (x+y)))
 |.sub=>D (U,.d (.int k) (k.wrap (x-y)))
 |.mul=>D (U,.d (.int k) (k.wrap (x*y)))
 |.quo=>D (!(y==0),.d (.int k) (k.wrap (x.tdiv y)))
 |.rem=>D (!(y==0),.d (.int k) (x.tmod y))
 |.shr=>if Y ((0:Ä)<=y) then D (U,.d (.int k) (ë x (2^min (Â y) k.bits))) else B
 |.and|.or|.xor|.andNot|.shl=>B
 |op=>match cmpI op x y with
  |some b=>D (U,.d .bool b)
  |none=>B
def VY(ti:F TyI):Bool:=match ti with
 |some t=>Y (t.ty=D .bool)
 |none=>J
def xb(ti:F TyI):I Ty:=match ti with
 |some t=>t.cmp
 |none=>[]
def binC(ti:F TyI)(op:ä):Cel->Cel->F (X×Leaf)
 |.one (.d (.int k) x),.one (.d (.int k') y)=>if k=k' then binI op k x y else
  match op with
  |.shr=>if Y ((0:Ä)<=y) then D (U,.d (.int k) (ë x (2^min (Â y) k.bits))) else B
  |_=>B
 |.one (.d .bool x),.one (.d .bool y)=>if VY ti then match op with
  |.eql=>D (U,.d .bool ((show X from x)==(show X from y)))
  |.neq=>D (U,.d .bool (!((show X from x)==(show X from y))))
  |_=>B
  else B
 |.one (.d .str x),.one (.d .str y)=>match op with
  |.eql=>D (U,.d .bool ((show Ë from x).toList==(show Ë from y).toList))
  |.neq=>D (U,.d .bool (!((show Ë from x).toList==(show Ë from y).toList)))
  |_=>B
 |.st l,.st l'=>if (xb ti).isEmpty then B else match op with
  |.eql=>match eqL (xb ti) l l' with
   |some b=>D (U,.d .bool b)
   |none=>B
  |.neq=>match eqL (xb ti) l l' with
   |some b=>D (U,.d .bool (!b))
   |none=>B
  |_=>B
 |_,_=>B
def unC(op:UnOp):Cel->F Leaf
 |.one (.d .bool x)=>match op with
  |.not=>D (.d .bool (!(show X from x)))
  |_=>B
 |.one (.d (.int k) x)=>match op with
  |.neg=>D (.d (.int k) (k.wrap (0-(show Ä from x))))
  |_=>B
 |_=>B
def uy(ti:TyI)(ls:I Leaf):F Cel:=
 if ti.agg then (if ls.length=ti.size then D (.st ls) else B)
 else match ls with
  |[l]=>D (.one l)
  |_=>B
def qB(rd:H->BS)(ti:TyI):Leaf->F Cel
 |.bp k c=>match rd k with
  |.live (.cell ls _)=>uy ti ((ls.drop c).take ti.size)
  |.live (.arr n a xs)=>if c=0/\ti.ty=D (.arr n a) then D (.av n a xs) else B
  |_=>B
 |.ep k i c=>match rd k with
  |.live (.lst e a xs _)=>uy ti ((((scat a (Ê xs i a.dflt)).map TV.leaf).drop c).take ti.size)
  |.live (.arr _ a xs)=>uy ti ((((scat a (Ê xs i a.dflt)).map TV.leaf).drop c).take ti.size)
  |.live (.row _ a _ ls)=>if c+ti.size<=a.size then uy ti ((ls.drop (i*a.size+c)).take ti.size) else B
  |_=>B
 |.ip ls=>uy ti ((ls.map TV.leaf).take ti.size)
 |_=>B
def qC(ls:I Leaf)(c:H)(new:I Leaf):I Leaf:=ls.take c++new++ls.drop (c+new.length)
def xc(rd rdf:H->BS)(sz:H)(val:Cel):Leaf->F Ups
 |.bp k c=>match rd k with
  |.live (.cell ls J)=>match val.leaves with
   |some new=>if new.length=sz/\c+new.length<=ls.length then D [(k,.live (.cell (qC ls c new) J))] else B
   |none=>B
  |.live (.arr n a _)=>if c=0 then match val with
    |.av n' a' ys=>match (TV.mk (.arr n' a') ys).to (.arr n a) with
     |some LM=>if sz=n*a.size then D [(k,.live (.arr n a LM))] else B
     |none=>B
    |_=>B
   else B
  |_=>B
 |.ep k i c=>match rd k with
  |.live (.lst el a xs J)=>match val.leaves with
   |some new=>if new.length=sz/\c+new.length<=a.size then match gath rdf a (qC ((scat a (Ê xs i a.dflt)).map TV.leaf) c new) with
    |some (e,[],u)=>if u.any (λy=>y.1==k) then B else D (u++[(k,.live (.lst el a (ú xs i e) J))])
    |_=>B
    else B
   |none=>B
  |.live (.arr n a xs)=>match val.leaves with
   |some new=>if new.length=sz/\c+new.length<=a.size then match gath rdf a (qC ((scat a (Ê xs i a.dflt)).map TV.leaf) c new) with
    |some (e,[],u)=>if u.any (λy=>y.1==k) then B else D (u++[(k,.live (.arr n a (ú xs i e)))])
    |_=>B
    else B
   |none=>B
  |.live (.row e a n ls)=>match val.leaves with
   |some new=>if new.length=sz/\c+new.length<=a.size then D [(k,.live (.row e a n (qC ls (i*a.size+c) new)))] else B
   |none=>B
  |_=>B
 |_=>B
def isLive:BS->X
 |.live _=>U
 |_=>J
def rH(rd:H->BS)(ti:TyI)(i:H):Leaf->F Leaf
 |.bp k c=>match ti.flds[i]? with
  |some f=>if isLive (rd k) then D (.bp k (c+f.1)) else B
  |none=>B
 |.ep k j c=>match ti.flds[i]? with
  |some f=>if isLive (rd k) then D (.ep k j (c+f.1)) else B
  |none=>B
 |.ip ls=>match ti.flds[i]? with
  |some f=>D (.ip (ls.drop f.1))
  |none=>B
 |_=>B
def pK(t:F Ty):Bool:=match t with
 |some (.list _)=>U
 |_=>J
def u5(rd:H->BS)(a:Ty):I Leaf->F (I a.den×Ups)
 |[]=>D ([],[])
 |l::ls=>match kW rd a l,u5 rd a ls with
  |some (x,u),D (xs,v)=>D (x::xs,u++v)
  |_,_=>B
def u6(rd:H->BS)(t:F Ty):Leaf->F (H×Ty×I Leaf)
 |.bp k 0=>match t with
  |some (.arr m a)=>if pK (D a) then match rd k with
   |.live (.cell ls J)=>D (m,a,ls)
   |_=>B
   else B
  |_=>B
 |_=>B
def inR(i:Ä)(n:H):Bool:=Y (0<=i)&&Y (i<(n:Ä))
def u7(rd:H->BS)(ti:TyI):Leaf->Leaf->F (X×Leaf)
 |.ol k,.d (.int _) i=>match rd k with
  |.live (.lst e a xs _)=>if ti.ty=D (.list a) then D (inR i xs.length,.ep k (Â i) 0) else B
  |.live (.row _ a n _)=>if ti.ty=D (.list a) then D (inR i n,.ep k (cond (â n 1) 0 (Â i)) 0) else B
  |_=>B
 |.d (.list a) xs,.d (.int _) i=>if ti.ty=D (.list a) then D (inR i (É xs),.ip (scat a (Ê xs (Â i) a.dflt))) else B
 |.bp k 0,.d (.int _) i=>match rd k with
  |.live (.arr n a _)=>if ti.ty=D (.arr n a) then D (inR i n,.ep k (Â i) 0) else B
  |.live (.cell _ _)=>match ti.ty with
   |some (.arr n a)=>if pK (D a) then D (inR i n,.bp k (Â i)) else B
   |_=>B
  |_=>B
 |.tl k j,.d (.int _) i=>match rd k with
  |.live (.lst e a xs _)=>if ti.ty=D (.list a) then D (inR i (xs.length-j),.ep k (j+Â i) 0) else B
  |_=>B
 |_,_=>B
def idxV(ti:TyI):Cel->Leaf->F (X×Cel)
 |.av n a xs,.d (.int _) i=>if ti.ty=D (.arr n a) then D (inR i n,qA a (Ê xs (Â i) a.dflt)) else B
 |.one (.d .str s),.d (.int _) i=>if ti.ty=D .str then D (inR i s.size,.one (.d (.int .u8) (eJ s i))) else B
 |_,_=>B
def BM(ti:TyI)(sz:H->F H):I Leaf->I (H×Cel)->F (I Leaf)
 |ls,[]=>D ls
 |ls,(i,c)::r=>match ti.flds[i]? with
  |some f=>match c.leaves with
   |some new=>if sz f.2=D new.length/\f.1+new.length<=ls.length then BM ti sz (qC ls f.1 new) r else B
   |none=>B
  |none=>B
def na(rd:H->BS)(a:Ty):I a.den->Ups->I (H×Cel)->F (I a.den×Ups)
 |xs,u,[]=>D (xs,u)
 |xs,u,(i,c)::r=>match rG rd a c with
  |some (x,u')=>if i<xs.length then na rd a (xs.set i x) (u++u') r else B
  |none=>B
def lenC(rd:H->BS)(t:F Ty):Leaf->F Leaf
 |.nil=>if pK t then D (.d (.int .i64) (0:Ä)) else B
 |.ol k=>match rd k with
  |.live (.lst _ _ xs _)=>if pK t then D (.d (.int .i64) (xs.length:Ä)) else B
  |.live (.row _ _ n _)=>if pK t then D (.d (.int .i64) (n:Ä)) else B
  |_=>B
 |.d (.list _) xs=>if pK t then D (.d (.int .i64) ((É xs:H):Ä)) else B
 |.d .str s=>if t=D .str then D (.d (.int .i64) ((ByteArray.size s:H):Ä)) else B
 |.tl k j=>match rd k with
  |.live (.lst _ _ xs _)=>if pK t then D (.d (.int .i64) ((xs.length-j:H):Ä)) else B
  |_=>B
 |.hd k i=>match rd k with
  |.live (.lst _ _ _ _)=>if pK t then D (.d (.int .i64) (i:Ä)) else B
  |_=>B
 |_=>B
def minC:I Cel->F Leaf
 |[.one (.d (.int k) x),.one (.d (.int k') y)]=>if k=k' then D (.d (.int k) (if (show Ä from y)<x then y else x:Ä)) else B
 |_=>B
def maxC:I Cel->F Leaf
 |[.one (.d (.int k) x),.one (.d (.int k') y)]=>if k=k' then D (.d (.int k) (if (show Ä from y)>x then y else x:Ä)) else B
 |_=>B
def iR:BS->X
 |.free=>U
 |_=>J
def aK:Nat:=4294967296
def appS(rd:H->BS)(e:H)(a:Ty):Leaf->F (I a.den×X×Ups)
 |.ol k=>match rd k with
  |.live (.lst e' a' xs frz)=>match (TV.mk (.list a') xs).to (.list a) with
   |some dE=>if e'=e then D (dE,frz,[(k,.gone)]) else B
   |none=>B
  |_=>B
 |.nil=>D ([],J,[])
 |_=>B
def appX(rd:H->BS)(a:Ty):Leaf->F (I a.den)
 |.ol k=>match rd k with
  |.live (.lst _ a' xs _)=>(TV.mk (.list a') xs).to (.list a)
  |_=>B
 |.d t xs=>(TV.mk t xs).to (.list a)
 |.nil=>D []
 |.tl k j=>match rd k with
  |.live (.lst _ a' xs _)=>match (TV.mk (.list a') xs).to (.list a) with
   |some dE=>D (Ø j dE)
   |none=>B
  |_=>B
 |_=>B
def bnd(d:H):F Leaf->F Ä
 |none=>D d
 |some (.d (.int _) i)=>D i
 |some _=>B
def BN(par:H->X)(rd:H->BS)(ti:TyI)(n:H)(x:Leaf)(lo hi:F Leaf):F (X×Leaf×Ups):=
 match x with
 |.d (.list a) xs=>if ti.ty=D (.list a) then match bnd 0 lo,bnd (É xs) hi with
  |some i,D j=>D (Y (0<=i)&&(Y (i<=j)&&Y (j<=(É xs:Ä))),.d (.list a) (Ø (Â i) (Ð (Â j) xs)),[])
  |_,_=>B
  else B
 |.ol k=>match hi with
  |none=>match rd k with
   |.live (.lst _ a xs _)=>if ti.ty=D (.list a) then match bnd 0 lo with
    |some i=>D (Y (0<=i)&&Y (i<=(xs.length:Ä)),.tl k (Â i),[])
    |none=>B
    else B
   |_=>B
  |some _=>match rd k with
   |.live (.lst e a xs f)=>if ti.ty=D (.list a) then match bnd 0 lo,bnd xs.length hi with
    |some i,D j=>if par k then
      (if lo.isNone then D (Y (0<=j)&&Y (j<=(xs.length:Ä)),.hd k (Â j),[]) else B)
     else if lo.isNone && !f then
      (if iR (rd n) then D (Y (0<=j)&&Y (j<=(xs.length:Ä)),.ol n,[(k,.gone),(n,.live (.lst e a (Ð (Â j) xs) J))]) else B)
     else D (Y (0<=i)&&(Y (i<=j)&&Y (j<=(xs.length:Ä))),.d (.list a) (Ø (Â i) (Ð (Â j) xs)),[(k,.live (.lst e a xs U))])
    |_,_=>B
    else B
   |_=>B
 |.hd k _=>match rd k with
  |.live (.lst _ a xs _)=>if ti.ty=D (.list a)/\hi.isSome=U then match bnd 0 lo,bnd 0 hi with
   |some i,D j=>D (Y (0<=i)&&(Y (i<=j)&&Y (j=(xs.length:Ä))),.tl k (Â i),[])
   |_,_=>B
   else B
  |_=>B
 |_=>B
def BO(rd:H->BS)(ti:TyI)(x:Leaf)(lo hi:F Leaf)(mx:Leaf):F Bool:=
 match x,lo,hi,mx with
 |.ol k,D (.d (.int _) i),D (.d (.int _) j),.d (.int _) m=>match rd k with
  |.live (.lst _ a xs _)=>if ti.ty=D (.list a) then D (Y ((0:Ä)<=i)&&(Y ((show Ä from i)<=j)&&(Y ((show Ä from j)<=m)&&Y (m<=(xs.length:Ä))))) else B
  |_=>B
 |_,_,_,_=>B
def appH(rd:H->BS)(el:H)(a:Ty)(s x:Leaf):F (X×Leaf×Ups):=
 match s,x with
 |.hd k i,.tl k' j=>if k=k' then match rd k with
  |.live (.lst e b xs J)=>if b=a/\e=el then D (Y (i<=j),.hd k (i+(xs.length-j)),[(k,.live (.lst e b (Ð i xs++(Ø j xs++Ø (i+(xs.length-j)) xs)) J))]) else B
  |_=>B
  else B
 |_,_=>B
def HI:Leaf->F (H×H)
 |.ol k=>D (k,0)
 |.tl k i=>D (k,i)
 |_=>B
def over{α:Type}(xs:I α)(i:H)(ys:I α):I α:=Ð i xs++(Ð (xs.length-i) ys++Ø (i+ys.length) xs)
def BP(rd:H->BS)(t:F Ty)(x y:Leaf):F (Leaf×Ups):=
 match HI x with
 |some (k,i)=>match rd k with
  |.live (.lst e a xs J)=>if t=D (.list a) then match appX rd a y with
   |some ys=>D (.d (.int .i64) ((min ys.length (xs.length-i):H):Ä),[(k,.live (.lst e a (over xs i ys) J))])
   |none=>B
   else B
  |_=>B
 |none=>B
def BQ(rd:H->BS)(t:F Ty)(x:Leaf):F Ups:=
 match HI x with
 |some (k,i)=>match rd k with
  |.live (.lst e a xs J)=>if t=D (.list a) then D [(k,.live (.lst e a (Ð i xs++Æ (xs.length-i) a.dflt) J))] else B
  |_=>B
 |none=>B
inductive Act where
 |val (chk:X) (s:Slot) (ups:Ups)
 |call (f:H) (args:I Arg) (mk:Ret->F (Slot×Ups))
def Act.leaf(x:Leaf):Act:= .val U (.one (.one x)) []
def Act.cel(x:Cel):Act:= .val U (.one x) []
def oA(x:F Leaf):F Act:=match x with
 |some c=>D (.leaf c)
 |none=>B
def oCel(x:F Cel):F Act:=match x with
 |some c=>D (.cel c)
 |none=>B
def oChk(x:F (X×Leaf)):F Act:=match x with
 |some (b,c)=>D (.val b (.one (.one c)) [])
 |none=>B
def tvs(rd:H->BS):I Leaf->F (I TV×Ups)
 |[]=>D ([],[])
 |l::ls=>match tvs rd ls with
  |some (xs,u)=>match l with
   |.d t v=>D (⟨t,v⟩::xs,u)
   |.ol k=>match rd k with
    |.live (.lst e a es _)=>D (⟨.list a,es⟩::xs,(k,.live (.lst e a es U))::u)
    |_=>B
   |_=>B
  |none=>B
def xd(rd:H->BS):I Cel->F (I Cap×Ups)
 |[]=>D ([],[])
 |c::r=>match xd rd r with
  |some (l,u)=>match c with
   |.one (.d t v)=>if t.leafy then D (.v ⟨t,v⟩::l,u) else B
   |.one (.bp k 0)=>match rd k with
    |.live (.cell ls _)=>match tvs rd ls with
     |some (xs,u')=>if (u++u').any (λy=>y.1==k) then B else D (.p xs::l,(u++u')++[(k,.live (.cell (xs.map TV.leaf) U))])
     |none=>B
    |_=>B
   |_=>B
  |none=>B
def DR:I Cel->F (I H)
 |[]=>D []
 |.one (.bp k 0)::r=>match DR r with
  |some ks=>D (k::ks)
  |none=>B
 |_::_=>B
inductive Bk where
 |ref (k:H)
 |rl (k e:H) (a:Ty)
 |mv (k e:H) (a:Ty)
def Bk.name:Bk->H
 |.ref k=>k
 |.rl k _ _=>k
 |.mv k _ _=>k
def Bk.isMv:Bk->X
 |.mv _ _ _=>U
 |_=>J
def xe(rd rdf:H->BS)(t:F TyI)(mv rl:X)(c:Cel):F (Arg×Ups×F Bk):=
 match c with
 |.one (.bp k 0)=>match rd k with
  |.live (.cell ls U)=>match tvs rdf ls with
   |some (xs,u)=>D (.ip xs,u,B)
   |none=>B
  |.live (.cell ls J)=>match tvs rdf ls with
   |some (xs,u)=>D (.ref xs,u,D (.ref k))
   |none=>B
  |_=>B
 |.one (.ip ls)=>D (.ip ls,[],B)
 |.one (.clo f caps)=>D (.clo f caps,[],B)
 |.one (.ol k)=>match rl with
  |true=>cond mv (match rdf k with
   |.live (.lst e a xs J)=>D (.mv e ⟨.list a,xs⟩,[],D (.mv k e a))
   |_=>B) (match rd k with
   |.live (.lst e a xs J)=>D (.rl e ⟨.list a,xs⟩,[],D (.rl k e a))
   |_=>B)
  |false=>match rdf k with
   |.live (.lst e a xs _)=>D (.v ⟨.list a,xs⟩,[(k,.live (.lst e a xs U))],B)
   |_=>B
 |c=>match t with
  |some ti=>match ti.ty with
   |some ty=>match rG rdf ty c with
    |some (x,u)=>D (.v ⟨ty,x⟩,u,B)
    |none=>B
   |none=>B
  |none=>B
def qD(rd rdf:H->BS)(T:H->F TyI)(mv:X):I H->I X->I Cel->F (I Arg×Ups×I Bk)
 |_,_,[]=>D ([],[],[])
 |ts,ms,c::r=>match xe rd rdf (ts.head?.bind T) mv (ms.headD J) c with
  |some (a,u,f)=>match qD rd rdf T mv ts.tail ms.tail r with
   |some (as,us,fs)=>D (a::as,u++us,f.toList++fs)
   |none=>B
  |none=>B
def rI:Cap->Arg
 |.v x=> .v x
 |.p ls=> .ip ls
def HJ:Bk->Out->F (H×BS)
 |.ref k,.ref ys=>D (k,.live (.cell (ys.map TV.leaf) J))
 |.rl k e a,.rl y=>match y.to (.list a) with
  |some ys=>D (k,.live (.lst e a ys J))
  |none=>B
 |_,_=>B
def ny:I Bk->I Out->F Ups
 |[],[]=>D []
 |.mv k _ _::fs,xs=>match ny fs xs with
  |some u=>D ((k,.gone)::u)
  |none=>B
 |f::fs,x::xs=>match HJ f x with
  |some y=>match ny fs xs with
   |some u=>D (y::u)
   |none=>B
  |none=>B
 |_,_=>B
def pL:I H->X
 |[]=>U
 |x::xs=> !xs.contains x&&pL xs
def bkOk(us:Ups)(fs:I Bk):Bool:=pL (fs.map Bk.name)&&us.all λx=> !(fs.map Bk.name).contains x.1
def soL:H->I RL->F (I Leaf×Ups)
 |_,[]=>D ([],[])
 |n,.d x::r=>match soL (n+1) r with
  |some (l,u)=>D (.d x.t x.v::l,u)
  |none=>B
 |n,.own e ⟨.list a,xs⟩::r=>match soL (n+1) r with
  |some (l,u)=>D (.ol n::l,(n,.live (.lst e a xs J))::u)
  |none=>B
 |_,.own _ _::_=>B
def HK(n:H):RV->F (Cel×Ups)
 |.v x=>D (qA x.t x.v,[])
 |.own e ⟨.list a,xs⟩=>D (.one (.ol n),[(n,.live (.lst e a xs J))])
 |.own _ _=>B
 |.box ls=>D (.one (.bp n 0),[(n,.live (.cell (ls.map TV.leaf) J))])
 |.hd _=>B
 |.vn x ns=>match qA x.t x.v with
  |.st ls=>D (.st (ls.zipIdx.map λy=>if ns.contains y.2 then .nil else y.1),[])
  |c=>D (c,[])
 |.clo f caps=>D (.one (.clo f caps),[])
 |.so ls=>match soL n ls with
  |some (l,u)=>D (.st l,u)
  |none=>B
 |.raw _ _=>B
def rvW:RV->H
 |.so ls=>ls.length
 |_=>1
def xf:H->I RV->F (I Cel×Ups)
 |_,[]=>D ([],[])
 |n,r::rs=>match HK n r with
  |some (c,u)=>match xf (n+rvW r) rs with
   |some (cs,us)=>D (c::cs,u++us)
   |none=>B
  |none=>B
def RV.flat:RV->X
 |.v x=>x.t.flat
 |.own _ x=>match x.t with
  |.list a=>a.flat
  |_=>J
 |.box _=>J
 |.hd _=>J
 |.vn _ _=>J
 |.clo _ _=>J
 |.so _=>J
 |.raw _ _=>J
def Out.flat:Out->X
 |.ref ls=>ls.all λx=>x.t.flat
 |.rl x=>x.t.flat
def mkHd(rd rdf:H->BS)(n:H)(us:Ups)(fs:I Bk)(m:H)(os:I Out):F (Slot×Ups):=
 match fs,os with
 |.rl k e a::_,.rl y::_=>match ny fs os,y.to (.list a) with
  |some uo,D ys=>if iR (rd n)&&isLive (rdf k) then D (.one (.one (.ol n)),us++uo++[(k,.gone),(n,.live (.lst e a (Ð m ys) J))]) else B
  |_,_=>B
 |_,_=>B
def itC:Item->Cel
 |.s c=>c
 |.b _=> .one .dead
def itX:Item->BS
 |.b x=>x
 |.s _=> .gone
def rawC(ns:I H)(s:Snap):I Cel:=(s.take (s.length-ns.length)).map itC
def rawU(ns:I H)(s:Snap):Ups:=ns.zip ((s.drop (s.length-ns.length)).map itX)
def DS:I Cel->Slot
 |[c]=> .one c
 |cs=> .tup cs
def DT(rd:H->BS)(us:Ups)(fs:I Bk)(ns:I H)(s:Snap)(os:I Out):F (Slot×Ups):=
 match fs,os with
 |[],[]=>if pL ns&&ns.all (λk=>iR (rd k)) then D (DS (rawC ns s),us++rawU ns s) else B
 |_,_=>B
def u9(rd rdf:H->BS)(n:H)(us:Ups)(fs:I Bk)(r:Ret):F (Slot×Ups):=
 match r.vals with
 |[.hd m]=>mkHd rd rdf n us fs m r.outs
 |[.raw ns s]=>DT rd us fs ns s r.outs
 |_=>match ny fs r.outs with
 |some uo=>match xf n r.vals with
  |some (cs,un)=>
   if un.all (λe=>iR (rd e.1)) then
    let u:=(if r.vals.all RV.flat&&r.outs.all Out.flat then [] else us)++uo++un
    match cs with
    |[c]=>D (.one c,u)
    |cs=>D (.tup cs,u)
   else B
  |none=>B
 |none=>B
def one1(fr:X)(e:H)(a:Ty)(n len:H):I (H×Cel)->F Act
 |[(0,c)]=>match c.leaves with
  |some ls=>if len=1/\ls.length=a.size/\a.size<=16777216/\fr=U/\isM e=J then D (.val U (.one (.one (.ol n))) [(n,.live (.row e a 1 ls))]) else B
  |none=>B
 |_=>B
def rowS(rdf:H->BS)(e:H)(a:Ty):Leaf->F (H×I Leaf×Ups)
 |.nil=>D (0,[],[])
 |.ol k=>match rdf k with
  |.live (.row e' a' m ls)=>if e'=e/\a'=a then D (m,ls,[(k,.gone)]) else B
  |_=>B
 |_=>B
def appN(rd rdf:H->BS)(e:H)(a:Ty)(n:H)(s x:Leaf):F (Leaf×Ups):=
 match x with
 |.ol k=>match rdf k with
  |.live (.row e' a' m ls)=>match rowS rdf e a s with
   |some (m0,HM,u)=>if (e'=e/\a'=a)/\u.any (λy=>y.1==k)=J/\m0+m<=1000/\iR (rd n)=U then D (.ol n,u++[(k,.gone),(n,.live (.row e a (m0+m) (HM++ls)))]) else B
   |none=>B
  |_=>B
 |_=>B
def lf(c:Cel):Leaf:=match c with|.one y=>y|_=> .dead
def HN(x:Ì)(b:X)(act:I (H×X)):I (H×X):=match x with
 |.tmp s=>(s,b)::act
 |_=>act
def yV(T:H->F TyI)(t:H):F (Ty×Ty):=match T t with
 |some ti=>match ti.mp with
  |some (k,v)=>match T k,T v with
   |some tk,D tv=>match tk.ty,tv.ty with
    |some k,D v=>if k.isKey then D (k,v) else B
    |_,_=>B
   |_,_=>B
  |none=>B
 |none=>B
def mapC(rw:H->BS)(t:H)(k v:Ty)(x y:Leaf):F (H×I (k.den×v.den)×k.den):=match x,y with
 |.ol b,.d tk key=>match rw b with
  |.live (.lst e a xs J)=>if e=4294967296+t then match (TV.mk (.list a) xs).to (.list (.pair k v)),(TV.mk tk key).to k with
    |some ys,D q=>D (b,ys,q)
    |_,_=>B
   else B
  |_=>B
 |_,_=>B
def Env.ta(E:Env)(g:H):H->F TyI:=match E.pa g with
 |none=>E.T
 |some (t,ty)=>λn=>if n=t then (match E.T n with
  |some ti=>D { ti with ty:=D ty }
  |none=>B) else E.T n
def eM(E:Env)(ev:Ì->Slot)(rw:H->BS)(act:I (H×X))(o:Å):F Act:=
 let rd:=mskM rw
 let c (x:Ì):Cel:=(ev x).cel act
 let l (x:Ì):Leaf:=lf (c x)
 let n:=(o.dst.getD 0)*64+E.off
 let rdf (k:H):BS:=if parK E.np k then .gone else rd k
 match o.op with
 |.move x|.assign x=>match ev x with
  |.tup l=>D (.val U (.tup l) [])
  |s=>D (.cel (s.cel act))
 |.pick x a b=>match l x with
  |.d .bool v=>
   match (ev a).cel (HN x U act),(ev b).cel (HN x J act) with
   |.one (.d t p),.one (.d t' q)=>match (TV.mk t' q).to t with
    |some q'=>D (.leaf (.d t (cond v p q')))
    |none=>B
   |.one (.d t p),.one .dead=>D (.val v (.one (.one (.d t p))) [])
   |.one .dead,.one (.d t q)=>D (.val (!(show X from v)) (.one (.one (.d t q))) [])
   |_,_=>B
  |_=>B
 |.alloc t=>match E.T t with
  |some ti=>if iR (rd n) then match ti.ty with
    |some (.arr k a)=>if pK (D a) then D (.val U (.one (.one (.bp n 0))) [(n,.live (.cell (pI (.arr k a)) J))]) else D (.val U (.one (.one (.bp n 0))) [(n,.live (.arr k a (Æ k a.dflt)))])
    |some ty=>D (.val U (.one (.one (.bp n 0))) [(n,.live (.cell (pI ty) J))])
    |none=>B
   else B
  |none=>B
 |.box _ x=>if iR (rd n) then match c x with
   |.av k a xs=>D (.val U (.one (.one (.bp n 0))) [(n,.live (.arr k a xs))])
   |v=>match v.leaves with
    |some ls=>D (.val U (.one (.one (.bp n 0))) [(n,.live (.cell ls J))])
    |none=>B
  else B
 |.build t ps=>match E.T t with
  |some ti=>match ti.ty with
   |some (.arr k a)=>if pK (D a)&&ps.toList.isEmpty then D (.cel (.st (pI (.arr k a)))) else match na rdf a (Æ k a.dflt) [] (ps.toList.map λp=>(p.1,c p.2)) with
    |some (xs,u)=>D (.val U (.one (.av k a xs)) u)
    |none=>B
   |some ty=>if ty.agg then match BM ti (λt=>(E.T t).map (·.size)) (pI ty) (ps.toList.map λp=>(p.1,c p.2)) with
    |some ls=>D (.cel (.st ls))
    |none=>B
    else B
   |none=>B
  |none=>B
 |.buildSlice t len ps=>match E.T t with
  |some ti=>match ti.ty with
   |some (.list a)=>if E.b1.contains (o.dst.getD 0) then one1 (iR (rd n)) ti.elem a n len (ps.toList.map λp=>(p.1,c p.2)) else if 16777216<len*a.size then B else match na rdf a (Æ len a.dflt) [] (ps.toList.map λp=>(p.1,c p.2)) with
    |some (xs,u)=>if iR (rd n) then D (.val U (.one (.one (.ol n))) (u++[(n,.live (.lst ti.elem a xs J))])) else B
    |none=>B
   |_=>B
  |none=>B
 |.load t x=>match E.T t with
  |some ti=>match u6 rd ti.ty (l x) with
   |some (m,a,ls)=>match u5 rdf a ls with
    |some (xs,u)=>if xs.length=m then D (.val U (.one (.av m a xs)) u) else B
    |none=>B
   |none=>oCel (qB rd ti (l x))
  |none=>B
 |.store t x y=>match E.T t with
  |some ti=>match xc rd rdf ti.size (c y) (l x) with
   |some u=>D (.val U (.one (.one .dead)) u)
   |none=>B
  |none=>B
 |.nilCheck x=>match l x with
  |.bp k p=>if isLive (rd k) then D (.leaf (.bp k p)) else B
  |.ep k i p=>if isLive (rd k) then D (.leaf (.ep k i p)) else B
  |.ip ls=>D (.leaf (.ip ls))
  |_=>B
 |.binOp op t x y _=>oChk (binC (E.T t) op (c x) (c y))
 |.unOp op _ x=>oA (unC op (c x))
 |.convert src dst x=>match E.T src,E.T dst with
  |some ts,D ti=>match l x,ts.ty,ti.ty with
   |.d (.int _) v,D (.int _),D (.int k)=>D (.leaf (.d (.int k) (k.wrap v)))
   |_,_,_=>B
  |_,_=>B
 |.makeFunc (.func f) first caps=>if first.isEmpty then (if E.cr.contains f then match DR (caps.toList.map c) with
   |some ks=>D (.val U (.one (.one (.clr f ks))) [])
   |none=>B
  else match xd rdf (caps.toList.map c) with
   |some (l,u)=>D (.val U (.one (.one (.clo f l))) u)
   |none=>B)
  else B
 |.fieldAddr t x i=>match E.T t with
  |some ti=>oA (rH rd ti i (l x))
  |none=>B
 |.field t x i=>match E.T t with
  |some ti=>match c x,ti.flds[i]? with
   |.st ls,D f=>match E.T f.2 with
    |some tf=>oCel (uy tf ((ls.drop f.1).take tf.size))
    |none=>B
   |_,_=>B
  |none=>B
 |.indexAddr t x i=>match E.T t with
  |some ti=>oChk (u7 rd ti (l x) (l i))
  |none=>B
 |.index t x i=>match E.T t with
  |some ti=>match idxV ti (c x) (l i) with
   |some (b,v)=>D (.val b (.one v) [])
   |none=>B
  |none=>B
 |.makeMap t B=>match yV E.T t with
  |some (k,v)=>if iR (rd n) then D (.val U (.one (.one (.ol n))) [(n,.live (.lst (4294967296+t) (.pair k v) [] J))]) else B
  |none=>B
 |.lookup t x i ok=>match yV E.T t with
  |some (k,v)=>match mapC rw t k v (l x) (l i) with
   |some (_,ys,q)=>match ok with
    |true=>D (.val U (.tup [qA v (@iQ _ _ k.keq v.dflt ys q),.one (.d .bool (@mZ _ _ k.keq ys q))]) [])
    |false=>D (.cel (qA v (@iQ _ _ k.keq v.dflt ys q)))
   |none=>B
  |none=>B
 |.mapUpdate t x i y=>match yV E.T t with
  |some (k,v)=>match mapC rw t k v (l x) (l i),rG rdf v (c y) with
   |some (b,ys,q),D (z,u)=>D (.val U (.one (.one .dead)) (u++[(b,.live (.lst (4294967296+t) (.pair k v) (@kV _ _ k.keq ys q z) J))]))
   |_,_=>B
  |none=>B
 |.extract x i=>match ev x with
  |.tup l=>match l[i]? with
   |some c=>D (.cel c)
   |none=>B
  |_=>B
 |.call cl=>match cl.callee with
  |.builtin .len=>match cl.args.toList,cl.argTypes.toList with
   |[x],[t]=>match E.T t with
    |some ti=>oA (lenC rd ti.ty (l x))
    |none=>B
   |_,_=>B
  |.builtin .min=>oA (minC (cl.args.toList.map c))
  |.builtin .max=>oA (maxC (cl.args.toList.map c))
  |.builtin .append=>match cl.argTypes.toList,cl.args.toList with
   |[t,t'],[s,x]=>if t=t' then match E.T t with
     |some ti=>match ti.ty with
      |some (.list a)=>match appH rd ti.elem a (l s) (l x) with
       |some (b,v,u)=>D (.val b (.one (.one v)) u)
       |none=>match appN rd rdf ti.elem a n (l s) (l x) with
       |some (v,u)=>D (.val U (.one (.one v)) u)
       |none=>match appS rdf ti.elem a (l s),appX rd a (l x) with
        |some (xs,frz,u),D ys=>
         if iR (rd n) then D (.val (Y (xs.length+ys.length<=aK)) (.one (.one (.ol n))) (u++[(n,.live (.lst ti.elem a (xs++ys) frz))])) else B
        |_,_=>B
      |_=>B
     |none=>B
    else B
   |_,_=>B
  |.value f=>match l f with
   |.clo g caps=>match qD rw rdf (E.ta g) (E.mvf g) cl.argTypes.toList (E.modes g) (cl.args.toList.map c) with
    |some (as,us,fs)=>if bkOk us fs then D (.call g (as++caps.map rI) (u9 rd rdf n us fs)) else B
    |none=>B
   |.clr g ks=>match qD rw rdf (E.ta g) (E.mvf g) cl.argTypes.toList (E.modes g) (cl.args.toList.map c++ks.map λk=> .one (.bp k 0)) with
    |some (as,us,fs)=>if bkOk us fs then D (.call g as (u9 rd rdf n us fs)) else B
    |none=>B
   |_=>B
  |.builtin .copy=>match cl.argTypes.toList,cl.args.toList with
   |[t,t'],[x,y]=>if t=t' then match E.T t with
     |some ti=>match BP rd ti.ty (l x) (l y) with
      |some (v,u)=>D (.val U (.one (.one v)) u)
      |none=>B
     |none=>B
    else B
   |_,_=>B
  |.builtin .clear=>match cl.argTypes.toList,cl.args.toList with
   |[t],[x]=>match E.T t with
    |some ti=>match BQ rd ti.ty (l x) with
     |some u=>D (.val U (.one (.one .dead)) u)
     |none=>B
    |none=>B
   |_,_=>B
  |_=>B
 |.slice t x lo hi B=>match E.T t with
  |some ti=>match BN (parK E.np) rd ti n (l x) (lo.map l) (hi.map l) with
   |some (b,v,u)=>D (.val b (.one (.one v)) u)
   |none=>B
  |none=>B
 |.slice t x lo hi (D mx)=>match E.T t with
  |some ti=>match BO rd ti (l x) (lo.map l) (hi.map l) (l mx) with
   |some b=>D (.val b (.one (.one .dead)) [])
   |none=>B
  |none=>B
 |_=>B
def St.upd(σ:St):Ups->St
 |[]=>σ
 |e::u=>(σ.setB e.1 e.2).upd u
def kill(d:H):Slot->Slot
 |.cnd s w c=>if s=d then .one (.one .dead) else .cnd s w c
 |x=>x
def St.put(σ:St)(d:F H)(s:Slot):St:=
 match d with
 |none=>σ
 |some d=>{ σ with sl:=λj=>kill d (if j=d then s else σ.sl j) }
def St.setD(σ:St)(d:F H)(s:Slot):St:=
 match d with
 |none=>σ
 |some d=>σ.setS d s
def jJG:Slot->Slot
 |.cnd _ _ _=> .one (.one .dead)
 |x=>x
def St.clear(σ:St):St:={ σ with sl:=λj=>jJG (σ.sl j) }
def nC(N:NT)(o:Å):Bool:=
 match o.dst with
 |none=>U
 |some d=>Y (d<N.n) && !N.pin d
def yW{R:Type}(e:X)(t f:F R):F R:=open Classical in cond e (if t=f then f else B) f
theorem jwc{R:Type}(e:X)(t:F R):yW e t t=t:=by cases e<;>simp[yW]
theorem jwd{R:Type}{e:X}{t f:F R}{r:R}(h:yW e t f=D r):f=D r/\(e=U->t=D r):=by
 cases e with
 |false=>exact⟨h,λh'=>by simp at h'⟩
 |true=>
  simp only[yW,j6]at h;split at h
  .rename_i he;exact⟨h,λ_=>he.trans h⟩
  .simp at h
def nilT(E:Env)(σ:St)(o:Å):F Bool:=
 match o.op with
 |.binOp .eql t x y _=>match σ.ev x,σ.ev y,E.T t with
  |.one (.one (.d (.list _) xs)),.one (.one .nil),D ti=>if pK ti.ty then D (List.isEmpty xs) else B
  |_,_,_=>B
 |_=>B
def spT(σ:St)(o:Å):F (H×Î×Ä×H):=
 match o.op with
 |.indexAddr _ x (.tmp t)=>match σ.ev x,σ.sl t with
  |.one (.one (.ol k)),.one (.one (.d (.int kk) v))=>match σ.bx k with
   |.live (.row _ _ n _)=>if Nat.blt 1 n then D (t,kk,v,n) else B
   |_=>B
  |_,_=>B
 |_=>B
def spl{R:Type}(v:Ä)(f:Ä->F R):H->H->F R
 |0,_=>B
 |m+1,j=>cond (v==Ï j) (f (Ï j)) (spl v f m (j+1))
def pre{R:Type}(σ:St)(o:Å)(k:St->F R):F R:=match spT σ o with
 |some (t,kk,v,n)=>spl v (λj=>k (σ.setS t (.one (.one (.d (.int kk) j))))) n 0
 |none=>k σ
theorem VZ{R:Type}{v:Ä}{f:Ä->F R}{r:R}:∀(m j:H),spl v f m j=D r->f v=D r
 |0,_,h=>by simp[spl]at h
 |m+1,j,h=>by
  simp only[spl]at h;by_cases he:v=Ï j
  .rw[<-he,ke,j6]at h;exact h
  .rw[show (v==Ï j)=J by simpa using he,j7]at h;exact VZ m (j+1) h
theorem jAu{σ:St}{i:H}{s:Slot}(h:σ.sl i=s):σ.setS i s=σ:=by
 have e:(λj=>if j=i then s else σ.sl j)=σ.sl:=by
  funext j
  by_cases hj:j=i
  .subst hj;rw[if_pos rfl,h]
  .rw[if_neg hj]
 show { σ with sl:=_ }=σ;rw[e]
theorem V0{R:Type}{σ:St}{o:Å}{k:St->F R}{r:R}(h:pre σ o k=D r):k σ=D r:=by
 unfold pre at h;split at h
 .rename_i t kk v n he;have h':=VZ _ _ h
  have hs:σ.sl t = .one (.one (.d (.int kk) v)):=by
   unfold spT at he
   repeat' split at he
   all_goals first
    |(simp at he;done)
    |(
     simp only[j5,j9]at he;obtain⟨rfl,rfl,rfl,rfl⟩:=he;assumption)
  rw[jAu hs]at h';exact h'
 .exact h
noncomputable section
variable(E:Env){R:Type}
def run1(p:X)(σ:St)(act:I (H×X))(o:Å)(k:St->F R):F R:=pre σ o λσ=>
 match cond E.nz (nilT E σ o) B with
 |some e=>yW e (k (cond p (σ.put o.dst (.one (.one (.d .bool U)))) (σ.setD o.dst (.one (.one (.d .bool U)))))) (k (cond p (σ.put o.dst (.one (.one (.d .bool J)))) (σ.setD o.dst (.one (.one (.d .bool J))))))
 |none=>
 match eM E σ.ev σ.bx act o with
 |none=>B
 |some (.val chk s u)=>cond chk (k (cond p ((σ.upd u).put o.dst s) ((σ.upd u).setD o.dst s))) B
 |some (.call f args mk)=>E.C f args R λret=>match mk ret with
  |some (s,u)=>k (cond p ((σ.upd u).put o.dst s) ((σ.upd u).setD o.dst s))
  |none=>B
def gval(σ:St)(s:H):F Bool:=
 match σ.sl s with
 |.one (.one (.d .bool v))=>D v
 |.cnd _ _ (.one (.d .bool v))=>D v
 |_=>B
def LN(r:I (H×X))(σ:St)(s:H):F Bool:=
 match σ.sl s with
 |.one (.one (.d .bool v))=>D v
 |.cnd s' w' (.one (.d .bool v))=>if r.contains (s',w') then D v else B
 |_=>B
def actB(σ:St):I (H×X)->F X
 |[]=>D U
 |(s,w)::r=>match gval σ s with
  |some v=>match r with
   |[]=>D (cond w v (!v))
   |r=>match actB σ r with
    |some b=>D (b&&cond w v (!v))
    |none=>B
  |none=>B
def xg:I (H×X)->St->(St->X->F R)->F R
 |[],σ,k=>k σ U
 |(s,w)::r,σ,k=>xg r σ λσ1 a=>match a with
  |true=>match LN r σ1 s with
   |some v=>cond v (k (σ1.setS s (.one (.one (.d .bool U)))) w) (k (σ1.setS s (.one (.one (.d .bool J)))) (!w))
   |none=>B
  |false=>k σ1 J
def DU(ops:È Å)(σ:St)(o:Å)(k:St->F R):F R:=
 match p9 ops o with
 |none=>match o.guard with
  |none=>run1 E U σ [] o k
  |some _=>B
 |some g=>
  let ch:=σ.chain 40 g
  let sE:=xg ch σ λσ' a=>match a with
   |true=>run1 E U σ' ch o k
   |false=>k (σ'.put o.dst (.one (.one .dead)))
  match eM E σ.ev σ.bx ch o with
  |some (.val chk (.one c) [])=>match actB σ ch with
   |some ab=>cond (chk || !ab) (k (σ.put o.dst (.cnd g.1 g.2 c))) B
   |none=>sE
  |_=>sE
def qE:I Å->St->(St->F R)->F R
 |[],σ,k=>k σ
 |o::os,σ,k=>if nC E.N o then run1 E J σ [] o λσ'=>qE os σ' k else B
def BR(ops:È Å):I Å->St->(St->F R)->F R
 |[],σ,k=>k σ.clear
 |o::os,σ,k=>if nC E.N o then DU E ops σ o λσ'=>BR ops os σ' k else B
def bare(ops:È Å):Bool:=ops.toList.all λo=>o.guard.isNone
def rJ(ops:È Å)(σ:St)(k:St->F R):F R:=
 if bare ops then qE E ops.toList σ k else BR E ops ops.toList σ k
end
noncomputable section
variable(E:Env){R:Type}
def LO(σ:St)(o o2:Å):F (X×St):=
 match o.op,o2.op with
 |.call c1,.call c2=>match c1.callee,c1.args.toList,c2.callee,c2.args.toList with
  |.value f1,[x],.value f2,[.tmp d]=>match σ.ev f1,σ.ev x,(σ.setD o.dst (.one (.one .dead))).ev f2 with
   |.one (.one (.clo fK [])),.one (.one (.ol b)),.one (.one (.clo fS []))=>match E.bw fS,σ.bx b with
    |some (U,.arr LQ (.arr e .bool)),.live (.lst em a xs _)=>match VX a xs with
     |some (c,ys)=>if LQ=fK/\o.dst=D d/\isM em=U/\isM e=J/\iR (σ.bx ((o2.dst.getD 0)*64))=U then
      D (c,((σ.setD o.dst (.one (.one .dead))).setB ((o2.dst.getD 0)*64) (.live (.lst e (.int .i64) ys J))).setD o2.dst (.one (.one (.ol ((o2.dst.getD 0)*64))))) else B
     |none=>B
    |_,_=>B
   |_,_,_=>B
  |_,_,_,_=>B
 |_,_=>B
def LS(σ:St)(o:Å):F (X×St):=
 match o.op with
 |.call c1=>match c1.callee,c1.args.toList with
  |.value f1,[x,y]=>match σ.ev f1,σ.ev x,σ.ev y with
   |.one (.one (.clo fG [])),.one (.one .nil),.one (.one (.d (.int .i64) n))=>match E.bw fG,E.T o.type with
    |some (U,.arr e (.arr sz .unit)),D ti=>match ti.ty with
     |some (.list a)=>if a.size=sz/\isM e=J/\iR (σ.bx ((o.dst.getD 0)*64))=U then
      D (Y (0<=n)&&Y (n<=1000000),(σ.setB ((o.dst.getD 0)*64) (.live (.lst e a [] J))).setD o.dst (.one (.one (.ol ((o.dst.getD 0)*64))))) else B
     |_=>B
    |_,_=>B
   |_,_,_=>B
  |_,_=>B
 |_=>B
def runK(σ:St)(o:Å)(k:St->F R):F R:=
 match LS E σ o with
 |some (c,σ')=>cond c (k σ') B
 |none=>run1 E J σ [] o k
def vA:I Å->St->(St->F R)->F R
 |[],σ,k=>k σ
 |[o],σ,k=>if nC E.N o then runK E σ o k else B
 |o::o2::os,σ,k=>if nC E.N o then match LO E σ o o2 with
   |some (c,σ')=>if nC E.N o2 then cond c (vA os σ' k) B else B
   |none=>runK E σ o λσ'=>vA (o2::os) σ' k
  else B
def DV(ops:È Å)(σ:St)(k:St->F R):F R:=if bare ops then vA E ops.toList σ k else B
end
def qF(o:Å):I Nat:=o.after.toList.filterMap λe=>if Region.binds .any e then D e.on else B
def sF(o:Å):Bool:=match o.op with
 |.nilCheck _|.fieldAddr _ _ _|.indexAddr _ _ _=>U
 |_=>J
def vB(o:Å):Bool:=match o.op with
 |.store _ _ _=>U
 |_=>J
def jIa(cls:I H)(o:Å):Nat:=(qF o).foldl (λm j=>m|||(2^j|||cls.getD j 0)) 0
def DW:I Å->I H->I H
 |[],cls=>cls
 |o::os,cls=>DW os (cls++[jIa cls o])
def DX(cl:I H)(i j:H):Bool:=i==j||(cl.getD i 0).testBit j||(cl.getD j 0).testBit i
def jJH(a b:I H):Bool:=a.all λk=> !b.contains k
def HO(ops:È Å)(cl:I H)(A:I (I H))(i:H)(oi:Å)(j:H)(oj:Å):Bool:=
 (match oj.dst with
 |some t=>i==j||(oi.dst != D t&&(!(oi.looksAt ops).contains t||DX cl i j))
 |none=>U)&&(A.isEmpty||DX cl i j||jJH (A.getD i []) (A.getD j []))
def V3(ops:È Å)(cl:I H)(A:I (I H)):Bool:=
 ops.toList.zipIdx.all λx=>(qF x.1).all (λj=>Y (j<x.2))&&(A.isEmpty || !sF x.1||(A.getD x.2 []).isEmpty)&&ops.toList.zipIdx.all λy=>HO ops cl A x.2 x.1 y.2 y.1
def vC(ops:È Å)(cl:I H)(A:I (I H))(i:H)(oi:Å):I Nat:=
 if A.isEmpty then [] else ops.toList.zipIdx.flatMap λx=>if DX cl i x.2||(sF oi&&vB x.1) then [] else A.getD x.2 []
def kK(M:I H)(rd:H->BS)(k:H):BS:=if M.contains k then .gone else rd k
noncomputable section
variable(E:Env){R:Type}
def runD(M Ai:I H)(σ:St)(o:Å)(k:St->F R):F R:=pre σ o λσ=>
 match eM E σ.ev (kK M σ.bx) [] o with
 |none=>B
 |some (.val chk s u)=>if u.all (λe=>Ai.contains e.1) then cond chk (k ((σ.upd u).setD o.dst s)) B else B
 |some (.call f args mk)=>E.C f args R λret=>match mk ret with
  |some (s,u)=>if u.all (λe=>Ai.contains e.1) then k ((σ.upd u).setD o.dst s) else B
  |none=>B
def LU(σ:St)(o:Å)(k:St->F R):F R:=k (σ.setD o.dst .und)
def DY(ops:È Å)(M Ai:I H)(σ:St)(o:Å)(k:St->F R):F R:=
 match o.guard with
 |none=>runD E M Ai σ o k
 |some _=>match p9 ops o with
  |some (s,wn)=>match σ.sl s with
   |.one (.one (.d .bool v))=>
    cond v (cond wn (runD E M Ai (σ.setS s (.one (.one (.d .bool U)))) o k) (LU (σ.setS s (.one (.one (.d .bool U)))) o k))
     (cond wn (LU (σ.setS s (.one (.one (.d .bool J)))) o k) (runD E M Ai (σ.setS s (.one (.one (.d .bool J)))) o k))
   |.und=>LU σ o k
   |_=>B
  |none=>B
def BT(ops:È Å)(cl:I H)(A:I (I H)):I Å->H->St->(St->F R)->F R
 |[],_,σ,k=>k σ
 |o::os,i,σ,k=>if nC E.N o then DY E ops (vC ops cl A i o) (A.getD i []) σ o λσ'=>BT ops cl A os (i+1) σ' k else B
def DZ(ops:È Å)(A:I (I H))(σ:St)(k:St->F R):F R:=
 if V3 ops (DW ops.toList []) A then BT E ops (DW ops.toList []) A ops.toList 0 σ k else B
end
def jL(σ:St):Loc->Leaf
 |.slot i=>match σ.sl i with
  |.one (.one x)=>x
  |_=> .dead
 |.cell k c=>match σ.bx k with
  |.live (.cell ls J)=>ls.getD c .dead
  |_=> .dead
def D0(K:Keep)(l:Loc):F Nat:=(K.lists.find? λx=>x.locs.contains l).map (·.name)
def qG(K:Keep)(loc:F Loc):Leaf->Leaf
 |.dead=> .dead
 |.nil=>match loc.bind (D0 K) with
  |some n=> .ol n
  |none=> .nil
 |.d t v=> .d t v
 |.ol k=>if K.boxes.contains k then .ol k else match loc.bind (D0 K) with
  |some n=> .ol n
  |none=> .dead
 |.bp k c=>if K.boxes.contains k then .bp k c else .dead
 |.ep _ _ _=> .dead
 |.tl k i=>if K.boxes.contains k then .tl k i else .dead
 |.hd k i=>if K.boxes.contains k then .hd k i else .dead
 |.ip ls=> .ip ls
 |.clo f caps=> .clo f caps
 |.clr f ks=>if ks.all (λk=>K.boxes.contains k) then .clr f ks else .dead
def HP(K:Keep)(i:H):Slot->Cel
 |.one (.one x)=> .one (qG K (D (.slot i)) x)
 |.one (.st ls)=> .st (ls.map (qG K B))
 |.one (.av n a xs)=> .av n a xs
 |_=> .one .dead
def xh(K:Keep)(k:H):BS->BS
 |.live (.cell ls frz)=> .live (.cell (ls.zipIdx.map λx=>qG K (if frz then B else D (.cell k x.2)) x.1) frz)
 |.live (.arr n a xs)=> .live (.arr n a xs)
 |.live (.lst e a xs frz)=> .live (.lst e a xs frz)
 |_=> .gone
def BU(σ:St)(e:H)(a:Ty)(l:Loc):F (F H×I a.den×X):=
 match jL σ l with
 |.nil=>if isM e then B else D (B,[],J)
 |.ol k=>match σ.bx k with
  |.live (.lst e' a' xs frz)=>match (TV.mk (.list a') xs).to (.list a) with
   |some dE=>if e'=e then D (D k,dE,frz) else B
   |none=>B
  |_=>B
 |_=>B
def yX(σ:St)(e:H)(a:Ty):I Loc->F (F H×I a.den×X)
 |[]=>B
 |[l]=>BU σ e a l
 |l::ls=>match BU σ e a l,yX σ e a ls with
  |some (k,xs,f),D (k',_,_)=>if k=k' then D (k,xs,f) else B
  |_,_=>B
def BV(np:H)(σ:St)(bs:I H):I p8->F (I Item×I H)
 |[]=>D ([],[])
 |x::r=>match yX σ x.e x.a x.locs,BV np σ bs r with
  |some (k,xs,f),D (is,ks)=>match k with
   |none=>D (.b (.live (.lst x.e x.a xs x.frz))::is,ks)
   |some k=>if ks.contains k||bs.contains k||parK np k then B else D (.b (.live (.lst x.e x.a xs f))::is,k::ks)
  |_,_=>B
def xi(np:H):I p8->St->F St
 |[],σ=>D σ
 |x::r,σ=>if x.frz then match x.locs with
   |l::_=>match jL σ l with
    |.ol k=>match σ.bx k with
     |.live (.lst e a xs _)=>if parK np k||isM e then B else xi np r (σ.setB k (.live (.lst e a xs U)))
     |_=>B
    |_=>xi np r σ
   |[]=>xi np r σ
  else xi np r σ
def Keep.ok(np:H)(K:Keep):Bool:=pL (K.lists.map (·.name))&&K.lists.all λx=> !K.boxes.contains x.name && !parK np x.name
def yY(σ:St)(l:Loc)(x:Leaf):St:=
 match l with
 |.slot i=>match σ.sl i with
  |.one (.one _)=>σ.setS i (.one (.one x))
  |_=>σ
 |.cell k c=>match σ.bx k with
  |.live (.cell ls J)=>σ.setB k (.live (.cell (ls.set c x) J))
  |_=>σ
def BW(np:H):I (Loc×Ty)->St->F St
 |[],σ=>D σ
 |(l,t)::r,σ=>match kW (λk=>if parK np k then .gone else mskM σ.bx k) t (jL σ l) with
  |some (v,u)=>BW np r (yY (σ.upd u) l (.d t v))
  |none=>B
def LV(np:H)(K:Keep)(σ:St):F Snap:=
 match BV np σ K.boxes K.lists with
 |some (is,_)=>if K.ok np then D ((K.slots.map λi=> .s (HP K i (σ.sl i)))++((K.boxes.map λk=> .b (xh K k (σ.bx k)))++is)) else B
 |none=>B
def kX(np:H)(K:Keep)(σ:St):F Snap:=
 match BW np K.datas σ with
 |some σ1=>match xi np K.lists σ1 with
  |some σ2=>LV np K σ2
  |none=>B
 |none=>B
def yZ:F Item->Slot
 |some (.s c)=> .one c
 |_=> .one (.one .dead)
def xj:F Item->BS
 |some (.b b)=>b
 |_=> .gone
def dz(np:H)(K:Keep)(s:Snap):St where
 sl:=λi=>match K.slots.idxOf? i with
  |some j=>yZ s[j]?
  |none=> .one (.one .dead)
 bx:=λn=>match K.boxes.idxOf? n with
  |some j=>xj s[K.slots.length+j]?
  |none=>match (K.lists.map (·.name)).idxOf? n with
   |some j=>xj s[K.slots.length+K.boxes.length+j]?
   |none=>if parK np n then .gone else .free
def rowL(a:Ty)(m:H)(xs:I a.den):I Leaf:=(Ñ m).flatMap λi=>(scat a (Ê xs i a.dflt)).map TV.leaf
def BX(rd:H->BS)(a:Ty):H->I Leaf->F (I a.den×Ups)
 |0,[]=>D ([],[])
 |0,_::_=>B
 |n+1,ls=>match gath rd a ls with
  |some (x,r,u)=>match BX rd a n r with
   |some (xs,v)=>D (x::xs,u++v)
   |none=>B
  |none=>B
def BZ(np:H)(σ:St):Gh->F (X×St)
 |.ex k c n m=>match σ.bx k with
  |.live (.cell ls J)=>match ls.getD c .dead with
   |.ol b=>match σ.bx b with
    |.live (.lst e a xs J)=>if isM e||parK np b||b==n||b==k || !iR (σ.bx n) then B else
     D (â xs.length m,(((σ.setB b .gone).setB n (.live (.row e a m (rowL a m xs)))).setB k (.live (.cell (ls.set c (.ol n)) J))))
    |_=>B
   |_=>B
  |_=>B
 |.rl k=>match σ.bx k with
  |.live (.row e a n ls)=>match BX (λj=>if parK np j then .gone else mskM σ.bx j) a n ls with
   |some (xs,u)=>if u.any (λy=>y.1==k) then B else D (U,σ.upd (u++[(k,.live (.lst e a xs J))]))
   |none=>B
  |_=>D (U,σ)
 |.se k=>match σ.bx k with
  |.live (.cell ls J)=>if parK np k then B else match tvs (λj=>if parK np j then .gone else mskM σ.bx j) ls with
   |some (xs,u)=>if u.any (λy=>y.1==k) then B else D (U,σ.upd (u++[(k,.live (.cell (xs.map TV.leaf) U))]))
   |none=>B
  |_=>B
 |.da l=>match BW np l σ with
  |some σ'=>D (U,σ')
  |none=>B
def zA{R:Type}(np:H):I Gh->St->(St->F R)->F R
 |[],σ,k=>k σ
 |g::gs,σ,k=>match BZ np σ g with
  |some (b,σ')=>cond b (zA np gs σ' k) B
  |none=>B
def xk{R:Type}(f:H->St->(Ex->St->F R)->F R):H->H->St->(Ex->St->F R)->F R
 |0,_,_,_=>B
 |n+1,i,σ,k=>f i σ λe σ'=>match e with
  |.normal=>xk f n (i+1) σ' k
  |e=>k e σ'
def gj:H->Ó->I (H×Ó)
 |b,.seq x y=>gj b x++gj b y
 |b,.cond _ x y=>gj b x++gj b y
 |_,.block id c=>gj id c
 |b,.loop c=>(b,c)::gj b c
 |b,.rangeFunc g ps x y=>[(b,.rangeFunc g ps x y)]
 |b,.scope c=>gj b c
 |_,_=>[]
def St.know(f:X)(σ:St)(c:Ì)(v:X):St:=match f,c with
 |true,.tmp s=>σ.setS s (.one (.one (.d .bool v)))
 |_,_=>σ
theorem V4{f:X}{σ:St}{c:Ì}{v:X}(h:σ.ev c = .one (.one (.d .bool v))):σ.know f c v=σ:=by
 unfold St.know;split
 .rename_i s;have h:σ.sl s = .one (.one (.d .bool v)):=h
  have e:(λj=>if j=s then Slot.one (.one (.d .bool v)) else σ.sl j)=σ.sl:=by
   funext j
   by_cases hj:j=s
   .subst hj;rw[if_pos rfl,h]
   .rw[if_neg hj]
  show { σ with sl:=_ }=σ;rw[e]
 .rfl
def V5(o:Å):Bool:=
 match o.op with
 |.defer _=>J
 |_=>U
def dZ:Ó->X
 |.skip=>U
 |.region _ ops _=>ops.toList.all V5
 |.seq x y=>dZ x&&dZ y
 |.cond _ x y=>dZ x&&dZ y
 |.block _ c=>dZ c
 |.scope c=>dZ c
 |.label _=>U
 |.exit _=>U
 |.ret=>U
 |_=>J
def xl:Ó->I H
 |.region _ ops _=>ops.toList.filterMap (·.dst)
 |.seq x y=>xl x++xl y
 |.cond _ x y=>xl x++xl y
 |.block _ c=>xl c
 |.scope c=>xl c
 |_=>[]
def B0(ps:È H)(x y:Ó)(i:H):Bool:= !(ps.toList.contains i) && !((xl x++xl y).contains i)
def pinK(ps:È H)(x y:Ó)(K:Keep):Bool:=K.slots.all (B0 ps x y)
def Env.rnd(E:Env)(ps:È H)(x y:Ó):Env:={ E with N:=⟨E.N.n,B0 ps x y⟩ }
def isRf:Ó->X
 |.rangeFunc .. => U
 |_=>J
def D1(kd:X)(n:H):Int:=cond kd 1 (Ï n)
def LW(kd:X)(n:H)(c:Ä):Bool:=cond kd (Y (Ï n<=c)) (Y (c<=0))
def itOk(kd:X)(n:H)(c:Ä):Bool:=cond kd (Y (1<=c)) (Y (c<=Ï n))
def D2(kd:X)(c:Ä):Int:=cond kd (c+1) (c-1)
def chgV:(t:Ty)->I t.den->Ä->I TV
 |.pair (.int .i64) (.pair (.int .i64) (.int .i64)),xs,c=>[⟨.pair (.int .i64) (.pair (.int .i64) (.int .i64)),
  ((Ê xs c.toNat ((0:Ä),((0:Ä),(0:Ä)))).1,((Ê xs (c-1).toNat ((0:Ä),((0:Ä),(0:Ä)))).2.2,(Ê xs c.toNat ((0:Ä),((0:Ä),(0:Ä)))).2.2))⟩]
 |_,_,_=>[]
def D3(kd:X)(t:Ty)(xs:I t.den)(c:Ä):I TV:=cond kd (chgV t xs c) [⟨.int .i64,c-1⟩,⟨t,Ê xs (c-1).toNat t.dflt⟩]
def setL(l:I (H×TV))(σ:St):St:=l.foldl (λσ q=>σ.setS q.1 (.one (qA q.2.t q.2.v))) σ
def sG:I H->X
 |[]=>U
 |x::r=> !(r.contains x)&&sG r
abbrev segT:Ty:= .pair (.int .i64) (.pair (.int .i64) (.int .i64))
def rfK(E:Env)(b f:H)(t:Ty)(ps:È H)(x y:Ó):F Bool:=match E.bw f with
 |some q=>cond (Y (q.2=t)&&(cond q.1 (Y (t=segT)) U&&(Y (ps.toList.length=cond q.1 1 2)&&(sG ps.toList&&(ps.toList.all (λp=>Y (p<E.N.n))&&(dZ x&&(dZ y&&pinK ps x y (E.keep b)))))))) (D q.1) B
 |none=>B
def vD{α β:Type}(G:α->β->F β):I (α×β)->F (I (α×β))
 |[]=>D []
 |x::r=>(G x.1 x.2).bind λz=>(vD G r).bind λr'=>D ((x.1,z)::r')
def mo(s:Snap)(em:H)(v:Ty)(zs:I (Ä×v.den)):Snap:=s.dropLast++[.b (.live (.lst em (.pair (.int .i64) v) zs J))]
def xm(em:H)(v:Ty)(s:Snap):F (I (Ä×v.den)):=match s.getLast? with
 |some (.b (.live (.lst e a xs J)))=>if e=em then (TV.mk (.list a) xs).to (.list (.pair (.int .i64) v)) else B
 |_=>B
structure MrP where
 it:H
 d1:H
 c2:H
 d3:H
 b6:H
 ops:È Å
 rest:Ó
def jJI(o:Å):F (H×H):=match o.op,o.dst,o.guard with
 |.next (.tmp it) J,D d,B=>D (it,d)
 |_,_,_=>B
def fstO(o:Å):F (H×H):=match o.op,o.dst,o.guard with
 |.extract (.tmp d) 0,D c,B=>D (d,c)
 |_,_,_=>B
def entO(o:Å):F (H×H):=match o.op,o.dst,o.guard with
 |.entry (.tmp it),D d,B=>D (it,d)
 |_,_,_=>B
def mrP(b:H):Ó->F MrP
 |.seq (.region _ ops J) (.seq (.cond (.tmp c) .skip (.exit b')) (.block b6 (.seq (.region _ D4 J) rest)))=>match ops.toList,D4.toList with
  |[o1,o2],o3::_=>match jJI o1,fstO o2,entO o3 with
   |some (it,d1),D (d1',c2),D (it',d3)=>if d1'=d1/\it'=it/\c=c2/\b'=b then D ⟨it,d1,c2,d3,b6,D4,rest⟩ else B
   |_,_,_=>B
  |_,_=>B
 |_=>B
def D5(E:Env):Ó->Ó->X
 |.region _ _ J,.block b (.loop _)=>(E.mr b).isSome
 |_,_=>J
def Env.mrE(E:Env)(it m:H):Env:={ E with N:=⟨E.N.n,λi=>â i it||Nat.beq i m⟩,mr:=λ_=>B }
noncomputable section
variable(E:Env){R:Type}
def D6(x y:Ó)(σ:St)(k:Ex->St->F R):F R:=cond E.nz B B
end
def fP{R:Type}:Env->H->Ó->St->(Ex->St->F R)->F R
 |E,_,.skip,σ,k=>k .normal σ
 |E,_,.region id ops J,σ,k=>zA E.np (E.pre id) σ λσ=>cond (E.ks id) (DV E ops σ λσ'=>k .normal σ') (rJ E ops σ λσ'=>k .normal σ')
 |E,_,.region id ops U,σ,k=>zA E.np (E.pre id) σ λσ=>DZ E ops (E.dw id) σ λσ'=>k .normal σ'
 |E,b,.seq x y,σ,k=>cond (D5 E x y) (D6 E x y σ k) (fP E b x σ λe σ'=>match e with
  |.normal=>fP E b y σ' k
  |e=>k e σ')
 |E,b,.cond c x y,σ,k=>match σ.ev c with
  |.one (.one (.d .bool v))=>cond v (fP E b x (σ.know E.sc c U) k) (fP E b y (σ.know E.sc c J) k)
  |_=>B
 |E,_,.block id c,σ,k=>fP E id c σ λe σ'=>match e with
  |.exit i=>if i=id then k .normal σ' else k (.exit i) σ'
  |e=>k e σ'
 |E,b,.loop c,σ,k=>cond (isRf c) B (cond (Nat.blt 0 (E.un b)) (xk (λi σ k=>fP (E.offR i) b c σ k) (E.un b) 0 σ k) (match kX E.np (E.keep b) σ with
  |some s=>E.L b s R λe s'=>k e (dz E.np (E.keepX b e) s')
  |none=>B))
 |E,b,.rangeFunc g ps x y,σ,k=>match σ.ev g with
  |.one (.one (.clo f [.p [⟨.list t,xs⟩]]))=>match rfK E b f t ps x y with
   |some kd=>match kX E.np (E.keep b) σ with
    |some s=>E.L b (.s (.one (.d (.int .i64) (D1 kd (É xs))))::s) R λe s'=>k e (dz E.np (E.keepX b e) s')
    |none=>B
   |none=>B
  |_=>B
 |E,b,.scope c,σ,k=>fP E b c σ k
 |E,_,.label _,σ,k=>k .normal σ
 |E,_,.exit i,σ,k=>k (.exit i) σ
 |E,_,.ret,σ,k=>k .ret σ
 |_,_,_,_,_=>B
noncomputable section
variable(E:Env){R:Type}
def zB(b:H)(c:Ó)(s:Snap):F (Snap ⊕ Ex×Snap):=
 fP E b c (dz E.np (E.keep b) s) λe σ=>match e with
  |.normal=>match kX E.np (E.keep b) σ with
   |some s'=>D (.inl s')
   |none=>B
  |e=>match kX E.np (E.keepX b e) σ with
   |some s'=>D (.inr (e,s'))
   |none=>B
def D7(b:H)(g:Ì)(ps:È H)(x y:Ó)(s:Snap)(K:F (I Item)->Ex->St->F R):F R:=
 match s with
 |.s (.one (.d (.int .i64) n))::s0=>match (dz E.np (E.keep b) s0).ev g with
  |.one (.one (.clo f [.p [⟨.list t,xs⟩]]))=>match rfK E b f t ps x y with
   |some kd=>cond (LW kd (É xs) n) (K B .normal (dz E.np (E.keep b) s0)) (cond (itOk kd (É xs) n)
    (fP (E.rnd ps x y) 0 x (setL (ps.toList.zip (D3 kd t xs n)) (dz E.np (E.keep b) s0)) λe σ=>match e with
     |.normal=>fP (E.rnd ps x y) 0 y σ (K (D [.s (.one (.d (.int .i64) (D2 kd n)))]))
     |_=>B) B)
   |none=>B
  |_=>B
 |_=>B
def xn(b:H)(g:Ì)(ps:È H)(x y:Ó)(s:Snap):F (Snap ⊕ Ex×Snap):=
 D7 E b g ps x y s λp e σ=>match p,e with
  |some q,.normal=>match kX E.np (E.keep b) σ with
   |some s'=>D (.inl (q++s'))
   |none=>B
  |_,e=>cond (pinK ps x y (E.keepX b e)) (match kX E.np (E.keepX b e) σ with
   |some s'=>D (.inr (e,s'))
   |none=>B) B
def mrNx(b6:H):Ex->X
 |.normal=>U
 |.exit i=>â i b6
 |.ret=>J
def HQ(b:H)(p:MrP)(m:H)(s:Snap)(v:Ty)(q:Ä)(z:v.den)(k:Snap->F R):F R:=
 qE (E.mrE p.it m) p.ops.toList.tail ((dz E.np (E.keep b) s).setD (D p.d3) (.tup [.one (.d (.int .i64) q),qA v z])) λσ1=>
  fP (E.mrE p.it m) p.b6 p.rest σ1 λe σ2=>cond (mrNx p.b6 e) (match kX E.np (E.keep b) σ2 with
   |some s'=>k s'
   |none=>B) B
def D8(b:H):Ó->Snap->F (Snap ⊕ Ex×Snap)
 |.rangeFunc g ps x y,s=>xn E.off0 b g ps x y s
 |c,s=>zB E.off0 b c s
end
def loopN{α β:Type}(f:α->F (α ⊕ β)):H->α->F β
 |0,_=>B
 |n+1,s=>match f s with
  |some (.inl s')=>loopN f n s'
  |some (.inr x)=>D x
  |none=>B
def HR(i:H):Arg->Cel
 |.v x=>qA x.t x.v
 |.ref _=> .one (.bp (i*64) 0)
 |.rl _ _=> .one (.ol (i*64))
 |.ip ls=> .one (.ip ls)
 |.clo f caps=> .one (.clo f caps)
 |.mv _ _=> .one (.ol (i*64+63))
def ob:F Arg->BS
 |some (.ref ls)=> .live (.cell (ls.map TV.leaf) J)
 |some (.rl e ⟨.list a,xs⟩)=> .live (.lst e a xs J)
 |_=> .free
def vE:F Arg->BS
 |some (.mv e ⟨.list a,xs⟩)=> .live (.lst e a xs J)
 |_=> .free
def St.init(args:I Arg):St where
 sl:=λi=>match args[i]? with
  |some a=> .one (HR i a)
  |none=> .one (.one .dead)
 bx:=λn=>if n%64=0 then ob args[n/64]? else if n%64=63 then vE args[n/64]? else .free
def soOf(rd:H->BS):I SoK->I Leaf->F (I RL×I H×Ups)
 |[],[]=>D ([],[],[])
 |.d t::ks,l::ls=>match kW rd t l,soOf rd ks ls with
  |some (x,u),D (r,n,v)=>cond t.leafy (D (.d ⟨t,x⟩::r,n,u++v)) B
  |_,_=>B
 |.own e a::ks,.nil::ls=>match soOf rd ks ls with
  |some (r,n,v)=>cond (isM e) B (D (.own e ⟨.list a,[]⟩::r,n,v))
  |none=>B
 |.own e _::ks,.ol k::ls=>match rd k with
  |.live (.lst e' b xs J)=>cond (â e' e) (match soOf rd ks ls with
   |some (r,n,v)=>D (.own e' ⟨.list b,xs⟩::r,k::n,v)
   |none=>B) B
  |_=>B
 |_,_=>B
def rvOf(E:Env)(rd:H->BS)(own:X)(t:H)(c:Cel):F (RV×I H×Ups):=
 match c with
 |.one (.bp k 0)=>match rd k with
  |.live (.cell ls J)=>match tvs rd ls with
   |some (xs,u)=>D (.box xs,[k],u)
   |none=>B
  |_=>B
 |.one (.clo f caps)=>D (.clo f caps,[],[])
 |c=>match E.T t with
  |some ti=>match ti.ty with
   |some ty=>match own with
    |true=>match c,ty with
     |.st ls,_=>match soOf rd E.so ls with
      |some (r,n,v)=>D (.so r,n,v)
      |none=>B
     |.one .nil,.list a=>D (.own ti.elem ⟨.list a,[]⟩,[],[])
     |.one (.ol k),_=>match rd k with
      |.live (.lst e a xs J)=>D (.own e ⟨.list a,xs⟩,[k],[])
      |_=>B
     |_,_=>B
    |false=>match rG rd ty c with
     |some (x,u)=>D (.v ⟨ty,x⟩,[],u)
     |none=>B
   |none=>B
  |none=>B
def zC(E:Env)(σ:St):å->F Cel
 |.tmp t=>match σ.sl t with
  |.one c=>D c
  |_=>B
 |.cell a t=>match E.T t,σ.sl a with
  |some ti,.one (.one x)=>qB (mskM σ.bx) ti x
  |_,_=>B
def rK(E:Env)(σ:St):I X->I å->I H->F (I RV×I H×Ups)
 |_,[],_=>D ([],[],[])
 |os,r::rs,ts=>match zC E σ r with
  |some c=>match rvOf E (λk=>if parK E.np k then .gone else mskM σ.bx k) (os.headD J) (ts.headD 0) c with
   |some (v,ks,u)=>match rK E σ os.tail rs ts.tail with
    |some (vs,LX,u')=>D (v::vs,ks++LX,u++u')
    |none=>B
   |none=>B
  |none=>B
def outs(np:H)(σ:St):H->I Arg->F (I Out×Ups)
 |_,[]=>D ([],[])
 |i,a::as=>match outs np σ (i+1) as with
  |some (os,u)=>match a with
   |.ref _=>match σ.bx (i*64) with
    |.live (.cell ls J)=>match tvs (λk=>if parK np k then .gone else mskM σ.bx k) ls with
     |some (xs,u')=>D (.ref xs::os,u'++u)
     |none=>B
    |_=>B
   |.rl e x=>match σ.bx (i*64) with
    |.live (.lst e' a xs J)=>if e'=e/\x.t = .list a then D (.rl ⟨.list a,xs⟩::os,u) else B
    |_=>B
   |_=>D (os,u)
  |none=>B
def hdOf(σ:St):Leaf->F H
 |.ol 0=>match σ.bx 0 with
  |.live (.lst e _ xs J)=>if isM e then B else D xs.length
  |_=>B
 |.hd 0 i=>match σ.bx 0 with
  |.live (.lst _ _ _ J)=>D i
  |_=>B
 |_=>B
def V6(E:Env)(fn:Func)(args:I Arg)(σ:St):F Ret:=
 match args,fn.results.toList with
 |.rl _ _::_,[r]=>match zC E σ r,outs E.np σ 0 args with
  |some (.one l),D (os,_)=>match hdOf σ l with
   |some m=>D ⟨[.hd m],os⟩
   |none=>B
  |_,_=>B
 |_,_=>B
def nilV(E:Env)(σ:St)(rs:I å)(vs:I RV):F (I RV):=
 if E.ns.isEmpty then D vs else match rs,vs with
  |[r],[.v x]=>match zC E σ r with
   |some (.st ls)=>if E.ns.all (λi=>match ls[i]? with|some .nil=>U|_=>J) then D [.vn x E.ns] else B
   |_=>B
  |_,_=>B
def vF(ns:I H):Leaf->X
 |.dead|.nil|.d _ _=>U
 |.ol k|.bp k _=>ns.contains k
 |_=>J
def LY(ns:I H):Cel->X
 |.one l=>vF ns l
 |.st ls=>ls.all (vF ns)
 |.av _ _ _=>U
def jGr(ns:I H):BS->X
 |.live (.cell ls _)=>ls.all (vF ns)
 |.live (.lst _ _ _ _)=>U
 |.live (.arr _ _ _)=>U
 |.live (.row _ _ _ ls)=>ls.all (vF ns)
 |_=>U
def D9(E:Env)(σ:St):I å->F (I Cel)
 |[]=>D []
 |r::rs=>match zC E σ r,D9 E σ rs with
  |some c,D cs=>D (c::cs)
  |_,_=>B
def LZ:Arg->X
 |.ref _=>U
 |.mv _ _=>U
 |.rl _ _=>U
 |_=>J
def V7(E:Env)(fn:Func)(args:I Arg)(σ:St):F Ret:=
 match D9 E σ fn.results.toList with
 |some cs=>if pL E.rn&&(E.rn.all (λk=> !parK E.np k&&jGr E.rn (σ.bx k))&&(cs.all (LY E.rn)&&args.all (λa=> !LZ a))) then
  D ⟨[.raw E.rn (cs.map .s++E.rn.map λk=> .b (σ.bx k))],[]⟩ else B
 |none=>B
def vG(E:Env)(fn:Func)(args:I Arg)(σ:St):F Ret:=
 if E.rw then V7 E fn args σ else
 if E.hd then V6 E fn args σ else
 match rK E σ E.ro fn.results.toList fn.resultTypes.toList,outs E.np σ 0 args with
 |some (vs,ks,u),D (os,u')=>
  if pL ks&&(u++u').all (λe=> !ks.contains e.1) then match nilV E σ fn.results.toList vs with
   |some mq=>D ⟨mq,os⟩
   |none=>B
  else B
 |_,_=>B
def xo(E:Env){R:Type}(fn:Func)(args:I Arg)(k:Ret->F R):F R:=
 if args.length=E.np then match fn.body with
 |some c=>fP E 0 c (St.init args) λe σ=>match e with
  |.exit _=>B
  |_=>match vG E fn args σ with
   |some r=>k r
   |none=>B
 |none=>B
 else B
def All2{α β:Type}(R:α->β->Prop):I α->I β->Prop
 |[],[]=>True
 |a::as,b::bs=>R a b/\All2 R as bs
 |_,_=>Ù
section All2
variable{α β γ:Type}{R R':α->β->Prop}
theorem All2.length:∀{as:I α}{bs:I β},All2 R as bs->as.length=bs.length
 |[],[],_=>rfl
 |_::_,_::_,h=>by simp[All2.length h.2]
 |[],_::_,h=>h.elim
 |_::_,[],h=>h.elim
theorem All2.mono(hr:∀a b,R a b->R' a b):∀{as:I α}{bs:I β},All2 R as bs->All2 R' as bs
 |[],[],_=>trivial
 |_::_,_::_,h=>⟨hr _ _ h.1,All2.mono hr h.2⟩
 |[],_::_,h=>h.elim
 |_::_,[],h=>h.elim
theorem All2.get:∀{as:I α}{bs:I β},All2 R as bs->∀(i:H)(a:α),as[i]? = D a->∃b,bs[i]? = D b/\R a b
 |[],[],_,i,a,h=>by simp at h
 |a::as,b::bs,h,0,a',he=>by simp at he;subst he;exact⟨b,ae,h.1⟩
 |a::as,b::bs,h,i+1,a',he=>by
  obtain⟨b',hb,hr⟩:=All2.get h.2 i a' (by simpa using he)
  simp_all
 |[],_::_,h,_,_,_=>h.elim
 |_::_,[],h,_,_,_=>h.elim
theorem All2.append:∀{as:I α}{bs:I β}{HS:I α}{V8:I β},All2 R as bs->All2 R HS V8->All2 R (as++HS) (bs++V8)
 |[],[],_,_,_,h'=>h'
 |_::_,_::_,_,_,h,h'=>⟨h.1,All2.append h.2 h'⟩
 |[],_::_,_,_,h,_=>h.elim
 |_::_,[],_,_,h,_=>h.elim
theorem All2.take:∀{as:I α}{bs:I β},All2 R as bs->∀n,All2 R (as.take n) (bs.take n)
 |[],[],_,n=>by simp[All2]
 |_::_,_::_,_,0=>by simp[All2]
 |_::_,_::_,h,n+1=>⟨h.1,All2.take h.2 n⟩
 |[],_::_,h,_=>h.elim
 |_::_,[],h,_=>h.elim
theorem All2.drop:∀{as:I α}{bs:I β},All2 R as bs->∀n,All2 R (as.drop n) (bs.drop n)
 |[],[],_,n=>by simp[All2]
 |_::_,_::_,h,0=>h
 |_::_,_::_,h,n+1=>All2.drop h.2 n
 |[],_::_,h,_=>h.elim
 |_::_,[],h,_=>h.elim
theorem All2.set:∀{as:I α}{bs:I β},All2 R as bs->∀i a b,R a b->All2 R (as.set i a) (bs.set i b)
 |[],[],_,i,_,_,_=>by simp[All2]
 |_::_,_::_,h,0,_,_,hr=>⟨hr,h.2⟩
 |_::_,_::_,h,i+1,_,_,hr=>⟨h.1,All2.set h.2 i _ _ hr⟩
 |[],_::_,h,_,_,_,_=>h.elim
 |_::_,[],h,_,_,_,_=>h.elim
theorem All2.map_left{f:γ->α}:∀{cs:I γ}{bs:I β},All2 R (cs.map f) bs↔All2 (λc b=>R (f c) b) cs bs
 |[],[]=>Iff.rfl
 |_::_,_::_=>and_congr_right λ_=>All2.map_left
 |[],_::_=>Iff.rfl
 |_::_,[]=>Iff.rfl
theorem All2.mem_right:∀{as:I α}{bs:I β},All2 R as bs->∀b∈bs,∃a∈as,R a b
 |[],[],_,b,hb=>by simp at hb
 |a::as,b::bs,h,b',hb=>by
  rcases jb.1 hb with rfl|hb
  .exact⟨a,ae,h.1⟩
  .obtain⟨a',ha,hr⟩:=All2.mem_right h.2 b' hb;grind
 |[],_::_,h,_,_=>h.elim
 |_::_,[],h,_,_=>h.elim
end All2
theorem HT{α β γ:Type}{R:α->β->Prop}{R':γ->β->Prop}{ls:I α}{xs:I γ}{l:I β}(h:All2 R ls (l.take ls.length))(h':All2 R' xs (l.take ls.length)):xs.length=ls.length:=
 h'.length.trans h.length.symm
def One(u:O):Prop:=u.oneCell'=U
abbrev aX:=H->H->Prop
def Lies(S:aX)(w:À)(g o:H)(cs:I O):Prop:=
 ∀j v,cs[j]? = D v->S g (o+j)/\w.cell? ⟨g,o+j,B⟩=D v
def Rep(S:aX)(w:À):(t:Ty)->t.den->I O->Prop
 |.int k,n,cs=>cs=[.int k n]
 |.bool,b,cs=>cs=[.bool b]
 |.str,s,cs=>cs=[.string s]
 |.unit,_,cs=>cs=[]
 |.wrap a,v,cs=>Rep S w a v cs
 |.pair a b,v,cs=>∃c1 c2,cs=c1++c2/\Rep S w a v.1 c1/\Rep S w b v.2 c2
 |.list a,xs,cs=>∃ad cap,cs=[.slice ad (É xs) cap]/\É xs<=cap/\cap<=maxLen/\(ad=B->cap=0)/\
  ∀b,ad=D b->(xs≠[]->b.spot=B)/\∃css,All2 (λx c=>Rep S w a x c) xs css/\Lies S w b.block b.off css.flatten
 |.arr n a,xs,cs=>É xs=n/\∃css,All2 (λx c=>Rep S w a x c) xs css/\cs=css.flatten
def dI(S:aX)(w:À)(S':aX)(w':À):Prop:=
 ∀g o,S g o->S' g o/\w'.cell? ⟨g,o,B⟩=w.cell? ⟨g,o,B⟩
theorem dI.refl(S:aX)(w:À):dI S w S w:=λ_ _ h=>⟨h,rfl⟩
theorem dI.trans{S S' V9:aX}{w w' zD:À}(h:dI S w S' w')(h':dI S' w' V9 zD):dI S w V9 zD:=
 λg o hs=>⟨(h' g o (h g o hs).1).1,((h' g o (h g o hs).1).2).trans (h g o hs).2⟩
theorem Lies.keep{S S':aX}{w w':À}(h:dI S w S' w'){g o:H}{cs:I O}(hl:Lies S w g o cs):Lies S' w' g o cs:=
 λj v hv=>let ⟨hs,hc⟩:=hl j v hv;⟨(h _ _ hs).1,(h _ _ hs).2.trans hc⟩
theorem Rep.keep{S S':aX}{w w':À}(h:dI S w S' w'):∀(t:Ty)(v:t.den)(cs:I O),Rep S w t v cs->Rep S' w' t v cs
 |.int _,_,_,hr=>hr
 |.bool,_,_,hr=>hr
 |.str,_,_,hr=>hr
 |.unit,_,_,hr=>hr
 |.wrap a,v,cs,hr=>Rep.keep h a v cs hr
 |.pair a b,_,_,⟨c1,c2,e,h1,h2⟩=>⟨c1,c2,e,Rep.keep h a _ _ h1,Rep.keep h b _ _ h2⟩
 |.list a,_,_,⟨ad,cap,e,h1,h2,h3,h4⟩=>⟨ad,cap,e,h1,h2,h3,λb hb=>by
  obtain⟨hs,css,ha,hl⟩:=h4 b hb;exact⟨hs,css,ha.mono (λx c hx=>Rep.keep h a x c hx),hl.keep h⟩⟩
 |.arr _ a,_,_,⟨hn,css,ha,e⟩=>⟨hn,css,ha.mono (λx c hx=>Rep.keep h a x c hx),e⟩
theorem All2.flatten_length{α:Type}{R:α->I O->Prop}{n:H}(hr:∀x c,R x c->c.length=n) :
  ∀{xs:I α}{css:I (I O)},All2 R xs css->css.flatten.length=xs.length*n
 |[],[],_=>ae
 |_::xs,c::css,h=>by
  have:=All2.flatten_length hr h.2;simp only[kq,Õ,hr _ _ h.1,this,jf,Nat.add_mul];omega
 |[],_::_,h=>h.elim
 |_::_,[],h=>h.elim
theorem Rep.length{S:aX}{w:À}:∀(t:Ty)(v:t.den)(cs:I O),Rep S w t v cs->cs.length=t.size
 |.int _,_,_,hr=>by rw[hr];rfl
 |.bool,_,_,hr=>by rw[hr];rfl
 |.str,_,_,hr=>by rw[hr];rfl
 |.unit,_,_,hr=>by rw[hr];rfl
 |.wrap a,v,cs,hr=>Rep.length a v cs hr
 |.pair a b,_,_,⟨c1,c2,e,h1,h2⟩=>by rw[e,Õ,Rep.length a _ _ h1,Rep.length b _ _ h2];rfl
 |.list _,_,_,⟨ad,cap,e,_⟩=>by rw[e];rfl
 |.arr n a,xs,cs,⟨hn,css,ha,e⟩=>by
  rw[e,All2.flatten_length (λx c hx=>Rep.length a x c hx) ha,hn];rfl
theorem Rep.one{S:aX}{w:À}:∀(t:Ty)(v:t.den)(cs:I O),Rep S w t v cs->∀u∈cs,One u
 |.int _,_,_,hr=>by rw[hr];intro u hu;simp at hu;subst hu;rfl
 |.bool,_,_,hr=>by rw[hr];intro u hu;simp at hu;subst hu;rfl
 |.str,_,_,hr=>by rw[hr];intro u hu;simp at hu;subst hu;rfl
 |.unit,_,_,hr=>by rw[hr];intro u hu;simp at hu
 |.wrap a,v,cs,hr=>Rep.one a v cs hr
 |.pair a b,_,_,⟨c1,c2,e,h1,h2⟩=>by
  rw[e];intro u hu;rcases ji.1 hu with hu|hu
  .exact Rep.one a _ _ h1 u hu
  .exact Rep.one b _ _ h2 u hu
 |.list _,_,_,⟨ad,cap,e,_⟩=>by rw[e];intro u hu;simp at hu;subst hu;rfl
 |.arr n a,xs,cs,⟨hn,css,ha,e⟩=>by
  rw[e];intro u hu;obtain⟨c,hc,B3⟩:=List.mem_flatten.1 hu;obtain⟨x,_,hx⟩:=ha.mem_right c hc;exact Rep.one a x c hx u B3
def kY(S:aX)(w:À):Cap->O->Prop
 |.v x,u=>x.t.leafy=U/\Rep S w x.t x.v [u]
 |.p ls,u=>∃g o cs,u = .pointer (D ⟨g,o,B⟩)/\All2 (λx z=>Rep S w x.t x.v [z]) ls cs/\Lies S w g o cs
def Ea(γ:H->O)(bx:H->BS)(k:H)(u:O):Prop:=
 bx k ≠ .free/\One u/\∀b,bx k = .live b->∃g,γ k = .pointer (D ⟨g,0,B⟩)/\u = .pointer (D ⟨g,0,B⟩)
def bF(S:aX)(w:À)(γ:H->O)(bx:H->BS):Leaf->O->Prop
 |.dead,_=>True
 |.nil,u=>u = .slice B 0 0
 |.d t v,u=>Rep S w t v [u]
 |.ol k,u=>bx k ≠ .free/\One u/\∀b,bx k = .live b->u=γ k
 |.bp k c,u=>bx k ≠ .free/\One u/\∀b,bx k = .live b->∃g,γ k = .pointer (D ⟨g,0,B⟩)/\u = .pointer (D ⟨g,c,B⟩)
 |.ep k i c,u=>bx k ≠ .free/\One u/\∀b,bx k = .live b->match b with
  |.lst e a xs _=>isM e=J/\i<xs.length/\∃g cap,γ k = .slice (D ⟨g,0,B⟩) xs.length cap/\u = .pointer (D ⟨g,i*a.size+c,B⟩)
  |.arr n a _=>i<n/\∃g,γ k = .pointer (D ⟨g,0,B⟩)/\u = .pointer (D ⟨g,i*a.size+c,B⟩)
  |.row e a n _=>isM e=J/\i<n/\∃g cap,γ k = .slice (D ⟨g,0,B⟩) n cap/\u = .pointer (D ⟨g,i*a.size+c,B⟩)
  |.cell _ _=>Ù
 |.tl k i,u=>bx k ≠ .free/\One u/\∀b,bx k = .live b->match b with
  |.lst e a xs _=>isM e=J/\i<=xs.length/\∃ad cap,γ k = .slice ad xs.length cap/\u = .slice (if cap=i then ad else ad.map (·.add (i*a.size))) (xs.length-i) (cap-i)
  |.arr _ _ _=>Ù
  |.row _ _ _ _=>Ù
  |.cell _ _=>Ù
 |.hd k i,u=>bx k ≠ .free/\One u/\∀b,bx k = .live b->match b with
  |.lst e _ xs _=>isM e=J/\i<=xs.length/\∃ad cap,γ k = .slice ad xs.length cap/\u = .slice ad i cap
  |.arr _ _ _=>Ù
  |.row _ _ _ _=>Ù
  |.cell _ _=>Ù
 |.ip ls,u=>∃g o cs,u = .pointer (D ⟨g,o,B⟩)/\All2 (λx z=>Rep S w x.t x.v [z]) ls cs/\Lies S w g o cs
 |.clo f caps,u=>∃cv:È O,u = .func (.func f) #[] cv/\All2 (kY S w) caps cv.toList
 |.clr f ks,u=>∃cv:È O,u = .func (.func f) #[] cv/\All2 (Ea γ bx) ks cv.toList
def bS(S:aX)(w:À)(γ:H->O)(bx:H->BS):Cel->O->Prop
 |.one x,u=>bF S w γ bx x u/\(x ≠ .dead->One u)
 |.st ls,u=>∃cs:È O,u = .agg cs/\All2 (bF S w γ bx) ls cs.toList/\∀x∈cs.toList,One x
 |.av n a xs,u=>∃cs:È O,u = .agg cs/\Rep S w (.arr n a) xs cs.toList
def jD(S:aX)(w:À)(γ:H->O)(bx:H->BS)(tm:H->O):Slot->O->Prop
 |.one c,u=>bS S w γ bx c u
 |.tup l,u=>∃vs:È O,u = .tuple vs/\All2 (bS S w γ bx) l vs.toList
 |.cnd s b c,u=>(tm s = .bool b/\bS S w γ bx c u)\/(tm s ≠ .bool b/\u=undef)
 |.und,u=>u=undef
def blk:O->F H
 |.pointer (D a)=>D a.block
 |.slice (D a) _ _=>D a.block
 |.map (D g)=>D g
 |_=>B
def lX:Ty->X
 |.arr _ _=>U
 |t=>t.agg
def VRep(S:aX)(w:À)(x:TV)(u:O):Prop:=
 Rep S w x.t x.v u.cells.toList/\(lX x.t=U->∃cs,u = .agg cs)/\(lX x.t=J->One u)
theorem VRep.keep{S S':aX}{w w':À}(h:dI S w S' w'){x:TV}{u:O}(hv:VRep S w x u):VRep S' w' x u:=
 ⟨Rep.keep h _ _ _ hv.1,hv.2⟩
def L0(es:È MapEntry)(clock:H):Prop:=MapKept.Stamped es clock/\es.toList.map (·.born)=Ñ clock
def Eb(S:aX)(w:À):(a:Ty)->I a.den->O->Prop
 |.pair k b,xs,u=>∃g es clock,u = .map (D g)/\w.heap[g]? = D (.map es clock)/\All2 (λ(x:k.den×b.den)(e:MapEntry)=>Rep S w k x.1 [e.key]/\VRep S w ⟨b,x.2⟩ e.val) xs es.toList/\L0 es clock
 |_,_,_=>Ù
def sH(S:aX)(w:À)(e:H)(a:Ty)(xs:I a.den)(u:O):Prop:=
 (isM e=J/\∃css,w.ownsRow 0 e a.size u xs.length css.flatten/\All2 (λx c=>Rep S w a x c) xs css)\/(isM e=U/\Eb S w a xs u)
theorem Eb.keep{S S':aX}{w w':À}(h:dI S w S' w'):∀{a:Ty}{xs:I a.den}{u:O},(∀g,blk u=D g->w'.heap[g]? = w.heap[g]?)->Eb S w a xs u->Eb S' w' a xs u
 |.pair k b,xs,u,hg,⟨g,es,clock,hu,hh,ha,hq⟩=>⟨g,es,clock,hu,(hg g (by rw[hu];rfl)).trans hh,ha.mono λx e hx=>⟨Rep.keep h _ _ _ hx.1,VRep.keep h hx.2⟩,hq⟩
theorem sH.keep{S S':aX}{w w':À}(h:dI S w S' w'){e:H}{a:Ty}{xs:I a.den}{u:O}(hg:∀g,blk u=D g->w'.heap[g]? = w.heap[g]?)(hl:sH S w e a xs u):sH S' w' e a xs u:=by
 rcases hl with⟨hm,css,h1,h2⟩|⟨hm,h1⟩
 .refine .inl ⟨hm,css,⟨h1.1,?_⟩,h2.mono (λx c hx=>Rep.keep h _ _ _ hx)⟩;rcases h1.2 with hn|⟨g,cap,cur,hv,ig,hh,rest⟩
  .exact .inl hn
  .exact .inr ⟨g,cap,cur,hv,ig,(hg g (by rw[hv];rfl)).trans hh,rest⟩
 .exact .inr ⟨hm,h1.keep h hg⟩
theorem sH.lt{S:aX}{w:À}{e:H}{a:Ty}{xs:I a.den}{u:O}(hl:sH S w e a xs u){g:H}(hg:blk u=D g):g<w.heap.size:=by
 rcases hl with⟨hm,css,h1,h2⟩|⟨hm,h1⟩
 .rcases h1.2 with⟨hn,_⟩|⟨g',cap,cur,hv,ig,hh,rest⟩;all_goals grind[blk]
 .revert h1
  cases a with
  |pair k b=>
   rintro⟨g',es,clock,hu,hh,ha⟩
   grind[blk]
  |_=>exactλh=>h.elim
theorem sH.one{S:aX}{w:À}{e:H}{a:Ty}{xs:I a.den}{u:O}(hl:sH S w e a xs u):One u:=by
 rcases hl with⟨hm,css,h1,h2⟩|⟨hm,h1⟩
 .rcases h1.2 with⟨hn,_⟩|⟨g',cap,cur,hv,_⟩
  .rw[hn];rfl
  .rw[hv];rfl
 .revert h1
  cases a with
  |pair k b=>rintro⟨g',es,clock,hu,_⟩;rw[hu];rfl
  |_=>exactλh=>h.elim
def eZ(S:aX)(w:À)(γ:H->O)(bx:H->BS)(k:H):Bx->Prop
 |.cell ls frz=>∃g cur e,γ k = .pointer (D ⟨g,0,B⟩)/\w.heap[g]? = D (.cells cur e (0,0))/\All2 (bF S w γ bx) ls (cur.toList.take ls.length)/\
  (∀u∈cur.toList.take ls.length,One u)/\(frz=J->∀o,¬S g o)/\(frz=U->∀o,o<cur.size->S g o)
 |.lst e a xs frz=>sH S w e a xs (γ k)/\
  ∀g,blk (γ k)=D g->(frz=J->∀o,¬S g o)/\(frz=U->∀o,S g o↔o<xs.length*a.size)
 |.arr n a xs=>∃g cur e,γ k = .pointer (D ⟨g,0,B⟩)/\w.heap[g]? = D (.cells cur e (0,0))/\Rep S w (.arr n a) xs cur.toList/\∀o,¬S g o
 |.row e a n ls=>isM e=J/\(∃cs,w.ownsRow 0 e a.size (γ k) n cs/\All2 (bF S w γ bx) ls cs/\∀u∈cs,One u)/\∀g,blk (γ k)=D g->∀o,¬S g o
theorem jE{S:aX}{w:À}{γ:H->O}{bx:H->BS}{k e:H}{a:Ty}{xs:I a.den}{frz:X}(hm:isM e=J)(h:eZ S w γ bx k (.lst e a xs frz)) :
  ∃css,w.ownsRow 0 e a.size (γ k) xs.length css.flatten/\All2 (λx c=>Rep S w a x c) xs css/\
   ∀g,blk (γ k)=D g->(frz=J->∀o,¬S g o)/\(frz=U->∀o,S g o↔o<xs.length*a.size):=by
 obtain⟨h1,h2⟩:=h;rcases h1 with⟨_,css,h3,h4⟩|⟨h3,_⟩;all_goals grind
theorem HU{S:aX}{w:À}{γ:H->O}{bx:H->BS}{k e:H}{a:Ty}{xs:I a.den}{frz:X}{ad:F Addr}{n c:H}(hs:γ k = .slice ad n c)(h:eZ S w γ bx k (.lst e a xs frz)) :
  ∃css,w.ownsRow 0 e a.size (γ k) xs.length css.flatten/\All2 (λx c=>Rep S w a x c) xs css/\
   ∀g,blk (γ k)=D g->(frz=J->∀o,¬S g o)/\(frz=U->∀o,S g o↔o<xs.length*a.size):=by
 obtain⟨h1,h2⟩:=h;rcases h1 with⟨_,css,h3,h4⟩|⟨_,h3⟩
 .grind
 .revert h3
  rw[hs];cases a with
  |pair k b=>rintro⟨g',es,clock,hu,_⟩;simp at hu
  |_=>exactλh=>h.elim
theorem Wa{S:aX}{w:À}{γ:H->O}{bx:H->BS}{k e:H}{a:Ty}{xs:I a.den}{frz:X}{ad:F Addr}{n c:H}(hs:γ k = .slice ad n c)(h:eZ S w γ bx k (.lst e a xs frz)):isM e=false:=by
 rcases h.1 with⟨h1,_⟩|⟨_,h3⟩
 .exact h1
 .revert h3
  rw[hs];cases a with
  |pair k b=>rintro⟨g',es,clock,hu,_⟩;simp at hu
  |_=>exactλh=>h.elim
theorem B4{S:aX}{w:À}{γ:H->O}{bx:H->BS}{k e:H}{a:Ty}{xs:I a.den}{frz:X}(hm:isM e=J) (h:∃css,w.ownsRow 0 e a.size (γ k) xs.length css.flatten/\All2 (λx c=>Rep S w a x c) xs css/\
  ∀g,blk (γ k)=D g->(frz=J->∀o,¬S g o)/\(frz=U->∀o,S g o↔o<xs.length*a.size)):eZ S w γ bx k (.lst e a xs frz):=by
 obtain⟨css,h1,h2,h3⟩:=h;exact⟨.inl ⟨hm,css,h1,h2⟩,h3⟩
def lY:Bx->Bx->Prop
 |.cell _ _,.cell _ _=>True
 |.lst e a xs _,.lst e' a' dE _=>e=e'/\a=a'/\(isM e=J->xs.length=dE.length)
 |.arr n a _,.arr n' a' _=>n=n'/\a=a'
 |.row e a n _,.row e' a' n' _=>e=e'/\a=a'/\n=n'
 |.row e a n _,.lst e' a' dE _=>e=e'/\a=a'/\isM e=J/\n=dE.length
 |_,_=>Ù
theorem lY.refl(b:Bx):lY b b:=by cases b<;>simp[lY]
theorem lY.trans{a b c:Bx}(h:lY a b)(h':lY b c):lY a c:=by
 cases a<;>cases b<;>cases c<;>simp only[lY]at h h' ⊢ <;> first
  |exact h.elim
  |exact h'.elim
  |(obtain⟨rfl,rfl,rfl⟩:=h;exact h')
  |(obtain⟨rfl,rfl,h3,h4⟩:=h;obtain⟨rfl,rfl,h5⟩:=h';exact⟨rfl,rfl,h3,h4.trans (h5 h3)⟩)
  |(obtain⟨rfl,rfl,h3⟩:=h;obtain⟨rfl,rfl,h4⟩:=h';exact⟨rfl,rfl,λhm=>(h3 hm).trans (h4 hm)⟩)
  |exact⟨h.1.trans h'.1,h.2.trans h'.2⟩
def BxLe(γ:H->O)(bx:H->BS)(γ':H->O)(bx':H->BS):Prop:=
 ∀k,bx k ≠ .free->bx' k ≠ .free/\γ' k=γ k/\∀b',bx' k = .live b'->∃b,bx k = .live b/\lY b b'
theorem BxLe.refl(γ:H->O)(bx:H->BS):BxLe γ bx γ bx:=λ_ h=>⟨h,rfl,λb hb=>⟨b,hb,.refl b⟩⟩
section keeps
variable{S S':aX}{w w':À}{γ γ':H->O}{bx bx':H->BS}(hk:dI S w S' w')(hb:BxLe γ bx γ' bx')
include hk
theorem kY.keep{x:Cap}{u:O}(h:kY S w x u):kY S' w' x u:=by
 cases x with
 |v x=>exact⟨h.1,Rep.keep hk _ _ _ h.2⟩
 |p ls=>obtain⟨g,o,cs,hu,ha,hl⟩:=h;exact⟨g,o,cs,hu,ha.mono (λx z hx=>Rep.keep hk _ _ _ hx),hl.keep hk⟩
include hb
theorem bF.keep{x:Leaf}{u:O}(h:bF S w γ bx x u):bF S' w' γ' bx' x u:=by
 cases x with
 |dead=>trivial
 |nil=>exact h
 |d t v=>exact Rep.keep hk _ _ _ h
 |ol k=>obtain⟨h1,h2,h3⟩:=h;obtain⟨b1,b2,b3⟩:=hb k h1;exact⟨b1,h2,λb aZ=>by grind⟩
 |bp k c=>obtain⟨h1,h2,h3⟩:=h;obtain⟨b1,b2,b3⟩:=hb k h1;exact⟨b1,h2,λb aZ=>by grind⟩
 |ep k i c=>obtain⟨h1,h2,h3⟩:=h;obtain⟨b1,b2,b3⟩:=hb k h1;refine⟨b1,h2,λb aZ=>?_⟩;obtain⟨b0,ig,hs⟩:=b3 b aZ;grind[lY]
 |tl k i=>obtain⟨h1,h2,h3⟩:=h;obtain⟨b1,b2,b3⟩:=hb k h1;refine⟨b1,h2,λb aZ=>?_⟩;grind[lY]
 |hd k i=>obtain⟨h1,h2,h3⟩:=h;obtain⟨b1,b2,b3⟩:=hb k h1;refine⟨b1,h2,λb aZ=>?_⟩;grind[lY]
 |ip ls=>obtain⟨g,o,cs,hu,ha,hl⟩:=h;exact⟨g,o,cs,hu,ha.mono (λx z hx=>Rep.keep hk _ _ _ hx),hl.keep hk⟩
 |clo f caps=>obtain⟨cv,hu,ha⟩:=h;exact⟨cv,hu,ha.mono (λx z hx=>kY.keep hk hx)⟩
 |clr f ks=>obtain⟨cv,hu,ha⟩:=h;refine⟨cv,hu,ha.mono (λk z hx=>?_)⟩;obtain⟨h1,h2,h3⟩:=hx;obtain⟨b1,b2,b3⟩:=hb k h1;exact⟨b1,h2,λb aZ=>by grind⟩
theorem bS.keep{x:Cel}{u:O}(h:bS S w γ bx x u):bS S' w' γ' bx' x u:=by
 cases x with
 |one x=>exact⟨bF.keep hk hb h.1,h.2⟩
 |st ls=>obtain⟨cs,hu,ha,h1⟩:=h;exact⟨cs,hu,ha.mono (λx z hx=>bF.keep hk hb hx),h1⟩
 |av n a xs=>obtain⟨cs,hu,ha⟩:=h;exact⟨cs,hu,Rep.keep hk _ _ _ ha⟩
theorem jD.keep{tm:H->O}{x:Slot}{u:O}(h:jD S w γ bx tm x u):jD S' w' γ' bx' tm x u:=by
 cases x with
 |one c=>exact bS.keep hk hb h
 |tup l=>obtain⟨vs,hu,ha⟩:=h;exact⟨vs,hu,ha.mono (λx z hx=>bS.keep hk hb hx)⟩
 |cnd s b c=>exact h.imp (λh=>⟨h.1,bS.keep hk hb h.2⟩) id
 |und=>exact h
end keeps
structure Refs where
 blks:I H
 val:H->F O
 ds:I Deferred:=[]
 kw:H->F Obj:=λ_=>B
 fix:H->F Value:=λ_=>B
 mv:I Nat:=[]
instance:Membership H Refs:=⟨λr g=>g∈r.blks⟩
def Own(w0:À)(refs:Refs)(g:H):Prop:=w0.heap.size<=g\/(g∈refs.mv/\g∈refs)
theorem Own.nil{w0:À}{refs:Refs}{g:H}(h:Own w0 refs g)(hm:refs.mv=[]):w0.heap.size<=g:=h.elim id λh=>by simp_all
theorem Own.swap{w0:À}{refs refs':Refs}{g:H}(h:Own w0 refs g)(hb:refs'.blks=refs.blks)(hm:refs'.mv=refs.mv):Own w0 refs' g:=h.imp id λh=>⟨hm▸h.1,by show g∈refs'.blks;rw[hb];exact h.2⟩
theorem Own.no{w0:À}{refs:Refs}{g:H}(h:Own w0 refs g)(h1:g<w0.heap.size)(h2:g∉refs):False:=h.elim (λh=>aa) λh=>h2 h.2
structure Rel(N:NT)(np:H)(S0:aX)(w0:À)(refs:Refs)(σ:St)(a:Û)(w:À)(S:aX)(γ:H->O):Prop where
 size:a.tmps.size=N.n
 defers:a.defers=refs.ds
 slot:∀i,jD S w γ σ.bx (λj=>a.tmps.getD j undef) (σ.sl i) (a.tmps.getD i undef)
 box:∀k b,σ.bx k = .live b->eZ S w γ σ.bx k b
 own:∀k b g,σ.bx k = .live b->blk (γ k)=D g->Own w0 refs g\/(g∈refs/\parK np k=U)
 apart:∀k k' b b' g,k≠k'->σ.bx k = .live b->σ.bx k' = .live b'->blk (γ k)=D g->blk (γ k')≠D g
 ext:∀g o,S0 g o->S g o
 new:∀g o,S g o->S0 g o\/Own w0 refs g
 here:∀g o,S g o->g<w.heap.size
 below:∀g,g<w0.heap.size->g∉refs->w.heap[g]? = w0.heap[g]?
 grow:w0.heap.size<=w.heap.size
 os:w.os=w0.os
 tape:w.tape=w0.tape
 output:w.output=w0.output
 par:∀k v,refs.val k=D v->parK np k=U/\σ.bx k ≠ .free/\γ k=v
 kept:∀g o,refs.kw g=D o->w.heap[g]? = D o/\∀k b,σ.bx k = .live b->blk (γ k)≠D g
 fix:∀i v,refs.fix i=D v->N.pin i=U/\a.tmps.getD i undef=v
section
variable{N:NT}{np:H}{S0:aX}{w0:À}{refs:Refs}{σ:St}{a:Û}{w:À}{S:aX}{γ:H->O}
theorem Rel.kw_live(hR:Rel N np S0 w0 refs σ a w S γ){k:H}{b:Bx}{g:H}(hk:σ.bx k = .live b)(hg:blk (γ k)=D g):refs.kw g=none:=by
 cases h:refs.kw g with
 |none=>rfl
 |some o=>exact absurd hg ((hR.kept g o h).2 k b hk)
theorem Rel.kw_new(hR:Rel N np S0 w0 refs σ a w S γ){g:H}(hg:w.heap.size<=g):refs.kw g=none:=by
 cases h:refs.kw g with
 |none=>rfl
 |some o=>have:=(jq.1 (hR.kept g o h).1).1;omega
end
def lZ:Ty->I O
 |.int k=>[.int k 0]
 |.bool=>[.bool J]
 |.str=>[.string ByteArray.empty]
 |.unit=>[]
 |.wrap a=>lZ a
 |.pair a b=>lZ a++lZ b
 |.list _=>[.slice B 0 0]
 |.arr n a=>(Æ n (lZ a)).flatten
def L3:O->O->X
 |.int k n,.int k' n'=>Y (k=k')&&Y (n=n')
 |.bool b,.bool b'=>b==b'
 |.string s,.string s'=>Y (s.data.toList=s'.data.toList)
 |.slice B 0 0,.slice B 0 0=>U
 |_,_=>J
def B5:I O->I O->X
 |[],[]=>U
 |a::l,b::l'=>L3 a b&&B5 l l'
 |_,_=>J
theorem jDK{a b:O}(h:L3 a b=U):a=b:=by
 unfold L3 at h;split at h<;>simp_all;rename_i s s';cases s;cases s';simp_all
theorem Wb:∀{l l':I O},B5 l l'=U->l=l'
 |[],[],_=>rfl
 |a::l,b::l',h=>by
  simp only[B5,jc]at h;rw[jDK h.1,Wb h.2]
 |[],_::_,h=>by simp[B5]at h
 |_::_,[],h=>by simp[B5]at h
def aggD:Ö->X
 |.struct _|.array _ _=>U
 |_=>J
def HV(T:H->F TyI)(e:H)(a:Ty):Bool:=
 match T e with
 |some te=>Y (te.ty=D a)
 |none=>J
def mu(T:H->F TyI)(ti:TyI)(t:Ty):Ö->X
 |.int k=>Y (t = .int k)
 |.bool=>Y (t = .bool)
 |.string=>Y (t = .str)
 |.slice e=>match t with
  |.list a=>Y (e=ti.elem)&&HV T e a&&Y (0<a.size)
  |_=>J
 |.array n e=>match t with
  |.arr n' a=>Y (n=n')&&Y (e=ti.elem)&&HV T e a&&Y (0<a.size)
  |_=>J
 |.struct _=>t.agg
 |_=>J
def Ec(T:H->F TyI)(ti:TyI):Ö->X
 |.struct fs=>Y (fs.toList.map (λf=>(f.offset,f.type))=ti.flds)&&fs.toList.all (λf=>match T f.type with|some tf=>Y (0<tf.size)|none=>J)
 |_=>ti.flds.isEmpty
def Ed(P:Á)(f:Ç->F (I Ty)):H->I Field->F (I Ty)
 |_,[]=>D []
 | n, x :: xs => if x.name != "_" && Y (x.offset = n) then
   match f x.type with
   |some ks=>if (P.info? x.type).map (·.size)=D ks.length then match Ed P f (n+ks.length) xs with
     |some r=>D (ks++r)
     |none=>B
    else B
   |none=>B
  else B
def xp(P:Á):H->Ç->F (I Ty)
 |0,_=>B
 |d+1,t=>match P.underlying t with
  |some (.int k)=>D [.int k]
  |some .bool=>D [.bool]
  |some .string=>D [.str]
  |some (.struct fs)=>if P.stoodInHeld t then B else Ed P (xp P d) 0 fs.toList
  |_=>B
def L4(P:Á)(t:Ç)(ks:I Ty):Bool:=
 Y (xp P 12 t=D ks) && !P.eqGuardType P.depth t&&(match P.underlying t with|some (.struct _)=>U|_=>J)
def mpOk(ti:TyI)(d:Ö):Bool:=match ti.mp with
 |none=>U
 |some (k,v)=>match d with
  |.map k' v'=>Y (k=k')&&Y (v=v')
  |_=>J
def zOk(i:ì)(d:Ö):Bool:=match i.zero with
 |some (.agg _)=>aggD d
 |some (.tuple _)=>J
 |_=> !aggD d
def tyOk(P:Á)(T:H->F TyI)(n:H)(ti:TyI):Bool:=
 match P.info? n,P.underlying n with
 |some i,D d=>Y (i.size=ti.size)&&Y (i.bytes<=32768)&&Y (ti.agg=aggD d)&&Ec T ti d&&(((ti.cmp.isEmpty||L4 P n ti.cmp)&&mpOk ti d)&&(zOk i d && !isM ti.elem)) &&
  match ti.ty with
  |none=>U
  |some t=>Y (t.size=ti.size)&&(match i.zero with|some z=>B5 z.cells.toList (lZ t)|none=>J)&&mu T ti t d
 |_,_=>J
def cP(P:Á)(T:H->F TyI):Prop:=∀n ti,T n=D ti->tyOk P T n ti=U
def tab(l:I (F TyI))(n:H):F TyI:=l.getD n B
theorem jDL(P:Á)(l:I (F TyI))(h:(l.zipIdx.all λx=>match x.1 with|some ti=>tyOk P (tab l) x.2 ti|none=>U)=U):cP P (tab l):=by
 intro n ti hn;rw[jw]at h
 have hm:(D ti,n)∈l.zipIdx:=by
  rw[List.mem_zipIdx_iff_getElem?];unfold tab at hn;rw[List.getD_eq_getElem?_getD]at hn;cases hl:l[n]? with
  |none=>simp[hl]at hn
  |some x=>simp[hl]at hn;simp[hn]
 exact h _ hm
section
variable{P:Á}{T:H->F TyI}(hT:cP P T){n:H}{ti:TyI}(hn:T n=D ti)
include hT hn
theorem jGu(hc:ti.cmp.isEmpty=J):L4 P n ti.cmp=true:=by
 have h:=hT n ti hn;unfold tyOk at h;split at h
 .simp only[jc,hc,Bool.false_or]at h;exact h.1.2.1.1
 .simp at h
theorem jGv{k v:H}(hm:ti.mp=D (k,v)):P.underlying n=D (.map k v):=by
 have h:=hT n ti hn;unfold tyOk at h;split at h
 .rename_i i d hi hd;simp only[jc]at h;have h2:=h.1.2.1.2;simp only[mpOk,hm]at h2;split at h2
  .simp only[jc,jl]at h2;rw[hd,h2.1,h2.2]
  .simp at h2
 .simp at h
theorem oc:∃i d,P.info? n=D i/\P.underlying n=D d/\i.size=ti.size/\i.bytes<=32768/\ti.agg=aggD d/\Ec T ti d=U/\
  ∀t,ti.ty=D t->t.size=ti.size/\(∃z,i.zero=D z/\z.cells.toList=lZ t)/\mu T ti t d=true:=by
 have h:=hT n ti hn;unfold tyOk at h;split at h
 .rename_i i d hi hd;simp only[jc,jl]at h;obtain⟨⟨⟨⟨⟨h1,h2⟩,h3⟩,h4⟩,_⟩,h5⟩:=h;refine⟨i,d,hi,hd,h1,h2,h3,h4,λt ht=>?_⟩;simp only[ht,jc,jl]at h5;obtain⟨⟨h6,h7⟩,h8⟩:=h5;refine⟨h6,?_,h8⟩;split at h7
  .rename_i z hz;exact⟨z,hz,Wb h7⟩
  .simp at h7
 .simp at h
theorem jM(w:À):(sizeOf n).run P w = .ok ti.size w:=by
 obtain⟨i,d,hi,hd,hs,_⟩:=oc hT hn;simp[sizeOf,typeInfo,hi,hs]
theorem B6(w:À):(isAgg n).run P w = .ok ti.agg w:=by
 obtain⟨i,d,hi,hd,hs,_,ha,_⟩:=oc hT hn;simp only[isAgg,Z,run_underlying hd,W];rw[ha];cases d<;>rfl
theorem zF(w:À){t:Ty}(ht:ti.ty=D t):∃z,(zeroValue n).run P w = .ok z w/\z.cells.toList=lZ t:=by
 obtain⟨i,d,hi,hd,hs,_,ha,_,h⟩:=oc hT hn;obtain⟨_,⟨z,hz,hc⟩,_⟩:=h t ht;exact⟨z,by simp[zeroValue,typeInfo,hi,hz],hc⟩
theorem jDM{i:ì}{d:Ö}(hi:P.info? n=D i)(hd:P.underlying n=D d):zOk i d=true:=by
 have h:=hT n ti hn;unfold tyOk at h;rw[hi,hd]at h;simp only[jc]at h;exact h.1.2.2.1
theorem L5:isM ti.elem=false:=by
 have h:=hT n ti hn;unfold tyOk at h;split at h
 .simp only[jc]at h;simpa using h.1.2.2.2
 .simp at h
theorem od{t:Ty}(ht:ti.ty=D t):t.size=ti.size:=by
 obtain⟨i,d,hi,hd,hs,_,ha,_,h⟩:=oc hT hn;exact(h t ht).1
theorem L6{k:Î}(ht:ti.ty=D (.int k)):P.underlying n=D (.int k):=by
 obtain⟨i,d,hi,hd,hs,_,ha,_,h⟩:=oc hT hn;have:=(h _ ht).2.2;cases d<;>simp_all[mu,Ty.agg]
theorem oD{a:Ty}(ht:ti.ty=D (.list a)):P.underlying n=D (.slice ti.elem)/\0<a.size/\∃te,T ti.elem=D te/\te.ty=D a:=by
 obtain⟨i,d,hi,hd,hs,_,ha,_,h⟩:=oc hT hn;have iH:=(h _ ht).2.2;cases d with
 |slice e=>
  simp only[mu,jc,jl]at iH;obtain⟨⟨rfl,h2⟩,h3⟩:=iH;refine⟨hd,h3,?_⟩;unfold HV at h2;split at h2
  .rename_i te dJ;exact⟨te,dJ,by simpa using h2⟩
  .simp at h2
 |_=>simp_all[mu,Ty.agg]
theorem B7{m:H}{a:Ty}(ht:ti.ty=D (.arr m a)):P.underlying n=D (.array m ti.elem)/\0<a.size/\∃te,T ti.elem=D te/\te.ty=D a:=by
 obtain⟨i,d,hi,hd,hs,_,ha,_,h⟩:=oc hT hn;have iH:=(h _ ht).2.2;cases d with
 |array m' e=>
  simp only[mu,jc,jl]at iH;obtain⟨⟨⟨rfl,rfl⟩,h2⟩,h3⟩:=iH;refine⟨hd,h3,?_⟩;unfold HV at h2;split at h2
  .rename_i te dJ;exact⟨te,dJ,by simpa using h2⟩
  .simp at h2
 |_=>simp_all[mu,Ty.agg]
theorem Wc{j:H}{f:H×H}(hf:ti.flds[j]? = D f) :
  ∃fs,P.underlying n=D (.struct fs)/\∃fl,fs[j]? = D fl/\fl.offset=f.1/\fl.type=f.2/\∃tf,T f.2=D tf/\0<tf.size:=by
 obtain⟨i,d,hi,hd,_,_,pM,fE,_⟩:=oc hT hn;cases d with
 |struct fs=>
  simp only[Ec,jc,jl]at fE;obtain⟨h1,h2⟩:=fE;rw[<-h1]at hf;rw[q8]at hf;cases hq:fs.toList[j]? with
  |none=>simp[hq]at hf
  |some fl=>
   simp only[hq,kb,j5]at hf;subst hf;refine⟨fs,hd,fl,by simpa using hq,rfl,rfl,?_⟩;have:=jw.1 h2 fl (jz hq);split at this
   .rename_i tf xq;exact⟨tf,xq,by simpa using this⟩
   .simp at this
 |_=>
  have:ti.flds=[]:=by simpa[Ec]using fE
  simp[this]at hf
end
section
variable{N:NT}{np:H}{S0:aX}{w0:À}{refs:Refs}{σ:St}{a:Û}{w:À}{S:aX}{γ:H->O}
def tm(a:Û)(j:H):Value:=a.tmps.getD j undef
def jJJ(P:Á)(o:Å)(a:Û)(w:À)(v:O)(w':À):Prop:=
 (execOp a.eval o).run P w = .ok (.value v) w'\/((execOp a.eval o).run P w = .ok .skip w'/\v=undef)
def L7(P:Á)(N:NT)(np:H)(S0:aX)(w0:À)(refs:Refs)(o:Å)(σ:St)(a:Û)(w:À)(S:aX)(γ:H->O)(s:Slot)(u:Ups):Prop:=
 ∃v w' S' γ',jJJ P o a w v w'/\Rel N np S0 w0 refs (σ.upd u) a w' S' γ'/\jD S' w' γ' (σ.upd u).bx (tm a) s v
theorem mw{P:Á}{o:Å}{s:Slot}{v:O}(hR:Rel N np S0 w0 refs σ a w S γ)(hr:(execOp a.eval o).run P w = .ok (.value v) w)
  (hs:jD S w γ σ.bx (tm a) s v):L7 P N np S0 w0 refs o σ a w S γ s []:=
 ⟨v,w,S,γ,.inl hr,hR,hs⟩
theorem jwi(v:O)(bx:H->BS):bS S w γ bx (.one (LL v)) v:=by
 unfold LL
 split<;>first
  |exact⟨rfl,λ_=>rfl⟩
  |exact⟨trivial,λh=>absurd rfl h⟩
theorem nD(hR:Rel N np S0 w0 refs σ a w S γ)(x:Ì):jD S w γ σ.bx (tm a) (σ.ev x) (a.eval x):=by
 cases x with
 |tmp t=>exact hR.slot t
 |const v=>exact jwi v _
 |global g=>exact⟨trivial,λh=>absurd rfl h⟩
 |func f=>exact⟨⟨#[],rfl,trivial⟩,λ_=>rfl⟩
def sJ(tm:H->O)(act:I (H×X)):Prop:=∀g∈act,tm g.1 = .bool g.2
theorem L8{bx:H->BS}{t:H->O}{act:I (H×X)}(bk:sJ t act){s:Slot}{u:O}(h:jD S w γ bx t s u):bS S w γ bx (s.cel act) u:=by
 cases s with
 |one c=>exact h
 |tup l=>exact⟨trivial,λh=>absurd rfl h⟩
 |und=>exact⟨trivial,λh=>absurd rfl h⟩
 |cnd s b c=>
  simp only[Slot.cel];split
  .rename_i hc;have hm:(s,b)∈act:=by simpa using hc
   have:=bk _ hm;rcases h with h|h
   .exact h.2
   .exact absurd this h.1
  .exact⟨trivial,λh=>absurd rfl h⟩
theorem eN(hR:Rel N np S0 w0 refs σ a w S γ){act:I (H×X)}(bk:sJ (tm a) act)(x:Ì) :
 bS S w γ σ.bx ((σ.ev x).cel act) (a.eval x):=L8 bk (nD hR x)
theorem iI{bx:H->BS}{c:Cel}{u:O}(h:bS S w γ bx c u):bF S w γ bx (lf c) u:=by
 cases c with
 |one x=>exact h.1
 |st ls=>trivial
 |av n a xs=>trivial
theorem qH{k:Î}{n:(Ty.int k).den}{u:O}(h:Rep S w (.int k) n [u]):u = .int k n:=by simpa[Rep]using h
theorem L9{n:Ty.bool.den}{u:O}(h:Rep S w .bool n [u]):u = .bool n:=by simpa[Rep]using h
theorem Ee{n:Ty.str.den}{u:O}(h:Rep S w .str n [u]):u = .string n:=by simpa[Rep]using h
theorem oe{t:Ty}{x:TV}{v:t.den}(h:x.to t=D v):x=⟨t,v⟩:=by
 unfold TV.to at h;split at h
 .rename_i e;obtain⟨t',v'⟩:=x;subst e;simp at h;rw[h]
 .simp at h
theorem Wd{P:Á}(op:ä)(t:Ç)(x y:Ì)(k k':Î)(p q:Ä) :
  (eqGuard op t x y (.int k p) (.int k' q)).run P w = .ok () w:=by
 unfold eqGuard;cases op<;>simp
theorem We{P:Á}(op:ä)(t:Ç)(x y:Ì)(p q:X):(eqGuard op t x y (.bool p) (.bool q)).run P w = .ok () w:=by
 unfold eqGuard;cases op<;>simp
theorem Wh{P:Á}(op:ä)(t:Ç)(x y:Ì)(p q:Ë):(eqGuard op t x y (.string p) (.string q)).run P w = .ok () w:=by
 unfold eqGuard;cases op<;>simp
theorem Wi{P:Á}(t:Ç){k k':Î}{x y:Ä}(h:0<=y) :
  (binOp .shr t (.int k x) (.int k' y)).run P w = .ok (.int k (ë x (2^min (Â y) k.bits))) w:=by
 have h':¬y<0:=aa;simp[binOp,Op.shift,h']
theorem jDN{P:Á}{op:ä}{k:Î}{x y:Ä}{l:Leaf}{bx:H->BS}(t:Ç)(h:binI op k x y=D (U,l)) :
  ∃u,(binOp op t (.int k x) (.int k y)).run P w = .ok u w/\bF S w γ bx l u/\One u:=by
 cases op with
 |add=>simp[binI]at h;subst h;exact⟨_,by simp[binOp,Þ],rfl,rfl⟩
 |sub=>simp[binI]at h;subst h;exact⟨_,by simp[binOp,Þ],rfl,rfl⟩
 |mul=>simp[binI]at h;subst h;exact⟨_,by simp[binOp,Þ],rfl,rfl⟩
 |quo=>simp only[binI,j5,j9,q9,beq_eq_false_iff_ne]at h;obtain⟨h0,rfl⟩:=h;exact⟨_,by simp[binOp,ô,h0],rfl,rfl⟩
 |rem=>simp only[binI,j5,j9,q9,beq_eq_false_iff_ne]at h;obtain⟨h0,rfl⟩:=h;exact⟨_,by simp[binOp,ô,h0],rfl,rfl⟩
 |shr=>
  simp only[binI]at h;split at h
  .rename_i h0;simp only[j5,j9,kc]at h;subst h;exact⟨_,Wi t (by simpa using h0),rfl,rfl⟩
  .simp at h
 |and=>simp[binI]at h
 |or=>simp[binI]at h
 |xor=>simp[binI]at h
 |andNot=>simp[binI]at h
 |shl=>simp[binI]at h
 |eql=>simp[binI,cmpI]at h;subst h;exact⟨_,by simp[binOp,Ú],rfl,rfl⟩
 |neq=>simp[binI,cmpI]at h;subst h;exact⟨_,by simp[binOp,Ú],rfl,rfl⟩
 |lss=>simp[binI,cmpI]at h;subst h;exact⟨_,by simp[binOp,Ú],rfl,rfl⟩
 |leq=>simp[binI,cmpI]at h;subst h;exact⟨_,by simp[binOp,Ú],rfl,rfl⟩
 |gtr=>simp[binI,cmpI]at h;subst h;exact⟨_,by simp[binOp,Ú],rfl,rfl⟩
 |geq=>simp[binI,cmpI]at h;subst h;exact⟨_,by simp[binOp,Ú],rfl,rfl⟩
end
def Ma:Ty->O->O->X->Prop
 |.int k,u,v,b=>∃x y:Ä,u = .int k x/\v = .int k y/\b=(x==y)
 |.bool,u,v,b=>∃x y:X,u = .bool x/\v = .bool y/\b=(x==y)
 |.str,u,v,b=>∃x y:Ë,u = .string x/\v = .string y/\b=(x.toList==y.toList)
 |_,_,_,_=>Ù
def iS:I Ty->I O->I O->X->Prop
 |[],[],[],b=>b=U
 |k::ks,u::us,v::vs,b=>∃b1 b2,Ma k u v b1/\iS ks us vs b2/\b=(b1&&b2)
 |_,_,_,_=>Ù
theorem iS.length:∀{ks:I Ty}{us vs:I O}{b:X},iS ks us vs b->us.length=ks.length/\vs.length=ks.length
 |[],[],[],_,_=>⟨rfl,rfl⟩
 |_::_,_::_,_::_,_,⟨_,_,_,h,_⟩=>by have:=iS.length h;simp[this.1,this.2]
 |[],_::_,_,_,h=>by simp[iS]at h
 |[],[],_::_,_,h=>by simp[iS]at h
 |_::_,[],_,_,h=>by simp[iS]at h
 |_::_,_::_,[],_,h=>by simp[iS]at h
theorem iS.split:∀{k1 k2:I Ty}{us vs:I O}{b:X},iS (k1++k2) us vs b->
  ∃b1 b2,iS k1 (us.take k1.length) (vs.take k1.length) b1/\iS k2 (us.drop k1.length) (vs.drop k1.length) b2/\b=(b1&&b2)
 |[],k2,us,vs,b,h=>⟨U,b,by simp[iS],by simpa using h,ae⟩
 |k::k1,k2,u::us,v::vs,b,⟨b1,b2,h1,h2,hb⟩=>by
  obtain⟨c1,c2,h3,h4,hc⟩:=iS.split h2;exact⟨b1&&c1,c2,⟨b1,c1,h1,h3,rfl⟩,h4,by rw[hb,hc,Bool.and_assoc]⟩
 |_::_,_,[],_,_,h=>by simp[iS]at h
 |_::_,_,_::_,[],_,h=>by simp[iS]at h
theorem iS.single{k:Ty}{us vs:I O}{b:X}(h:iS [k] us vs b):∃u v,us=[u]/\vs=[v]/\Ma k u v b:=by
 have hl:=h.length;match us,vs,hl with
 |[u],[v],_=>obtain⟨b1,b2,h1,h2,hb⟩:=h;simp only[iS]at h2;subst h2;rw[Bool.and_true]at hb;exact⟨u,v,rfl,rfl,hb▸h1⟩
def rL(P:Á)(t:Ç)(us:I O):Value:=
 match P.underlying t with
 |some (.struct _)=> .agg us.toArray
 |_=>us.headD undef
theorem Wj{P:Á}{w:À}{t:Ç}{us:I O}{o n:H}{i:ì}{d:Ö}(hi:P.info? t=D i)(hn:i.size=n)
  (hd:P.underlying t=D d)(hl:o+n<=us.length)(h1:(∃fs,d = .struct fs)\/((∀fs,d ≠ .struct fs)/\(∀m e,d ≠ .array m e)/\n=1)) :
  (part t us.toArray o).run P w = .ok (rL P t ((us.drop o).take n)) w:=by
 rcases h1 with⟨fs,rfl⟩|⟨h1,h2,rfl⟩
 .simp[part,isAgg,run_underlying hd,sizeOf,typeInfo,hi,hn,rL,hd,List.take_drop]
 .have hv:rL P t ((us.drop o).take 1)=us[o]:=by
   have:(us.drop o).take 1=[us[o]]:=by rw[List.drop_eq_getElem_cons aa];rfl
   unfold rL;rw[this,hd];cases d<;>first|rfl|exact absurd rfl (h1 _)
  have ha:(isAgg t).run P w = .ok J w:=by simp only[isAgg,Z,run_underlying hd,W];cases d<;>first|rfl|exact absurd rfl (h1 _)|exact absurd rfl (h2 _ _)
  rw[hv];simp only[part,Z,ha,W,kr,zv];rw[show us.toArray[o]? = D us[o] by simp];rfl
theorem Wk(P:Á)(w:À):∀(k:H)(t:Ç)(ks:I Ty),xp P k t=D ks->∀d,k<=d->∀us vs b,iS ks us vs b->
  (ò d t (rL P t us) (rL P t vs)).run P w = .ok b w
 |0,_,_,h,_,_,_,_,_,_=>by simp[xp]at h
 |k+1,t,ks,h,d,hd,us,vs,b,he=>by
  obtain⟨d,rfl⟩:∃d',d=d'+1:=⟨d-1,aa⟩;unfold xp at h;split at h
  .rename_i kk hu;simp at h;subst h;obtain⟨u,v,rfl,rfl,hc⟩:=he.single;obtain⟨x,y,rfl,rfl,hb⟩:=hc;simp[rL,hu,run_equalIn_int w d t _ _ _ _ hu,hb]
  .rename_i hu;simp at h;subst h;obtain⟨u,v,rfl,rfl,hc⟩:=he.single;obtain⟨x,y,rfl,rfl,hb⟩:=hc;simp[rL,hu,run_equalIn_bool' w d t _ _ hu,hb]
  .rename_i hu;simp at h;subst h;obtain⟨u,v,rfl,rfl,hc⟩:=he.single;obtain⟨x,y,rfl,rfl,hb⟩:=hc;simp[rL,hu,run_equalIn_string w d t _ _ hu,hb]
  .rename_i fs hu;split at h
   .simp at h
   rename_i aW;have hf:P.fieldsOf t=fs:=by simp[Program.fieldsOf,hu]
   have fq:∀us:I O,rL P t us = .agg us.toArray:=λus=>by simp[rL,hu]
   rw[fq,fq,run_equalIn_agg w d t _ _ (by rw[hf];exact hu) (by simpa using aW),hf]
   have key:∀(fl:I Field)(n:H)(ks:I Ty),Ed P (xp P k) n fl=D ks->∀b,n<=us.length->n<=vs.length->iS ks (us.drop n) (vs.drop n) b->
     (î d us.toArray vs.toArray fl).run P w = .ok b w:=by
    intro fl;induction fl with
    |nil=>intro n ks hk b hnu hnv hc;simp[Ed]at hk;subst hk;have hl:=hc.length;have:us.drop n=[]:=k8 hl.1;have h':vs.drop n=[]:=k8 hl.2;rw[this,h']at hc;simp[iS]at hc;subst hc;rfl
    |cons x fl ih=>
     intro n ks hk b hnu hnv hc;simp only[Ed,jc,bne_iff_ne,ne_eq,jl]at hk;split at hk
     .rename_i hx;split at hk
      .rename_i k1 dr;split at hk
       .rename_i cO;split at hk
        .rename_i k2 fo;simp at hk;subst hk;obtain⟨b1,b2,eP,fQ,hb⟩:=hc.split;have hlen:=hc.length;simp only[qw,Õ]at hlen;cases hi:P.info? x.type with
         |none=>simp[hi]at cO
         |some i=>
          simp only[hi,kb,j5]at cO
          have zG:∃dd,P.underlying x.type=D dd/\((∃fs,dd = .struct fs)\/((∀fs,dd ≠ .struct fs)/\(∀m e,dd ≠ .array m e)/\k1.length=1)):=by
           cases k with
           |zero=>simp[xp]at dr
           |succ k=>
            unfold xp at dr;split at dr
            .rename_i fF;simp at dr;subst dr;exact⟨_,fF,.inr ⟨ae,ae,rfl⟩⟩
            .rename_i fF;simp at dr;subst dr;exact⟨_,fF,.inr ⟨ae,ae,rfl⟩⟩
            .rename_i fF;simp at dr;subst dr;exact⟨_,fF,.inr ⟨ae,ae,rfl⟩⟩
            .rename_i fF;exact⟨_,fF,.inl ⟨_,rfl⟩⟩
            .simp at dr
          obtain⟨dd,pN,rM⟩:=zG;have rN:=Wj (P:=P) (w:=w) (us:=us) (o:=n) hi cO pN aa rM;have xr:=Wj (P:=P) (w:=w) (us:=vs) (o:=n) hi cO pN aa rM;have gO:=Wk P w k x.type k1 dr d aa _ _ b1 eP;simp only[î];rw[if_pos hx.1];simp only[Z,hx.2,rN,W,xr,gO,ß];cases b1
          .simp[hb]
          .simp only[jg,kr,zv];rw[hb,qx];refine ih (n+k1.length) k2 fo b2 aa aa ?_;rw[<-á,<-á];exact fQ
        .simp at hk
       .simp at hk
      .simp at hk
     .simp at hk
   exact key fs.toList 0 ks h b aa aa (by simpa using he)
  .simp at h
termination_by k=>k
section
variable{S:aX}{w:À}{γ:H->O}{bx:H->BS}
theorem jGw{t t':Ty}{x:t.den}{y:t'.den}{b:X}{u v:O}(h:eqT ⟨t,x⟩ ⟨t',y⟩=D b)(hx:Rep S w t x [u])(hy:Rep S w t' y [v])(ht:t'=t):Ma t u v b:=by
 subst ht;cases t' with
 |int k=>simp[eqT]at h;exact⟨x,y,qH hx,qH hy,h.symm⟩
 |bool=>simp[eqT]at h;exact⟨x,y,L9 hx,L9 hy,h.symm⟩
 |str=>simp[eqT]at h;exact⟨x,y,Ee hx,Ee hy,h.symm⟩
 |_=>simp[eqT]at h
theorem jGx(ks:I Ty):∀{l l':I Leaf}{b:X}{us vs:I O},eqL ks l l'=D b->All2 (bF S w γ bx) l us->All2 (bF S w γ bx) l' vs->iS ks us vs b:=by
 induction ks with
 |nil=>
  intro l l' b us vs h h1 h2;cases l with
  |cons _ _=>simp[eqL]at h
  |nil=>
   cases l' with
   |cons _ _=>simp[eqL]at h
   |nil=>
    cases us with
    |cons _ _=>exact h1.elim
    |nil=>cases vs with
     |cons _ _=>exact h2.elim
     |nil=>simp[eqL]at h;simp[iS,h]
 |cons k ks ih=>
  intro l l' b us vs h h1 h2;cases l with
  |nil=>simp[eqL]at h
  |cons l0 l=>
   cases l' with
   |nil=>cases l0<;>simp[eqL]at h
   |cons m0 l'=>
    cases us with
    |nil=>exact h1.elim
    |cons u us=>
     cases vs with
     |nil=>exact h2.elim
     |cons v vs=>
      cases l0 with
      |d t x=>
       cases m0 with
       |d t' y=>
        simp only[eqL]at h;split at h
        .rename_i hk;obtain⟨rfl,rfl⟩:=hk;split at h
         .rename_i b1 dS;have hc:=jGw dS h1.1 h2.1 rfl;split at h
          .split at h
           .simp at h;subst h;cases us with
            |nil=>cases vs with
             |nil=>exact⟨b1,U,hc,by simp[iS],ae⟩
             |cons _ _=>exact h2.2.elim
            |cons _ _=>exact h1.2.elim
           .simp at h
          .split at h
           .rename_i b2 gm;simp at h;subst h;exact⟨b1,b2,hc,ih gm h1.2 h2.2,rfl⟩
           .simp at h
         .simp at h
        .simp at h
       |_=>simp[eqL]at h
      |_=>simp[eqL]at h
theorem Wl{P:Á}{T:H->F TyI}(hT:cP P T){t:Ç}{l l':I Leaf}{b:X}{us vs:È O}
  (bD:(xb (T t)).isEmpty=J)(h:eqL (xb (T t)) l l'=D b)(h1:All2 (bF S w γ bx) l us.toList)(h2:All2 (bF S w γ bx) l' vs.toList) :
  P.eqGuardType P.depth t=J/\(ò 10000 t (.agg us) (.agg vs)).run P w = .ok b w:=by
 cases ht:T t with
 |none=>simp[xb,ht]at bD
 |some ti=>
  simp only[xb,ht]at bD h;have hc:=jGu hT ht bD;simp only[L4,jc,jl,q9]at hc;obtain⟨⟨hk,hg⟩,hs⟩:=hc;refine⟨hg,?_⟩;have he:=Wk P w 12 t _ hk 10000 aa us.toList vs.toList b (jGx _ h h1 h2);split at hs
  .rename_i fs hu;simpa[rL,hu]using he
  .simp at hs
end
section
variable{N:NT}{np:H}{S0:aX}{w0:À}{refs:Refs}{σ:St}{a:Û}{w:À}{S:aX}{γ:H->O}{bx:H->BS}
theorem vH{k:Î}{n:(Ty.int k).den}{u:O}(h:bS S w γ bx (.one (.d (.int k) n)) u):u = .int k n:=qH (S:=S) (w:=w) h.1
theorem uz{n:Ty.bool.den}{u:O}(h:bS S w γ bx (.one (.d .bool n)) u):u = .bool n:=L9 (S:=S) (w:=w) h.1
theorem Wm{n:Ty.str.den}{u:O}(h:bS S w γ bx (.one (.d .str n)) u):u = .string n:=Ee (S:=S) (w:=w) h.1
theorem jDO{P:Á}{T:H->F TyI}(hT:cP P T){op:ä}{t:Ç}{x y:Ì}{c c':Cel}{l:Leaf}{u v:O}
  (h:binC (T t) op c c'=D (U,l))(hc:bS S w γ bx c u)(dO:bS S w γ bx c' v) :
  ∃z,(do eqGuard op t x y u v;binOp op t u v:Sem O).run P w = .ok z w/\bF S w γ bx l z/\One z:=by
 unfold binC at h;split at h
 .rename_i k p k' q;have hu:=vH hc;have hv:=vH dO;subst hu hv;split at h
  .rename_i hk;subst hk;obtain⟨z,hz,hl,h1⟩:=jDN (P:=P) (w:=w) (S:=S) (γ:=γ) (bx:=bx) t h;exact⟨z,by simp only[Z,Wd,W,hz],hl,h1⟩
  .split at h
   .split at h
    .rename_i h0;simp only[j5,j9,kc]at h;subst h;exact⟨_,by simp only[Z,Wd,W,Wi t (by simpa using h0)],rfl,rfl⟩
    .simp at h
   .simp at h
 .rename_i p q;have hu:=uz hc;have hv:=uz dO;subst hu hv;split at h
  .rename_i hb
   have Wn:P.underlying t=D .bool:=by
    unfold VY at hb;split at hb
    .rename_i ti B8;obtain⟨i,d,hi,hd,_,_,_,_,hh⟩:=oc hT B8;have:=(hh _ (by simpa using hb)).2.2;cases d<;>simp_all[mu,Ty.agg]
    .simp at hb
   split at h
   .simp only[j5,j9,kc]at h;subst h;refine⟨.bool (p==q),?_,rfl,rfl⟩;simp only[Z,We,W,binOp];simp only[ü,ï,run_equalIn_bool' w 9999 t p q Wn,W,Ã]
   .simp only[j5,j9,kc]at h;subst h;refine⟨.bool (!(p==q)),?_,rfl,rfl⟩;simp only[Z,We,W,binOp];simp only[ü,ï,run_equalIn_bool' w 9999 t p q Wn,W,Ã]
   .simp at h
  .simp at h
 .rename_i p q;have hu:=Wm hc;have hv:=Wm dO;subst hu hv;split at h
  .simp only[j5,j9,kc]at h;subst h;exact⟨_,by simp only[Z,Wh,W,binOp,ð,Ã],rfl,rfl⟩
  .simp only[j5,j9,kc]at h;subst h;exact⟨_,by simp only[Z,Wh,W,binOp,ð,Ã],rfl,rfl⟩
  .simp at h
 .rename_i p q;obtain⟨us,rfl,h1,_⟩:=hc;obtain⟨vs,rfl,h2,_⟩:=dO;split at h
  .simp at h
  rename_i bD;have bD:(xb (T t)).isEmpty=false:=by simpa using bD
  split at h
  .split at h
   .rename_i b hb;simp only[j5,j9,kc]at h;subst h;obtain⟨hg,he⟩:=Wl hT bD hb h1 h2;exact⟨_,by simp only[Z,run_eqGuard_agg w .eql t x y us vs hg,W,run_eql_struct,he],rfl,rfl⟩
   .simp at h
  .split at h
   .rename_i b hb;simp only[j5,j9,kc]at h;subst h;obtain⟨hg,he⟩:=Wl hT bD hb h1 h2;exact⟨_,by simp only[Z,run_eqGuard_agg w .neq t x y us vs hg,W,run_neq_struct,he],rfl,rfl⟩
   .simp at h
  .simp at h
 .simp at h
theorem jGy{P:Á}{op:UnOp}{c:Cel}{l:Leaf}{u:O}(h:unC op c=D l)(hc:bS S w γ bx c u) :
  ∃z,(í op u).run P w = .ok z w/\bF S w γ bx l z/\One z:=by
 unfold unC at h;split at h
 .have hu:=uz hc;subst hu;split at h
  .simp at h;subst h;exact⟨_,by simp[í],rfl,rfl⟩
  .simp at h
 .have hu:=vH hc;subst hu;split at h
  .simp at h;subst h;exact⟨_,by simp[í,Þ],rfl,rfl⟩
  .simp at h
 .simp at h
theorem jGz{P:Á}{cs:I Cel}{l:Leaf}{us:I O}{ts:È Ç}{ty:Ç}(h:minC cs=D l)(hc:All2 (bS S w γ bx) cs us) :
  ∃z,(é ts ty us.toArray).run P w = .ok z w/\bF S w γ bx l z/\One z:=by
 unfold minC at h;split at h
 .rename_i k p k' q;match us,hc with
  |[u,v],⟨h1,h2,_⟩=>
   have hu:=vH h1;have hv:=vH h2;subst hu hv;split at h
   .simp at h;subst h;exact⟨_,by simp[é,Builtin.min2],rfl,rfl⟩
   .simp at h
 .simp at h
theorem jGA{P:Á}{cs:I Cel}{l:Leaf}{us:I O}{ts:È Ç}{ty:Ç}(h:maxC cs=D l)(hc:All2 (bS S w γ bx) cs us) :
  ∃z,(ê ts ty us.toArray).run P w = .ok z w/\bF S w γ bx l z/\One z:=by
 unfold maxC at h;split at h
 .rename_i k p k' q;match us,hc with
  |[u,v],⟨h1,h2,_⟩=>
   have hu:=vH h1;have hv:=vH h2;subst hu hv;split at h
   .simp at h;subst h;exact⟨_,by simp[ê,Builtin.max2],rfl,rfl⟩
   .simp at h
 .simp at h
theorem qI:∀(t:Ty)(v:t.den)(cs:I O),Rep S w t v cs->All2 (λx z=>Rep S w x.t x.v [z]) (scat t v) cs
 |.int k,v,cs,h=>by rw[h];exact⟨rfl,trivial⟩
 |.bool,v,cs,h=>by rw[h];exact⟨rfl,trivial⟩
 |.str,v,cs,h=>by rw[h];exact⟨rfl,trivial⟩
 |.unit,v,cs,h=>by rw[h];exact trivial
 |.wrap a,v,cs,h=>qI a v cs h
 |.pair a b,v,cs,⟨c1,c2,e,h1,h2⟩=>by rw[e];exact(qI a v.1 c1 h1).append (qI b v.2 c2 h2)
 |.list a,v,cs,h=>by
  obtain⟨ad,cap,e,h'⟩:=h;subst e;exact⟨⟨ad,cap,rfl,h'⟩,trivial⟩
 |.arr n a,v,cs,⟨hn,css,ha,e⟩=>by
  have key:∀(xs:I a.den)(css:I (I O)),All2 (λx c=>Rep S w a x c) xs css->
    All2 (λx z=>Rep S w x.t x.v [z]) (xs.flatMap (scat a)) css.flatten:=by
   intro xs;induction xs with
   |nil=>intro css h;cases css with|nil=>exact trivial|cons _ _=>exact h.elim
   |cons x xs ih=>
    intro css h;cases css with
    |nil=>exact h.elim
    |cons c css=>exact(qI a x c h.1).append (ih css h.2)
  have hw:∀l:I a.den,(Ñ l.length).flatMap (λi=>scat a (l.getD i a.dflt))=l.flatMap (scat a):=by
   intro l;induction l with
   |nil=>rfl
   |cons x l ih=>rw[jf,List.range_succ_eq_map,qz,List.flatMap_map];simp only[qz];congr 1
  have hm:∀(l:I a.den)(m:H),l.length=m->(Ñ m).flatMap (λi=>scat a (l.getD i a.dflt))=l.flatMap (scat a):=by intro l m hl;subst hl;exact hw l
  have he:scat (.arr n a) v=List.flatMap (scat a) v:=hm v n hn;rw[e,he];exact key v css ha
theorem sK:∀{xs:I TV}{cs:I O},All2 (λx z=>Rep S w x.t x.v [z]) xs cs->All2 (bF S w γ bx) (xs.map TV.leaf) cs:=
 λh=>All2.map_left.2 h
theorem Mb(t:Ty)(v:t.den)(cs:I O)(u:O)(h:Rep S w t v cs)(hu:(t.agg=U\/∃n a,t = .arr n a)->u = .agg cs.toArray)(fF:t.agg=J->(∀n a,t ≠ .arr n a)->cs=[u]) :
  bS S w γ bx (qA t v) u:=by
 cases t with
 |int k=>have:=fF rfl ae;subst this;exact⟨h,λ_=>Rep.one _ _ _ h u ae⟩
 |bool=>have:=fF rfl ae;subst this;exact⟨h,λ_=>Rep.one _ _ _ h u ae⟩
 |str=>have:=fF rfl ae;subst this;exact⟨h,λ_=>Rep.one _ _ _ h u ae⟩
 |list a=>have:=fF rfl ae;subst this;exact⟨h,λ_=>Rep.one _ _ _ h u ae⟩
 |unit=>have:=hu (.inl rfl);subst this;exact⟨_,rfl,by simpa using sK (qI _ v cs h),by simpa using Rep.one _ _ _ h⟩
 |wrap a=>have:=hu (.inl rfl);subst this;exact⟨_,rfl,by simpa using sK (qI _ v cs h),by simpa using Rep.one _ _ _ h⟩
 |pair a b=>have:=hu (.inl rfl);subst this;exact⟨_,rfl,by simpa using sK (qI _ v cs h),by simpa using Rep.one _ _ _ h⟩
 |arr n a=>have:=hu (.inr ⟨n,a,rfl⟩);subst this;exact⟨_,rfl,by simpa using h⟩
theorem Wo{g o:H}{cs:I O}(h:∀j v,cs[j]? = D v->w.cell? ⟨g,o+j,B⟩=D v)(P:Á) :
  (loadCells ⟨g,o,B⟩ cs.length).run P w = .ok cs.toArray w:=
 run_loadCells_list (P:=P) w ⟨g,o,B⟩ cs (λj v hv=>by rw[Í];exact h j v hv)
theorem jzf{P:Á}{T:H->F TyI}(hT:cP P T){t:Ç}{ti:TyI}(ht:T t=D ti){ls:I Leaf}{c:Cel}(h:uy ti ls=D c)
  {g o:H}{cs:I O}(hr:All2 (bF S w γ bx) ls cs)(h1:∀u∈cs,One u)(hl:∀j v,cs[j]? = D v->w.cell? ⟨g,o+j,B⟩=D v) :
  ∃u,(loadVar t ⟨g,o,B⟩).run P w = .ok u w/\bS S w γ bx c u:=by
 unfold uy at h;split at h
 .rename_i ha;split at h
  .rename_i hlen;simp at h;subst h;refine⟨.agg cs.toArray,?_,cs.toArray,rfl,by simpa using hr,by simpa using h1⟩;have hs:=Wo (w:=w) hl P;rw[<-hr.length,hlen]at hs;simp only[loadVar,Z,B6 hT ht,ha,W,if_true,jM hT ht,hs,Ã]
  .simp at h
 .rename_i ha;split at h
  .simp at h;subst h;match cs,hr with
   |[u],⟨hr,_⟩=>refine⟨u,?_,hr,λ_=>h1 u ae⟩;have fa:=hl 0 u rfl;simp only[loadVar,Z,B6 hT ht,W,if_neg ha,run_load];rw[Nat.add_zero]at fa;simp[fa]
  .simp at h
end
theorem zI{α:Type}{R:α->I O->Prop}{m:H}(hm:∀x c,R x c->c.length=m) :
  ∀{xs:I α}{css:I (I O)},All2 R xs css->∀(i:H)(d:α),i<xs.length->
   ∃c,css[i]? = D c/\R (xs.getD i d) c/\∀(j:H)(v:O),c[j]? = D v->css.flatten[i*m+j]? = D v
 |[],_,_,i,d,hi=>by simp at hi
 |x::xs,c::css,h,0,d,_=>⟨c,ae,by simpa using h.1,λj v hv=>by
  grind⟩
 |x::xs,c::css,h,i+1,d,hi=>by
  obtain⟨c',h1,h2,h3⟩:=zI hm h.2 i d (by simpa using hi);refine⟨c',by simpa using h1,by simpa using h2,λj v hv=>?_⟩;have hl:=hm _ _ h.1;grind
 |_::_,[],h,_,_,_=>h.elim
section
variable{N:NT}{np:H}{S0:aX}{w0:À}{refs:Refs}{σ:St}{a:Û}{w:À}{S:aX}{γ:H->O}
def RdR(σ:St)(rd:H->BS):Prop:=∀k,rd k=σ.bx k\/rd k = .gone
theorem RdR.live{rd:H->BS}(h:RdR σ rd){k:H}{b:Bx}(hk:rd k = .live b):σ.bx k = .live b:=by
 rcases h k with h|h;all_goals simp_all
theorem RdR.free{rd:H->BS}(h:RdR σ rd){k:H}(hk:iR (rd k)=U):σ.bx k = .free:=by
 rcases h k with h|h;all_goals grind[iR]
def NoM(rd:H->BS):Prop:=∀(k e:H)(a:Ty)(xs:I a.den)(f:X),rd k = .live (.lst e a xs f)->isM e=J
def RdOk(σ:St)(rd:H->BS):Prop:=RdR σ rd/\NoM rd
theorem RdOk.live{rd:H->BS}(h:RdOk σ rd){k:H}{b:Bx}(hk:rd k = .live b):σ.bx k = .live b:=h.1.live hk
theorem RdOk.free{rd:H->BS}(h:RdOk σ rd){k:H}(hk:iR (rd k)=U):σ.bx k = .free:=h.1.free hk
theorem RdOk.nm{rd:H->BS}(h:RdOk σ rd){k e:H}{a:Ty}{xs:I a.den}{f:X}(hk:rd k = .live (.lst e a xs f)):isM e=false:=h.2 k e a xs f hk
theorem jAI{rd:H->BS}{k:H}{b:Bx}(h:mskM rd k = .live b):rd k = .live b/\∀(e:H)(a:Ty)(xs:I a.den)(f:X),b = .lst e a xs f->isM e=false:=by
 grind[mskM]
theorem Wp{rd:H->BS}(k:H):mskM rd k=rd k\/mskM rd k = .gone:=by
 grind[mskM]
theorem jGB(rd:H->BS):NoM (mskM rd):=λk e a xs f h=>(jAI h).2 e a xs f rfl
theorem RdR.msk{rd:H->BS}(h:RdR σ rd):RdOk σ (mskM rd):=
 ⟨λk=>(Wp (rd:=rd) k).elim (λe=>(h k).imp (e.trans ·) (e.trans ·)) .inr,jGB rd⟩
theorem jDP(hR:Rel N np S0 w0 refs σ a w S γ){k e:H}{t:Ty}{xs:I t.den}{frz:X}(hk:σ.bx k = .live (.lst e t xs frz))
  {g cap:H}(hg:γ k = .slice (D ⟨g,0,B⟩) xs.length cap){i:H}(hi:i<xs.length) :
  ∃cs,Rep S w t (xs.getD i t.dflt) cs/\∀(j:H)(v:O),cs[j]? = D v->w.cell? ⟨g,i*t.size+j,B⟩=D v:=by
 obtain⟨css,aS,ha,_⟩:=HU hg (hR.box k _ hk);obtain⟨c,h1,h2,h3⟩:=zI (λx c hx=>Rep.length t x c hx) ha i t.dflt hi;refine⟨c,h2,λj v hv=>?_⟩;have:=aS.cells (g:=g) (by rw[hg];rfl) (i*t.size+j) v (h3 j v hv);grind[Í]
theorem jDQ(hR:Rel N np S0 w0 refs σ a w S γ){k n:H}{t:Ty}{xs:I t.den}(hk:σ.bx k = .live (.arr n t xs))
  {g:H}(hg:γ k = .pointer (D ⟨g,0,B⟩)){i:H}(hi:i<n) :
  ∃cs,Rep S w t (xs.getD i t.dflt) cs/\∀(j:H)(v:O),cs[j]? = D v->w.cell? ⟨g,i*t.size+j,B⟩=D v:=by
 obtain⟨g',cur,e,aP,hh,⟨hn,css,ha,he⟩,_⟩:=hR.box k _ hk;rw[hg]at aP;simp at aP;subst aP;obtain⟨c,h1,h2,h3⟩:=zI (λx c hx=>Rep.length t x c hx) ha i t.dflt (by rw[hn];exact hi);grind[cell_of_row]
theorem jsl{l:I O}{c n j:H}{v:O}(h:((l.drop c).take n)[j]? = D v):l[c+j]? = D v:=by
 grind
theorem HW{l:I O}{c n:H}{P:O->Prop}(h:∀u∈l,P u):∀u∈(l.drop c).take n,P u:=
 λu hu=>h u (zg (ql hu))
theorem Wq{P:Á}{E:Env}(hT:cP P E.T)(hR:Rel N np S0 w0 refs σ a w S γ){rd:H->BS}(ba:RdOk σ rd){t:Ç}{ti:TyI}(ht:E.T t=D ti)
  {x:Leaf}{c:Cel}{u:O}(h:qB rd ti x=D c)(hx:bF S w γ σ.bx x u) :
  ∃z,(Ü t u).run P w = .ok z w/\bS S w γ σ.bx c z:=by
 have fin:∀(g o:H)(ls:I Leaf)(cs:I O),u = .pointer (D ⟨g,o,B⟩)->uy ti ls=D c->All2 (bF S w γ σ.bx) ls cs->(∀u∈cs,One u)->
   (∀(j:H)(v:O),cs[j]? = D v->w.cell? ⟨g,o+j,B⟩=D v)->∃z,(Ü t u).run P w = .ok z w/\bS S w γ σ.bx c z:=by
  intro g o ls cs hu hm hr h1 hl;obtain⟨z,hz,hc⟩:=jzf (P:=P) hT ht hm hr h1 hl;grind[Ü,Ô]
 cases x with
 |bp k o=>
  obtain⟨_,_,hb⟩:=hx;simp only[qB]at h;split at h
  .rename_i ls frz hk;have hk:=ba.live hk;obtain⟨g,hg,hu⟩:=hb _ hk;obtain⟨g',cur,e,aP,hh,ha,h1,_⟩:=hR.box k _ hk;rw[hg]at aP;simp at aP;subst aP;refine fin g o _ (((cur.toList.take ls.length).drop o).take ti.size) hu h ((ha.drop o).take ti.size) (HW h1) (λj v hv=>?_);grind[cell_of_row]
  .rename_i n el xs hk;split at h
   .rename_i hc;obtain⟨rfl,bJ⟩:=hc;simp at h;subst h;have hk:=ba.live hk;obtain⟨g,hg,hu⟩:=hb _ hk;obtain⟨g',cur,e,aP,hh,bR,_⟩:=hR.box k _ hk;rw[hg]at aP;simp at aP;subst aP;obtain⟨Wr,_,_⟩:=B7 hT ht bJ;obtain⟨i,d,hi,hd,hs,_,pM,_,xt⟩:=oc hT ht
    have cO:cur.size=ti.size:=by
     have:=Rep.length _ _ _ bR
     simp_all
    refine⟨.agg cur,?_,cur,rfl,bR⟩;grind[run_loadVar_row,Ü,Ô]
   .simp at h
  .simp at h
 |ep k i o=>
  obtain⟨_,_,hb⟩:=hx;simp only[qB]at h;split at h
  .rename_i e el xs frz hk;have hk:=ba.live hk;obtain⟨_,hi,g,cap,hg,hu⟩:=hb _ hk;obtain⟨cs,bR,fa⟩:=jDP hR hk hg hi;refine fin g _ _ ((cs.drop o).take ti.size) hu h (((sK (qI el _ cs bR)).drop o).take ti.size) (HW (Rep.one _ _ _ bR)) (λj v hv=>?_);grind
  .rename_i n el xs hk;have hk:=ba.live hk;obtain⟨hi,g,hg,hu⟩:=hb _ hk;obtain⟨cs,bR,fa⟩:=jDQ hR hk hg hi;refine fin g _ _ ((cs.drop o).take ti.size) hu h (((sK (qI el _ cs bR)).drop o).take ti.size) (HW (Rep.one _ _ _ bR)) (λj v hv=>?_);grind
  .rename_i e el n ls hk;split at h
   .have hk:=ba.live hk;obtain⟨_,hi,g,cap,hg,hu⟩:=hb _ hk;obtain⟨_,⟨cs,aS,ha,h1⟩,_⟩:=hR.box k _ hk;refine fin g _ _ ((cs.drop (i*el.size+o)).take ti.size) hu h ((ha.drop _).take ti.size) (HW h1) (λj v hv=>?_);have:=aS.cells (g:=g) (by rw[hg];rfl) _ v (jsl hv);grind[Í]
   .simp at h
  .simp at h
 |ip ls=>
  obtain⟨g,o,cs,hu,ha,hl⟩:=hx;simp only[qB]at h;refine fin g o _ (cs.take ti.size) hu h ((sK ha).take ti.size) (λu hu=>?_) (λj v hv=>?_)
  .obtain⟨x,_,hx⟩:=ha.mem_right u (ql hu);grind[Rep.one]
  .rw[List.getElem?_take]at hv;split at hv
   .exact(hl j v hv).2
   .simp at hv
 |_=>simp[qB]at h
theorem jqO{P:Á}{T:H->F TyI}(hT:cP P T){f:Field}{tf:TyI}(hf:T f.type=D tf)(hs:0<tf.size)(g o:H) :
  (fieldPlace ⟨g,o,B⟩ f).run P w = .ok ⟨g,o+f.offset,B⟩ w:=by
 grind[fieldPlace,Z,jM,W,Ã,Í]
theorem Ef{rd:H->BS}{k:H}(h:isLive (rd k)=U):∃b,rd k = .live b:=by
 revert h
 cases rd k<;>simp[isLive]
theorem jzg{P:Á}{E:Env}(hT:cP P E.T){rd:H->BS}(ba:RdOk σ rd){t:Ç}{ti:TyI}(ht:E.T t=D ti){i:H}{x l:Leaf}{u:O}
  (h:rH rd ti i x=D l)(hx:bF S w γ σ.bx x u) :
  ∃z,(ã t u i).run P w = .ok z w/\bF S w γ σ.bx l z/\One z:=by
 have fin:∀(g o:H)(f:H×H),u = .pointer (D ⟨g,o,B⟩)->ti.flds[i]? = D f->
   (ã t u i).run P w = .ok (.pointer (D ⟨g,o+f.1,B⟩)) w:=by
  intro g o f hu hf;obtain⟨fs,hd,fl,fE,zJ,bJ,tf,xq,hs⟩:=Wc hT ht hf;subst hu;simp only[ã,Z,run_underlying hd,W,fE,Ô,Ã,jqO hT (bJ▸xq) hs,zJ]
 cases x with
 |bp k o=>
  obtain⟨gY,_,hb⟩:=hx;simp only[rH]at h;split at h
  .rename_i f hf;split at h
   .rename_i hl;simp at h;subst h;obtain⟨b,hk⟩:=Ef hl;obtain⟨g,hg,hu⟩:=hb b (ba.live hk);exact⟨_,fin g o f hu hf,⟨gY,rfl,λb' aZ=>by simp_all⟩,rfl⟩
   .simp at h
  .simp at h
 |ep k j o=>
  obtain⟨gY,_,hb⟩:=hx;simp only[rH]at h;split at h
  .rename_i f hf;split at h
   .rename_i hl;simp at h;subst h;obtain⟨b,hk⟩:=Ef hl;have h0:=hb b (ba.live hk);have fH:=ba.live hk;cases b with
    |cell _ _=>exact h0.elim
    |lst e el xs frz=>obtain⟨cF,hi,g,cap,hg,hu⟩:=h0;refine⟨_,fin g _ f hu hf,⟨gY,rfl,λb' aZ=>?_⟩,rfl⟩;grind
    |arr n el xs=>obtain⟨hi,g,hg,hu⟩:=h0;refine⟨_,fin g _ f hu hf,⟨gY,rfl,λb' aZ=>?_⟩,rfl⟩;grind
    |row e el n ls=>obtain⟨cF,hi,g,cap,hg,hu⟩:=h0;refine⟨_,fin g _ f hu hf,⟨gY,rfl,λb' aZ=>?_⟩,rfl⟩;grind
   .simp at h
  .simp at h
 |ip ls=>
  obtain⟨g,o,cs,hu,ha,hl⟩:=hx;simp only[rH]at h;split at h
  .rename_i f hf;simp at h;subst h;refine⟨_,fin g o f hu hf,⟨g,o+f.1,cs.drop f.1,rfl,ha.drop f.1,λj v hv=>?_⟩,rfl⟩;rw[List.getElem?_drop]at hv;have:=hl _ v hv;grind
  .simp at h
 |_=>simp[rH]at h
theorem xu{i:Ä}{n:H}:inR i n=U↔0<=i/\i<n:=by simp[inR]
theorem HX{P:Á}{T:H->F TyI}(hT:cP P T){t:Ç}{ti:TyI}(ht:T t=D ti){a':Ty}{k:Î}{i:Ä}{len cap g o:H}(bJ:ti.ty=D (.list a'))(hi:0<=i/\i<len) :
  (Ò t (.slice (D ⟨g,o,B⟩) len cap) (.int k i)).run P w = .ok (.pointer (D ⟨g,o+i.toNat*a'.size,B⟩)) w:=by
 obtain⟨hd,_,te,dJ,cS⟩:=oD hT ht bJ;have hs:=od hT dJ cS;simp only[Ò,asIntOf,Z,Ã,W,run_underlying hd,ß,if_pos hi,jM hT dJ,hs,Í]
theorem Ws{P:Á}{T:H->F TyI}(hT:cP P T){t:Ç}{ti:TyI}(ht:T t=D ti){n:H}{a':Ty}{k:Î}{i:Ä}{g o:H}(bJ:ti.ty=D (.arr n a'))(hi:0<=i/\i<n) :
  (Ò t (.pointer (D ⟨g,o,B⟩)) (.int k i)).run P w = .ok (.pointer (D ⟨g,o+i.toNat*a'.size,B⟩)) w:=by
 obtain⟨hd,_,te,dJ,cS⟩:=B7 hT ht bJ;have hs:=od hT dJ cS;simp only[Ò,asIntOf,Z,Ã,W,run_underlying hd,Ô,ß,if_pos hi,jM hT dJ,hs,Í]
theorem Mc{t:F Ty}(h:pK t=U):∃a,t=D (.list a):=by
 unfold pK at h;grind
theorem jzh{P:Á}{E:Env}(hT:cP P E.T)(hR:Rel N np S0 w0 refs σ a w S γ){rd:H->BS}(ba:RdOk σ rd){t:Ç}{ti:TyI}(ht:E.T t=D ti)
  {x y l:Leaf}{u v:O}(h:u7 rd ti x y=D (U,l))(hx:bF S w γ σ.bx x u)(hy:bF S w γ σ.bx y v) :
  ∃z,(Ò t u v).run P w = .ok z w/\bF S w γ σ.bx l z/\One z:=by
 unfold u7 at h;split at h
 .rename_i k kd i;have hv:v = .int kd i:=qH (S:=S) (w:=w) hy;subst hv;split at h
  .rename_i e el xs frz hk;split at h
   .rename_i bJ;simp only[j5,j9]at h;obtain⟨hi,rfl⟩:=h;have bG:=xu.1 hi;have cF:=ba.nm hk;have hk:=ba.live hk;have hu:=hx.2.2 _ hk;obtain⟨css,aS,_⟩:=jE cF (hR.box k _ hk);rcases aS.2 with⟨_,hz⟩|⟨g,cap,cur,hg,_,hh,_⟩
    .omega
    .rw[hu,hg];refine⟨_,HX hT ht bJ bG,⟨hx.1,rfl,λb hb=>?_⟩,rfl⟩
     simp_all
   .simp at h
  .rename_i e el n ls hk;split at h
   .rename_i bJ;simp only[j5,j9]at h;obtain⟨hi,rfl⟩:=h;have bG:=xu.1 hi;have hk:=ba.live hk;have hu:=hx.2.2 _ hk;obtain⟨cF,⟨cs,aS,_,_⟩,_⟩:=hR.box k _ hk;rcases aS.2 with⟨_,hz⟩|⟨g,cap,cur,hg,_,hh,_⟩
    .omega
    .have hj:cond (â n 1) 0 (Â i)=i.toNat:=by grind[Nat.eq_of_beq_eq_true]
     rw[hu,hg,hj];refine⟨_,HX hT ht bJ bG,⟨hx.1,rfl,λb hb=>?_⟩,rfl⟩
     simp_all
   .simp at h
  .simp at h
 .rename_i el xs kd i;have hv:v = .int kd i:=qH (S:=S) (w:=w) hy;subst hv;split at h
  .rename_i bJ;simp only[j5,j9]at h;obtain⟨hi,rfl⟩:=h;have bG:=xu.1 hi;obtain⟨ad,cap,hu,hle,jN,hn,hb⟩:=hx;simp at hu;subst hu;cases ad with
   |none=>have:=hn rfl;omega
   |some b=>obtain⟨dx,css,ha,hl⟩:=hb b rfl;obtain⟨g,o,sp⟩:=b;have dx:=dx (λe=>by grind);simp at dx;subst dx;refine⟨_,HX hT ht bJ bG,?_,rfl⟩;obtain⟨c,h1,h2,h3⟩:=zI (λx c hx=>Rep.length el x c hx) ha i.toNat el.dflt aa;exact⟨g,_,c,rfl,qI el _ c h2,λj v hv=>by rw[Nat.add_assoc];exact hl _ v (h3 j v hv)⟩
  .simp at h
 .rename_i k kd i;have hv:v = .int kd i:=qH (S:=S) (w:=w) hy;subst hv;split at h
  .rename_i n el xs hk;split at h
   .rename_i bJ;simp only[j5,j9]at h;obtain⟨hi,rfl⟩:=h;have bG:=xu.1 hi;have hk:=ba.live hk;obtain⟨g,hg,hu⟩:=hx.2.2 _ hk;subst hu;refine⟨_,Ws hT ht bJ bG,⟨hx.1,rfl,λb hb=>?_⟩,rfl⟩
    simp_all
   .simp at h
  .rename_i ls frz hk;split at h
   .rename_i n el bJ;split at h
    .rename_i kL;simp only[j5,j9]at h;obtain⟨hi,rfl⟩:=h;have bG:=xu.1 hi;have hk:=ba.live hk;obtain⟨g,hg,hu⟩:=hx.2.2 _ hk;subst hu;obtain⟨a',my⟩:=Mc kL;cases my;refine⟨_,Ws hT ht bJ bG,⟨hx.1,rfl,λb hb=>?_⟩,rfl⟩;grind[Ty.size]
    .simp at h
   .simp at h
  .simp at h
 .rename_i k j kd i;have hv:v = .int kd i:=qH (S:=S) (w:=w) hy;subst hv;split at h
  .rename_i e el xs frz hk;split at h
   .rename_i bJ;simp only[j5,j9]at h;obtain⟨hi,rfl⟩:=h;have bG:=xu.1 hi;have cF:=ba.nm hk;have hk:=ba.live hk;obtain⟨_,hj,ad,iz,aP,hu⟩:=hx.2.2 _ hk;obtain⟨css,aS,_⟩:=jE cF (hR.box k _ hk);rcases aS.2 with⟨_,hz⟩|⟨g,cap,cur,hg,_,hh,kZ,_⟩
    .omega
    .rw[hg]at aP;simp only[Value.slice.injEq,kc]at aP;obtain⟨rfl,rfl⟩:=aP;rw[if_neg (show¬cap=j by omega)]at hu;simp only[kb,Í,ku]at hu;subst hu;refine⟨_,HX hT ht bJ bG,⟨hx.1,rfl,λb hb=>?_⟩,rfl⟩;grind
   .simp at h
  .simp at h
 .simp at h
theorem Md{P:Á}{T:H->F TyI}(hT:cP P T){n:H}{ti:TyI}(hn:T n=D ti)(ht:ti.ty=D .str):P.underlying n=D .string:=by
 obtain⟨i,d,hi,hd,hs,_,ha,_,h⟩:=oc hT hn;have:=(h _ ht).2.2;cases d<;>simp_all[mu,Ty.agg]
theorem jAK{P:Á}{E:Env}(hT:cP P E.T){t:H}{ti:TyI}(ht:E.T t=D ti)(bJ:ti.ty=D .str)(s:Ë)(kd:Î)(j:Ä)(hj:inR j s.size=U) :
  (à t (.string s) (.int kd j)).run P w = .ok (.int .u8 (eJ s j)) w:=by
 have hd:=Md hT ht bJ;have hi:=xu.1 hj;have ao:j.toNat<s.size:=aa;have lg:j.toNat<s.data.size:=ao;have hg:s[j.toNat]? = D s[j.toNat]:=by simp[ao]
 simp only[à,Z,asIntOf,Ã,W,run_underlying hd];rw[if_pos hi.1,hg];simp only[Ã];congr 2;unfold eJ;have:s.data.getD j.toNat 0=s.data[j.toNat]:=by simp_all
 rw[this];rfl
theorem jDR{P:Á}{E:Env}(hT:cP P E.T){bx:H->BS}{t:Ç}{ti:TyI}(ht:E.T t=D ti)
  {c c':Cel}{y:Leaf}{u v:O}(h:idxV ti c y=D (U,c'))(hc:bS S w γ bx c u)(hy:bF S w γ bx y v) :
  ∃z,(à t u v).run P w = .ok z w/\bS S w γ bx c' z:=by
 unfold idxV at h;split at h
 .rename_i n el xs kd i;have hv:v = .int kd i:=qH (S:=S) (w:=w) hy;subst hv;split at h
  .rename_i bJ;simp only[j5,j9]at h;obtain⟨hi,rfl⟩:=h;have bG:=xu.1 hi;obtain⟨cs,rfl,hn,css,ha,he⟩:=hc;obtain⟨hd,bZ,te,dJ,cS⟩:=B7 hT ht bJ;have cO:=od hT dJ cS;obtain⟨c,h1,h2,h3⟩:=zI (λx c hx=>Rep.length el x c hx) ha i.toNat el.dflt aa;have eu:=Rep.length el _ c h2
   have hex:∀j,j<te.size->cs.toList[i.toNat*el.size+j]? = c[j]? := by
    simp_all
   obtain⟨ii,dd,hii,pN,_,_,pM,_,iH⟩:=oc hT dJ
   have sL:∃z,(part ti.elem cs (i.toNat*te.size)).run P w = .ok z w/\bS S w γ bx (qA el (xs.getD i.toNat el.dflt)) z:=by
    have gn:=(iH _ cS).2.2;rw[<-cO];by_cases qJ:te.agg=U
    .refine⟨.agg (cs.extract (i.toNat*el.size) (i.toNat*el.size+te.size)),?_,?_⟩
     .grind[part,Z,B6,W,jM,Ã]
     .have lh:(cs.extract (i.toNat*el.size) (i.toNat*el.size+te.size))=c.toArray:=by apply Array.ext';simp only[Array.toList_extract,List.extract_eq_take_drop];apply zw;grind
      rw[lh];refine Mb el _ c _ h2 (λ_=>rfl) (λhf hna=>?_);exfalso;rw[qJ]at pM;cases dd with
      |struct fs=>grind[mu]
      |array m e=>cases el<;>simp[mu]at gn;exact hna _ _ rfl
      |_=>simp[aggD]at pM
    .have hf:te.agg=false:=by simpa using qJ
     have fI:el.agg=J/\∀n a,el ≠ .arr n a:=by
      rw[hf]at pM;cases dd with
      |struct fs=>simp[aggD]at pM
      |array m e=>simp[aggD]at pM
      |int k=>simp[mu]at gn;subst gn;exact⟨rfl,ae⟩
      |bool=>simp[mu]at gn;subst gn;exact⟨rfl,ae⟩
      |string=>simp[mu]at gn;subst gn;exact⟨rfl,ae⟩
      |slice e=>cases el<;>simp[mu]at gn;exact⟨rfl,ae⟩
      |_=>simp[mu]at gn
     have df:∃z,c=[z]:=by
      have:el.size=1:=by cases el<;>first|rfl|(exfalso;simp[Ty.agg]at fI)
      grind[List.length_eq_one_iff]
     obtain⟨z,rfl⟩:=df;have hz:cs[i.toNat*el.size]? = D z:=by grind
     refine⟨z,?_,Mb el _ [z] z h2 (λho=>?_) (λ_ _=>rfl)⟩;all_goals grind[part,Z,B6,W,Ã]
   obtain⟨z,hz,iU⟩:=sL;refine⟨z,?_,iU⟩;simp only[à,asIntOf,Z,Ã,W,run_underlying hd,ß,if_pos bG,jM hT dJ,hz]
  .simp at h
 .rename_i s kd i;have hv:v = .int kd i:=qH (S:=S) (w:=w) hy;subst hv;split at h
  .rename_i bJ;simp only[j5,j9]at h;obtain⟨hi,rfl⟩:=h;have hu:u = .string s:=Ee (S:=S) (w:=w) hc.1;subst hu;exact⟨_,jAK hT ht bJ s kd i hi,rfl,λ_=>rfl⟩
  .simp at h
 .simp at h
theorem jDS{P:Á}{E:Env}(hT:cP P E.T)(hR:Rel N np S0 w0 refs σ a w S γ){rd:H->BS}(ba:RdOk σ rd){t ty:Ç}{ti:TyI}(ht:E.T t=D ti){x l:Leaf}{u:O}
  (h:lenC rd ti.ty x=D l)(hx:bF S w γ σ.bx x u):∃z,(Ý #[t] ty #[u]).run P w = .ok z w/\bF S w γ σ.bx l z/\One z:=by
 have sl:∀(ad:F Addr)(n c:H),pK ti.ty=U->(Ý #[t] ty #[.slice ad n c]).run P w = .ok (.int .i64 n) w:=by intro ad n c hl;obtain⟨a',bJ⟩:=Mc hl;obtain⟨hd,_⟩:=oD hT ht bJ;simp[Ý,run_underlying hd,goInt]
 unfold lenC at h;split at h
 .split at h
  .rename_i hl;simp at h;subst h;have hu:u = .slice B 0 0:=hx;subst hu;exact⟨_,sl B 0 0 hl,rfl,rfl⟩
  .simp at h
 .rename_i k;split at h
  .rename_i e el xs frz hk;split at h
   .rename_i hl;simp at h;subst h;have cF:=ba.nm hk;have hk:=ba.live hk;have hu:=hx.2.2 _ hk;obtain⟨css,aS,_⟩:=jE cF (hR.box k _ hk);rcases aS.2 with⟨hg,hz⟩|⟨g,cap,cur,hg,_⟩
    .rw[hu,hg,hz];exact⟨_,sl _ _ _ hl,rfl,rfl⟩
    .rw[hu,hg];exact⟨_,sl _ _ _ hl,rfl,rfl⟩
   .simp at h
  .rename_i e el n ls hk;split at h
   .rename_i hl;simp at h;subst h;have hk:=ba.live hk;have hu:=hx.2.2 _ hk;obtain⟨cF,⟨cs,aS,_,_⟩,_⟩:=hR.box k _ hk;rcases aS.2 with⟨hg,hz⟩|⟨g,cap,cur,hg,_⟩
    .rw[hu,hg,hz];exact⟨_,sl _ _ _ hl,rfl,rfl⟩
    .rw[hu,hg];exact⟨_,sl _ _ _ hl,rfl,rfl⟩
   .simp at h
  .simp at h
 .rename_i el xs;split at h
  .rename_i hl;simp at h;subst h;obtain⟨ad,cap,hu,_⟩:=hx;simp at hu;subst hu;exact⟨_,sl _ _ _ hl,rfl,rfl⟩
  .simp at h
 .rename_i s;split at h
  .rename_i bJ;simp at h;subst h;have hu:u = .string s:=Ee (S:=S) (w:=w) hx;subst hu;have hd:=Md hT ht bJ;exact⟨_,by simp[Ý,run_underlying hd,goInt],rfl,rfl⟩
  .simp at h
 .rename_i k j;split at h
  .rename_i e el xs frz hk;split at h
   .rename_i hl;simp at h;subst h;have hk:=ba.live hk;obtain⟨_,hj,ad,iz,aP,hu⟩:=hx.2.2 _ hk;rw[hu];refine⟨_,sl _ _ _ hl,?_,rfl⟩;show [Value.int .i64 _]=[Value.int .i64 _];congr 2
   .simp at h
  .simp at h
 .rename_i k j;split at h
  .rename_i e el xs frz hk;split at h
   .rename_i hl;simp at h;subst h;have hk:=ba.live hk;obtain⟨_,hj,ad,iz,aP,hu⟩:=hx.2.2 _ hk;rw[hu];exact⟨_,sl _ _ _ hl,rfl,rfl⟩
   .simp at h
  .simp at h
 .simp at h
end
section
variable{N:NT}{np:H}{S0:aX}{w0:À}{refs:Refs}{σ:St}{a:Û}{w:À}{S:aX}{γ:H->O}
theorem Rel.step(hR:Rel N np S0 w0 refs σ a w S γ){bx':H->BS}{w':À}{S':aX}{γ':H->O}(hk:dI S w S' w')(hb:BxLe γ σ.bx γ' bx')
   (box:∀k b,bx' k = .live b->eZ S' w' γ' bx' k b)(own:∀k b g,bx' k = .live b->blk (γ' k)=D g->Own w0 refs g\/(g∈refs/\parK np k=U))
   (apart:∀k k' b b' g,k≠k'->bx' k = .live b->bx' k' = .live b'->blk (γ' k)=D g->blk (γ' k')≠D g)
   (new:∀g o,S' g o->S0 g o\/Own w0 refs g)(here:∀g o,S' g o->g<w'.heap.size)(below:∀g,g<w0.heap.size->g∉refs->w'.heap[g]? = w0.heap[g]?)
   (grow:w0.heap.size<=w'.heap.size)(os:w'.os=w0.os)(tape:w'.tape=w0.tape)(output:w'.output=w0.output)
   (kept:∀g,g<w.heap.size->refs.kw g≠B->(∀k b,σ.bx k = .live b->blk (γ k)≠D g)->w'.heap[g]? = w.heap[g]? /\ ∀k b,bx' k = .live b->blk (γ' k)≠D g) :
   Rel N np S0 w0 refs { σ with bx:=bx' } a w' S' γ':=
 ⟨hR.size,hR.defers,λi=>jD.keep hk hb (hR.slot i),box,own,apart,λg o h=>(hk g o (hR.ext g o h)).1,new,here,below,grow,os,tape,output,λk v h=>⟨(hR.par k v h).1,(hb k (hR.par k v h).2.1).1,(hb k (hR.par k v h).2.1).2.1.trans (hR.par k v h).2.2⟩,
  λg o h=>by
   grind[kept],hR.fix⟩
theorem eZ.keep{S':aX}{w':À}{γ':H->O}{bx bx':H->BS}(hk:dI S w S' w')(hb:BxLe γ bx γ' bx'){k:H}{b:Bx}(hg:γ' k=γ k)
  (hblk:∀g,blk (γ k)=D g->w'.heap[g]? = w.heap[g]? /\ ∀o,S' g o↔S g o)(h:eZ S w γ bx k b):eZ S' w' γ' bx' k b:=by
 cases b with
 |cell ls frz=>obtain⟨g,cur,e,h1,h2,h3,h4,h5,h6⟩:=h;obtain⟨e1,e2⟩:=hblk g (by rw[h1];rfl);exact⟨g,cur,e,hg.trans h1,e1.trans h2,h3.mono (λx u hx=>bF.keep hk hb hx),h4,λhf o hs=>h5 hf o ((e2 o).1 hs),λhf o ho=>(e2 o).2 (h6 hf o ho)⟩
 |lst e t xs frz=>
  obtain⟨h1,h3⟩:=h;refine⟨?_,λg aP=>?_⟩
  .rw[hg];exact h1.keep hk λg aP=>(hblk g aP).1
  simp_all
 |arr n t xs=>obtain⟨g,cur,e,h1,h2,h3,h4⟩:=h;obtain⟨e1,e2⟩:=hblk g (by rw[h1];rfl);exact⟨g,cur,e,hg.trans h1,e1.trans h2,Rep.keep hk _ _ _ h3,λo hs=>h4 o ((e2 o).1 hs)⟩
 |row e t n ls=>
  obtain⟨hm,⟨cs,h1,h2,h3⟩,h4⟩:=h;refine⟨hm,⟨cs,⟨h1.1,?_⟩,h2.mono (λx u hx=>bF.keep hk hb hx),h3⟩,λg aP o hs=>?_⟩
  .rw[hg];rcases h1.2 with hn|⟨g,cap,cur,hv,ig,hh,rest⟩
   .exact .inl hn
   .exact .inr ⟨g,cap,cur,hv,ig,(hblk g (by rw[hv];rfl)).1.trans hh,rest⟩
  simp_all
theorem fJ(σ:St)(k:H)(b:BS):(σ.setB k b).bx k=b:=by simp[St.setB]
theorem cu(σ:St){k k':H}(b:BS)(h:k'≠k):(σ.setB k b).bx k'=σ.bx k':=by simp[St.setB,h]
theorem jDT(hR:Rel N np S0 w0 refs σ a w S γ){k e:H}{t:Ty}{xs:I t.den}{f:X}(hm:isM e=J)(hk:σ.bx k = .live (.lst e t xs f)){S':aX}{w':À}(aW:dI S w S' w')
  (hs:∀g o,blk (γ k)=D g->o<xs.length*t.size->S' g o/\w'.cell? ⟨g,o,B⟩=w.cell? ⟨g,o,B⟩):Rep S' w' (.list t) xs [γ k]:=by
 obtain⟨css,aS,ha,_⟩:=jE hm (hR.box k _ hk);rcases aS.2 with⟨hg,hz⟩|⟨g,cap,cur,hg,_,hh,hle,jN,dm,ea⟩
 .refine⟨B,0,?_,?_,?_,λ_=>rfl,λb hb=>by simp at hb⟩;all_goals simp_all
 .refine⟨D ⟨g,0,B⟩,cap,by rw[hg],hle,jN,ae,λb hb=>?_⟩;simp at hb;subst hb;refine⟨λ_=>rfl,css,ha.mono (λx c hx=>Rep.keep aW _ _ _ hx),λj v hv=>?_⟩;have hlen:=All2.flatten_length (λx c hx=>Rep.length t x c hx) ha;have hj:j<xs.length*t.size:=by grind
  obtain⟨h1,h2⟩:=hs g j (by rw[hg];rfl) hj;simp only[ku];refine⟨h1,h2.trans ?_⟩;have:=aS.cells (g:=g) (by rw[hg];rfl) j v hv;grind[Í]
theorem Me(hR:Rel N np S0 w0 refs σ a w S γ){k e:H}{t:Ty}{xs:I t.den}{f:X}(hm:isM e=J)(hk:σ.bx k = .live (.lst e t xs f))(hp:parK np k=J) :
  ∃S',Rel N np S0 w0 refs (σ.setB k (.live (.lst e t xs U))) a w S' γ/\dI S w S' w/\Rep S' w (.list t) xs [γ k]:=by
 let S':aX:=λg o=>S g o\/(blk (γ k)=D g/\o<xs.length*t.size)
 have aW:dI S w S' w:=λg o h=>⟨.inl h,rfl⟩;have sM:Rep S' w (.list t) xs [γ k]:=jDT hR hm hk aW (λg o hb ho=>⟨.inr ⟨hb,ho⟩,rfl⟩)
 have Eg:BxLe γ σ.bx γ (σ.setB k (.live (.lst e t xs U))).bx:=by
  intro k' bC;by_cases cG:k'=k
  .subst cG;rw[fJ];exact⟨ae,rfl,λb hb=>by simp at hb;subst hb;exact⟨_,hk,rfl,rfl,λ_=>rfl⟩⟩
  .rw[cu σ _ cG];exact⟨bC,rfl,λb hb=>⟨b,hb,.refl b⟩⟩
 have bX:∀k' b,(σ.setB k (.live (.lst e t xs U))).bx k' = .live b->∃b',σ.bx k' = .live b':=by grind[cu]
 refine⟨S',?_,aW,sM⟩
 have dn:∀k' b,(σ.setB k (.live (.lst e t xs U))).bx k' = .live b->eZ S' w γ (σ.setB k (.live (.lst e t xs U))).bx k' b:=by
  intro k' b hb;by_cases cG:k'=k
  .subst cG;rw[fJ]at hb;simp at hb;subst hb;obtain⟨css,aS,ha,hS⟩:=jE hm (hR.box k' _ hk);refine B4 hm ⟨css,aS,ha.mono (λx c hx=>Rep.keep aW _ _ _ hx),λg hg=>⟨ae,λ_ o=>?_⟩⟩;grind
  .rw[cu σ _ cG]at hb;refine eZ.keep aW Eg rfl (λg hg=>⟨rfl,λo=>⟨λhs=>?_,.inl⟩⟩) (hR.box k' b hb);rcases hs with hs|hs
   .exact hs
   .exact absurd hs.1 (hR.apart k' k b _ g cG hb hk hg)
 refine Rel.step hR aW Eg dn ?_ ?_ ?_ ?_ hR.below hR.grow hR.os hR.tape hR.output (λg _ _ h=>⟨rfl,λk' b' aZ=>by grind⟩)
 .intro k' b g hb hg;obtain⟨b',aZ⟩:=bX k' b hb;exact hR.own k' b' g aZ hg
 .intro k1 k2 b1 b2 g bD h1 h2 hg;obtain⟨vI,og⟩:=bX k1 b1 h1;obtain⟨vJ,mz⟩:=bX k2 b2 h2;exact hR.apart k1 k2 vI vJ g bD og mz hg
 .intro g o hs;rcases hs with hs|hs
  .exact hR.new g o hs
  .rcases hR.own k _ g hk hs.1 with h|h;all_goals simp_all
 .intro g o hs;rcases hs with hs|hs
  .exact hR.here g o hs
  .obtain⟨css,aS,_⟩:=jE hm (hR.box k _ hk);rcases aS.2 with⟨hn,_⟩|⟨g',cap,cur,hg,_,hh,_⟩;all_goals grind[blk]
def FrzL(np:H)(bx:H->BS)(u:Ups):Prop:=
 ∀x∈u,parK np x.1=J/\∃e t xs f,bx x.1 = .live (.lst e t xs f)/\x.2 = .live (.lst e t xs U)/\isM e=J
def Froz(bx:H->BS)(γ:H->O)(S:aX)(w:À)(u:Ups):Prop:=
 ∀x∈u,∀e t xs f,bx x.1 = .live (.lst e t xs f)->Rep S w (.list t) xs [γ x.1]
theorem FrzL.app{bx:H->BS}{u v:Ups}:FrzL np bx (u++v)↔FrzL np bx u/\FrzL np bx v:=by
 simp only[FrzL,ji];grind
theorem Froz.app{bx:H->BS}{u v:Ups}:Froz bx γ S w (u++v)↔Froz bx γ S w u/\Froz bx γ S w v:=by
 simp only[Froz,ji];exact⟨λh=>⟨λx hx=>h x (.inl hx),λx hx=>h x (.inr hx)⟩,λh x hx=>hx.elim (h.1 x) (h.2 x)⟩
theorem FrzL.nil{bx:H->BS}:FrzL np bx []:=λ_ h=>by simp at h
theorem Froz.nil{bx:H->BS}:Froz bx γ S w []:=λ_ h=>by simp at h
theorem Froz.keep{bx:H->BS}{u:Ups}{S':aX}{w':À}(hk:dI S w S' w')(h:Froz bx γ S w u):Froz bx γ S' w' u:=
 λx hx e t xs f hb=>Rep.keep hk _ _ _ (h x hx e t xs f hb)
def nf(bx bx':H->BS):Prop:=
 ∀k,bx' k=bx k\/∃e t xs f f',bx k = .live (.lst e t xs f)/\bx' k = .live (.lst e t xs f')
theorem nf.refl(bx:H->BS):nf bx bx:=λ_=> .inl rfl
theorem nf.trans{b1 b2 b3:H->BS}(h:nf b1 b2)(h':nf b2 b3):nf b1 b3:=by
 intro k;rcases h k with e|⟨e,t,xs,f,f',h1,h2⟩
 .rcases h' k with e'|⟨e2,t,xs,f,f',h1,h2⟩;all_goals grind
 .rcases h' k with e'|⟨e2,t2,Wt,f2,f2',h3,h4⟩;all_goals grind
theorem nf.free{b1 b2:H->BS}(h:nf b1 b2){k:H}(hk:b1 k = .free):b2 k = .free:=by
 rcases h k with e|⟨e,t,xs,f,f',h1,h2⟩;all_goals simp_all
theorem nf.cell{b1 b2:H->BS}(h:nf b1 b2){k:H}{ls:I Leaf}{f:X}(hk:b1 k = .live (.cell ls f)):b2 k = .live (.cell ls f):=by
 rcases h k with e|⟨e,t,xs,f,f',h1,h2⟩;all_goals simp_all
theorem nf.arr{b1 b2:H->BS}(h:nf b1 b2){k n:H}{t:Ty}{xs:I t.den}(hk:b1 k = .live (.arr n t xs)):b2 k = .live (.arr n t xs):=by
 rcases h k with e|⟨e,t,xs,f,f',h1,h2⟩;all_goals simp_all
theorem nf.lst{b1 b2:H->BS}(h:nf b1 b2){k e:H}{t:Ty}{xs:I t.den}{f:X}(hk:b1 k = .live (.lst e t xs f)):∃f',b2 k = .live (.lst e t xs f'):=by
 rcases h k with e|⟨e,t,xs,f,f',h1,h2⟩;all_goals simp_all
theorem nf.le{b1 b2:H->BS}(h:nf b1 b2):BxLe γ b1 γ b2:=by
 intro k hk;rcases h k with e|⟨e,t,xs,f,f',h1,h2⟩
 .rw[e];exact⟨hk,rfl,λb hb=>⟨b,hb,.refl b⟩⟩
 .rw[h2];exact⟨ae,rfl,λb hb=>by simp at hb;subst hb;exact⟨_,h1,rfl,rfl,λ_=>rfl⟩⟩
theorem vK:∀(u:Ups)(σ:St),(σ.upd u).sl=σ.sl
 |[],_=>rfl
 |e::u,σ=>vK u (σ.setB e.1 e.2)
theorem mC:∀(u v:Ups)(σ:St),σ.upd (u++v)=(σ.upd u).upd v
 |[],_,_=>rfl
 |e::u,v,σ=>mC u v (σ.setB e.1 e.2)
theorem oE:∀(u:Ups)(σ:St)(S:aX),Rel N np S0 w0 refs σ a w S γ->FrzL np σ.bx u->
  ∃S',Rel N np S0 w0 refs (σ.upd u) a w S' γ/\dI S w S' w/\Froz σ.bx γ S' w u/\nf σ.bx (σ.upd u).bx
 |[],σ,S,hR,_=>⟨S,hR,.refl S w,.nil,.refl _⟩
 |x::u,σ,S,hR,hf=>by
  obtain⟨hp,e,t,xs,f,hb,hx,hm⟩:=hf x ae;obtain⟨S1,bI,cT,rO⟩:=Me hR hm hb hp;rw[<-hx]at bI
  have kM:nf σ.bx (σ.setB x.1 x.2).bx:=by
   intro k;by_cases hk:k=x.1
   .subst hk;exact .inr ⟨e,t,xs,f,U,hb,by rw[fJ,hx]⟩
   .exact .inl (cu σ _ hk)
  have oF:FrzL np (σ.setB x.1 x.2).bx u:=by intro y hy;obtain⟨hp',e',t',dE,f',aZ,oh⟩:=hf y (by simp[hy]);obtain⟨f2,h2⟩:=kM.lst aZ;exact⟨hp',e',t',dE,f2,h2,oh⟩
  obtain⟨S2,cC,dp,iJ,l5⟩:=oE u _ S1 bI oF;refine⟨S2,cC,cT.trans dp,λy hy e' t' dE f' aZ=>?_,kM.trans l5⟩;rcases jb.1 hy with rfl|hy
  .rw[hb]at aZ;cases aZ;exact Rep.keep dp _ _ _ rO
  .obtain⟨f2,h2⟩:=kM.lst aZ;exact iJ y hy e' t' dE f2 h2
def RdF(np:H)(σ:St)(rd:H->BS):Prop:=(∀k,(rd k=σ.bx k/\parK np k=J)\/rd k = .gone)/\NoM rd
theorem RdF.ok{rd:H->BS}(h:RdF np σ rd):RdOk σ rd:=⟨λk=>(h.1 k).imp (·.1) id,h.2⟩
theorem RdF.par{rd:H->BS}(h:RdF np σ rd){k:H}{b:Bx}(hk:rd k = .live b):parK np k=false:=by
 rcases h.1 k with h|h;all_goals simp_all
def xv(S:aX)(w:À)(γ:H->O)(bx:H->BS):Prop:=∀k b,bx k = .live b->eZ S w γ bx k b
theorem jzi{rd:H->BS}(ba:RdF np σ rd)(hB:xv S w γ σ.bx){t:Ty}{l:Leaf}{v:t.den}{u:Ups}{z:O}(h:lV rd t l=D (v,u))(hl:bF S w γ σ.bx l z) :
  FrzL np σ.bx u/\∀S' w',dI S w S' w'->Froz σ.bx γ S' w' u->Rep S' w' t v [z]:=by
 unfold lV at h;split at h
 .split at h
  .rename_i t' v' v'' kN;simp only[j5,j9]at h;obtain⟨rfl,rfl⟩:=h;have:=oe kN;cases this;exact⟨.nil,λS' w' hk _=>Rep.keep hk _ _ _ hl⟩
  .simp at h
 .split at h
  .simp only[j5,j9]at h;obtain⟨rfl,rfl⟩:=h;have hz:z = .slice B 0 0:=hl;subst hz;exact⟨.nil,λS' w' _ _=>⟨B,0,rfl,jh _,by simp[maxLen],λ_=>rfl,λb hb=>by simp at hb⟩⟩
  .simp at h
 .rename_i k;split at h
  .rename_i e el xs f hk;split at h
   .rename_i v' kN;simp only[j5,j9]at h;obtain⟨rfl,rfl⟩:=h;have:=oe kN;cases this;have bC:=ba.ok.live hk;refine⟨λx hx=>?_,λS' w' _ hf=>?_⟩
    .have iV:=k9.1 hx;subst iV;exact⟨ba.par hk,e,el,xs,f,bC,rfl,ba.ok.nm hk⟩
    .have:=hf (k,_) (k9.2 rfl) e el xs f bC;rw[hl.2.2 _ bC];exact this
   .simp at h
  .simp at h
 .simp at h
theorem Mf{n cap:H}{ad:F Addr}(h1:n<=cap)(h2:cap<=maxLen)(h3:ad=B->cap=0)(h4:∀b,ad=D b->n≠0->b.spot=B){t:Ty}{v:t.den}(hv:hdr t n=D v):Rep S w t v [.slice ad n cap]:=by
 unfold hdr at hv;split at hv
 .simp only[j5]at hv;subst hv;have hl:(Æ n ()).length=n:=za ..;refine⟨ad,cap,by rw[hl],by rw[hl];exact h1,h2,h3,λb hb=>⟨λbD=>h4 b hb (λh0=>bD (by rw[h0];rfl)),Æ n [],?_,?_⟩⟩
  .clear hl h1 h4;induction n with
   |zero=>trivial
   |succ n ih=>exact⟨rfl,ih⟩
  .have:(Æ n ([]:I O)).flatten=[]:=by
    simp_all
   rw[this];intro j v hj;simp at hj
 .simp at hv
theorem jAL{rd:H->BS}(ba:RdF np σ rd)(hB:xv S w γ σ.bx){t:Ty}{l:Leaf}{v:t.den}{z:O}(h:pJ rd t l=D v)(hl:bF S w γ σ.bx l z):∀S' w',Rep S' w' t v [z]:=by
 intro S' w';unfold pJ at h;split at h
 case h_2=>simp at h
 rename_i n hn;unfold lenL at hn;split at hn
 .simp at hn
 .simp only[j5]at hn;subst hn;obtain⟨ad,cap,hz,h1,h2,h3,h4⟩:=hl;grind[Mf]
 .split at hn
  .rename_i k _ e a xs f hk;simp only[j5]at hn;subst hn;have bC:=ba.ok.live hk;obtain⟨css,aS,_,_⟩:=jE (ba.ok.nm hk) (hB k _ bC);have hz:z=γ k:=hl.2.2 _ bC;rw[hz];rcases aS.2 with⟨hs,l7⟩|⟨g,cap,cur,hs,_,hh,hle,jN,_⟩;all_goals grind[Mf]
  .rename_i k _ e a n' ls hk;simp only[j5]at hn;subst hn;have bC:=ba.ok.live hk;obtain⟨_,⟨cs,aS,_,_⟩,_⟩:=hB k _ bC;have hz:z=γ k:=hl.2.2 _ bC;rw[hz];rcases aS.2 with⟨hs,l7⟩|⟨g,cap,cur,hs,_,hh,hle,jN,_⟩;all_goals grind[Mf]
  .simp at hn
 .simp at hn
theorem xw{rd:H->BS}(ba:RdF np σ rd)(hB:xv S w γ σ.bx){t:Ty}{l:Leaf}{v:t.den}{u:Ups}{z:O}(h:kW rd t l=D (v,u))(hl:bF S w γ σ.bx l z) :
  FrzL np σ.bx u/\∀S' w',dI S w S' w'->Froz σ.bx γ S' w' u->Rep S' w' t v [z]:=by
 unfold kW at h;split at h
 .rename_i v' hv;simp only[j5,j9]at h;obtain⟨rfl,rfl⟩:=h;exact⟨.nil,λS' w' _ _=>jAL ba hB hv hl S' w'⟩
 grind[jzi]
theorem xx{rd:H->BS}(ba:RdF np σ rd)(hB:xv S w γ σ.bx):∀(t:Ty){ls r:I Leaf}{v:t.den}{u:Ups}{zs:I O},gath rd t ls=D (v,r,u)->All2 (bF S w γ σ.bx) ls zs->
  FrzL np σ.bx u/\r=ls.drop t.size/\∀S' w',dI S w S' w'->Froz σ.bx γ S' w' u->Rep S' w' t v (zs.take t.size)
 |.unit,ls,r,v,u,zs,h,ha=>by
  simp only[gath,j5,j9]at h;obtain⟨_,rfl,rfl⟩:=h;exact⟨.nil,rfl,λS' w' _ _=>rfl⟩
 |.wrap b,ls,r,v,u,zs,h,ha=>by
  simp only[gath]at h;split at h
  .rename_i x r' u' hx;simp only[j5,j9]at h;obtain⟨rfl,rfl,rfl⟩:=h;exact xx ba hB b hx ha
  .simp at h
 |.pair b c,ls,r,v,u,zs,h,ha=>by
  simp only[gath]at h;split at h
  .rename_i x r1 u1 hx;split at h
   .rename_i y r2 u2 hy;simp only[j5,j9]at h;obtain⟨rfl,rfl,rfl⟩:=h;obtain⟨f1,e1,p1⟩:=xx ba hB b hx ha;have uA:All2 (bF S w γ σ.bx) r1 (zs.drop b.size):=by rw[e1];exact ha.drop _
    obtain⟨f2,e2,p2⟩:=xx ba hB c hy uA;refine⟨FrzL.app.2 ⟨f1,f2⟩,?_,λS' w' hk hf=>?_⟩
    .rw[e2,e1,á];rfl
    .obtain⟨oF,sN⟩:=Froz.app.1 hf;refine⟨zs.take b.size,(zs.drop b.size).take c.size,?_,p1 S' w' hk oF,p2 S' w' hk sN⟩;show zs.take (b.size+c.size)=_;rw[List.take_add]
   .simp at h
  .simp at h
 |.arr _ _,_,_,_,_,_,h,_=>by simp[gath]at h
 |.int k,l::ls,r,v,u,z::zs,h,ha=>by
  simp only[gath]at h;split at h
  .rename_i v' u' hv;simp only[j5,j9]at h;obtain⟨rfl,rfl,rfl⟩:=h;obtain⟨f,p⟩:=xw ba hB hv ha.1;exact⟨f,rfl,p⟩
  .simp at h
 |.bool,l::ls,r,v,u,z::zs,h,ha=>by
  simp only[gath]at h;split at h
  .rename_i v' u' hv;simp only[j5,j9]at h;obtain⟨rfl,rfl,rfl⟩:=h;obtain⟨f,p⟩:=xw ba hB hv ha.1;exact⟨f,rfl,p⟩
  .simp at h
 |.str,l::ls,r,v,u,z::zs,h,ha=>by
  simp only[gath]at h;split at h
  .rename_i v' u' hv;simp only[j5,j9]at h;obtain⟨rfl,rfl,rfl⟩:=h;obtain⟨f,p⟩:=xw ba hB hv ha.1;exact⟨f,rfl,p⟩
  .simp at h
 |.list b,l::ls,r,v,u,z::zs,h,ha=>by
  simp only[gath]at h;split at h
  .rename_i v' u' hv;simp only[j5,j9]at h;obtain⟨rfl,rfl,rfl⟩:=h;obtain⟨f,p⟩:=xw ba hB hv ha.1;exact⟨f,rfl,p⟩
  .simp at h
 |.int _,[],_,_,_,_,h,_=>by simp[gath]at h
 |.bool,[],_,_,_,_,h,_=>by simp[gath]at h
 |.str,[],_,_,_,_,h,_=>by simp[gath]at h
 |.list _,[],_,_,_,_,h,_=>by simp[gath]at h
 |.int _,_::_,_,_,_,[],_,ha=>ha.elim
 |.bool,_::_,_,_,_,[],_,ha=>ha.elim
 |.str,_::_,_,_,_,[],_,ha=>ha.elim
 |.list _,_::_,_,_,_,[],_,ha=>ha.elim
def cellsOf(u:O):I Value:=u.cells.toList
theorem B9{u:O}(h:One u):u.cells.toList=[u]:=by
 cases u<;>first|rfl|simp[One,Value.oneCell']at h
theorem Wu(rd:H->BS):∀(t:Ty){ls r:I Leaf}{v:t.den}{u:Ups},gath rd t ls=D (v,r,u)->r.length+t.size=ls.length:=by
 intro t;induction t with
 |unit=>intro ls r v u h;simp only[gath,j5,j9]at h;rw[<-h.2.1];rfl
 |wrap a ih=>
  intro ls r v u h;simp only[gath]at h;split at h
  .rename_i x r' u' hx;simp only[j5,j9]at h;rw[<-h.2.1];exact ih hx
  .simp at h
 |pair a b uB uC=>grind[gath,Ty.size]
 |arr n a _=>grind[gath]
 |int k=>intro ls r v u h;cases ls<;>simp only[gath]at h;all_goals grind[Ty.size]
 |bool=>intro ls r v u h;cases ls<;>simp only[gath]at h;all_goals grind[Ty.size]
 |str=>intro ls r v u h;cases ls<;>simp only[gath]at h;all_goals grind[Ty.size]
 |list a _=>intro ls r v u h;cases ls<;>simp only[gath]at h;all_goals grind[Ty.size]
theorem jAM(rd:H->BS):∀(t:Ty){ls r:I Leaf}{v:t.den}{u:Ups},gath rd t (.dead::ls)=D (v,r,u)->r = .dead::ls:=by
 intro t;induction t with
 |unit=>grind[gath]
 |wrap a ih=>grind[gath]
 |pair a b uB uC=>grind[gath]
 |arr n a _=>grind[gath]
 |int k=>grind[gath,kW,pJ,lenL,lV]
 |bool=>grind[gath,kW,pJ,lenL,lV]
 |str=>grind[gath,kW,pJ,lenL,lV]
 |list a _=>grind[gath,kW,pJ,lenL,lV]
theorem jup{t:Ty}(h:t.agg=U):lX t=true:=by
 revert h;cases t<;>simp[lX,Ty.agg]
theorem Eh{rd:H->BS}(ba:RdF np σ rd)(hB:xv S w γ σ.bx){t:Ty}{c:Cel}{v:t.den}{u:Ups}{z:O}(h:rG rd t c=D (v,u))(hc:bS S w γ σ.bx c z) :
  FrzL np σ.bx u/\(∀S' w',dI S w S' w'->Froz σ.bx γ S' w' u->VRep S' w' ⟨t,v⟩ z)/\z.cells.toList.length=t.size:=by
 unfold rG at h;split at h
 .rename_i l;split at h
  .simp at h
  rename_i pM;split at h
  .rename_i v' u' hv;simp only[j5,j9]at h;obtain⟨rfl,rfl⟩:=h;obtain⟨f,e,p⟩:=xx ba hB t hv (zs:=[z]) ⟨hc.1,trivial⟩;have hlen:=Wu rd t hv;simp at hlen;have hd:l ≠ .dead:=by grind[jAM]
   have h1:=B9 (hc.2 hd);refine⟨f,λS' w' hk hf=>⟨?_,λhm=>?_,λ_=>hc.2 hd⟩,by simp[h1,hlen]⟩
   .grind
   .exfalso;cases t<;>simp[lX,Ty.agg]at hm pM;simp[gath]at hv
  .simp at h
 .rename_i ls;split at h
  .rename_i pM;split at h
   .rename_i v' u' hv;simp only[j5,j9]at h;obtain⟨rfl,rfl⟩:=h;obtain⟨cs,rfl,ha,h1⟩:=hc;obtain⟨f,e,p⟩:=xx ba hB t hv ha;have hlen:=Wu rd t hv;have hl:=ha.length;simp at hlen;have dm:cs.toList.length=t.size:=aa;refine⟨f,λS' w' hk hf=>⟨?_,λ_=>⟨cs,rfl⟩,λhm=>?_⟩,dm⟩
    .have:=p S' w' hk hf;rwa[List.take_of_length_le aa]at this
    grind[jup]
   .simp at h
  .simp at h
 .split at h
  .rename_i v' kN;simp only[j5,j9]at h;obtain⟨rfl,rfl⟩:=h;have:=oe kN;cases this;obtain⟨cs,rfl,hr⟩:=hc;exact⟨.nil,λS' w' hk _=>⟨Rep.keep hk _ _ _ hr,λ_=>⟨cs,rfl⟩,by simp[lX]⟩,Rep.length _ _ _ hr⟩
  .simp at h
end
end Go.Lft
