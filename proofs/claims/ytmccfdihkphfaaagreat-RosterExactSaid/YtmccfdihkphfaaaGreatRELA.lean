/- A typed o5 of the GR code, on plain data: vN. -/
import Derived.WalkKit
import Derived.Orders
import Derived.MapKept
open Option renaming none->B,some->D
open _root_ renaming Option->F,Nat->H,List->I,Bool->X,Int->Ä,Array->É,ByteArray->Ë,False->Û,DecidableEq->ç
open Bool renaming false->J,true->U
open Go renaming Value->O,World->À,Program->Á,Oper->Æ,TypeId->È,Operand->Ì,IntKind->Î,Code->Ó,TypeDesc->Ù,Act->Ý,BinOp->å,ResultVar->æ,TypeInfo->í
open Go.Result renaming andThen_ok->W
open Decidable renaming decide->Y
open Go.Sem renaming run_bind->Z,run_pure->Â,run_ite->Ø
open Int renaming toNat->Ã,ofNat->Ï,fdiv->ì
open List renaming length->Å,replicate->Ç,getD->Ê,take->Ð,range->Ñ,length_append->Õ,getElem?_drop->Ö,drop->Ú,drop_drop->ã,set->ý
open Go.Addr renaming add_lit->Í
open Go.Instr renaming indexAt->Ò,sureAddr->Ô,loadAt->Þ,index->â,fieldAt->ä
open Go.Op renaming intCmp->Ü,intArith->á,unary->î,eqFields->ð,maxDepth->ñ,stringOp->ò,equalIn->õ,intDiv->ø,equal->ÿ
open Go.Builtin renaming len_->ß,min_->ê,max_->ë
open Nat renaming beq->à,add_mul->ï
noncomputable section
theorem j4{α β:Type _}(a:α)(f:α->F β):(D a).bind f=f a:=rfl
theorem j5{α:Type _}(a b:α):(D a=D b)=(a=b):=Option.some.injEq a b
theorem j6{α:Sort _}{a b:α}:cond U a b=a:=rfl
theorem j7{α:Sort _}{a b:α}:cond J a b=b:=rfl
theorem j8(n:H):Ã (n:Ä)=n:=rfl
theorem j9{α β:Type _}(a:α)(b:β)(c:α)(d:β):((a,b)=(c,d))=(a=c/\b=d):=Prod.mk.injEq a b c d
theorem ja{a b:Prop}(h:a)(g:b):a/\b:=And.intro h g
abbrev jb:=@List.drop_eq_getElem_cons
abbrev jc:=@Bool.not_true
abbrev jd:=@Bool.and_eq_true
abbrev je:=@List.mem_cons
abbrev jf:=@bne_self_eq_false
abbrev jg:=@List.append_assoc
abbrev jh:=@Array.getElem?_eq_some_iff
abbrev ji:=@List.length_cons
abbrev jj:=@decide_eq_true_eq
abbrev jk:=@List.drop_zero
abbrev jl:=@List.getElem_mem
abbrev jm:=@List.mem_append
abbrev jn:=@List.mem_append_right
abbrev jo:=@List.getElem?_eq_getElem
abbrev jp:=@Bool.not_false
abbrev jq:=@Nat.le_refl
abbrev jr:=@List.mem_append_left
abbrev js:=@congrArg
abbrev jt:=@Array.getElem?_eq_getElem
abbrev ju:=@Classical.byContradiction
abbrev jv:=@List.all_eq_true
abbrev jw:=@List.nil_append
abbrev jx:=@List.mem_map
abbrev jy:=@List.eq_nil_of_length_eq_zero
abbrev jz:=@List.length_nil
abbrev k7:=@Nat.zero_le
abbrev k8:=@Int.le_refl
abbrev k9:=@List.mem_of_getElem?
abbrev ka:=@Nat.mul_le_mul_right
abbrev kb:=@Nat.zero_add
abbrev kc:=@List.length_map
abbrev ke:=@List.getElem?_append_right
abbrev kf:=@List.pairwise_cons
abbrev kg:=@decide_eq_false_iff_not
abbrev ki:=@List.mem_singleton
abbrev kj:=@List.map_cons
abbrev kn:=@Option.map_some
abbrev ko:=@Nat.le_trans
abbrev kp:=@beq_self_eq_true
abbrev kq:=@List.flatten_cons
abbrev kr:=@of_decide_eq_true
abbrev ku:=@Bool.false_eq_true
abbrev kv:=@Array.getElem?_toList
abbrev kx:=@List.append_nil
abbrev ky:=@Bool.eq_false_iff
abbrev kz:=@List.length_singleton
abbrev q7:=@true_and
abbrev q8:=@List.mem_flatMap
abbrev q9:=@Bool.not_eq_true'
abbrev qa:=@Nat.lt_or_ge
abbrev qb:=@List.take_add_one
abbrev qc:=@List.pairwise_iff_getElem
abbrev qd:=@Nat.lt_of_lt_of_le
abbrev qe:=@Array.length_toList
abbrev qf:=@List.getElem?_eq_none
abbrev qg:=@List.getElem?_map
abbrev qh:=@List.length_eq_zero_iff
abbrev qi:=@List.mem_cons_of_mem
abbrev qj:=@List.contains_eq_mem
abbrev qk:=@Bool.or_eq_true
abbrev ql:=@Bool.and_self
abbrev qm:=@Nat.mul_le_mul
abbrev qn:=@decide_eq_true
abbrev qo:=@List.nodup_cons
abbrev qp:=@List.getElem?_take
abbrev qq:=@List.mem_of_mem_take
abbrev qr:=@Bool.true_and
abbrev qs:=@Int.le_trans
abbrev qt:=@Int.tdiv_eq_ediv_of_nonneg
abbrev qu:=@List.flatMap_cons
abbrev qv:=@List.any_eq_false
abbrev qw:=@List.getElem_of_mem
abbrev qx:=@List.take_append_drop
abbrev qy:=@List.take_append_of_le_length
abbrev qz:=@if_false
abbrev z6:=@Option.getD_some
abbrev z7:=@List.mem_cons_self
abbrev z8:=@Bool.true_or
abbrev za:=@Option.isSome_some
abbrev zb:=@List.all_cons
abbrev zd:=@List.nodup_append
abbrev ze:=@Nat.add_assoc
abbrev zf:=@List.length_drop
abbrev zg:=@List.any_eq_true
abbrev zh:=@List.not_mem_nil
abbrev zi:=@List.length_replicate
abbrev zj:=@List.mem_iff_getElem?
abbrev zk:=@Int.tmod_lt_of_pos
abbrev zm:=@Option.isSome_none
abbrev zo:=@List.length_filter_le
abbrev zp:=@List.eq_nil_or_concat
abbrev zq:=@List.concat_eq_append
abbrev zr:=@Nat.succ_mul
abbrev zt:=@List.mem_of_mem_drop
abbrev zu:=@List.length_set
abbrev zv:=@List.eq_nil_iff_forall_not_mem
abbrev zw:=@List.mem_filter
abbrev v6:=@List.pairwise_append
abbrev v7:=@Int.ofNat_eq_natCast
abbrev v8:=@Nat.lt_trichotomy
abbrev va:=@Array.toList_eq_nil_iff
abbrev vb:=@List.getElem?_cons_succ
abbrev vc:=@List.filter_cons_of_neg
abbrev vd:=@Bool.cond_true_left
abbrev ve:=@List.drop_left
abbrev vf:=@Array.ext'
abbrev vg:=@beq_iff_eq
abbrev vi:=@Array.getD_eq_getD_getElem?
abbrev vj:=@List.mem_filterMap
abbrev vk:=@List.filter_append
abbrev vp:=@List.set_append_right
abbrev vq:=@Nat.le_of_ble_eq_true
abbrev vr:=@Int.tmod_nonneg
abbrev vu:=@List.ext_getElem?
abbrev vv:=@Bool.or_eq_false_iff
abbrev vw:=@List.mem_or_eq_of_mem_set
abbrev vz:=@List.take_take
abbrev y8:=@List.nodup_nil
abbrev y9:=@List.range'_succ
abbrev ya:=@Int.ediv_le_self
abbrev yb:=@Bool.or_true
abbrev yc:=@List.flatten_append
abbrev yd:=@List.filterMap_cons
abbrev ye:=@List.getLast?_singleton
abbrev yf:=@List.filter_cons_of_pos
abbrev yg:=@Bool.false_or
abbrev yh:=@List.cons.injEq
abbrev yi:=@Nat.eq_zero_or_pos
abbrev yj:=@Int.ediv_nonneg
abbrev yk:=@List.drop_eq_nil_of_le
abbrev yl:=@List.size_toArray
abbrev ym:=@Bool.false_and
set_option linter.unusedVariables false
namespace Go.Lft
theorem aa{p:Prop}(h:p:=by omega):p:=h
theorem ae{p:Prop}(h:p:=by simp):p:=h
theorem az{p:Prop}(h:p:=by (simp;omega)):p:=h
theorem lG{α:Type}(l:I α):Ï l.length=(l.length:Ä):=rfl
inductive Ty where
 |int (k:Î)
 |bool
 |str
 |unit
 |wrap (a:Ty)
 |pair (a b:Ty)
 |list (a:Ty)
 |arr (n:H) (a:Ty)
 deriving ç
@[reducible] def Ty.den:Ty->Type
 |.int _=>Ä
 |.bool=>X
 |.str=>Ë
 |.unit=>Unit
 |.wrap a=>a.den
 |.pair a b=>a.den×b.den
 |.list a=>I a.den
 |.arr _ a=>I a.den
def Ty.dflt:(t:Ty)->t.den
 |.int _=>(0:Ä)
 |.bool=>J
 |.str=>ByteArray.empty
 |.unit=>()
 |.wrap a=>a.dflt
 |.pair a b=>(a.dflt,b.dflt)
 |.list _=>[]
 |.arr n a=>Ç n a.dflt
def Ty.size:Ty->H
 |.int _|.bool|.str|.list _=>1
 |.unit=>0
 |.wrap a=>a.size
 |.pair a b=>a.size+b.size
 |.arr n a=>n*a.size
def Ty.flat:Ty->X
 |.int _|.bool|.str|.unit=>U
 |.wrap a=>a.flat
 |.pair a b=>a.flat&&b.flat
 |.list _=>J
 |.arr _ a=>a.flat
def Ty.leafy:Ty->X
 |.int _|.bool|.str|.list _=>U
 |_=>J
structure TV where
 t:Ty
 v:t.den
def TV.to(t:Ty)(x:TV):F t.den:=if h:x.t=t then D (h▸x.v) else B
inductive Cap where
 |v (x:TV)
 |p (ls:I TV)
inductive Leaf where
 |dead
 |nil
 |d (t:Ty) (v:t.den)
 |ol (k:H)
 |bp (k:H) (c:H)
 |ep (k:H) (i:H) (c:H)
 |tl (k:H) (i:H)
 |hd (k:H) (i:H)
 |ip (ls:I TV)
 |clo (f:H) (caps:I Cap)
 |clr (f:H) (ks:I H)
inductive Cel where
 |one (x:Leaf)
 |st (ls:I Leaf)
 |av (n:H) (a:Ty) (xs:I a.den)
inductive Slot where
 |one (c:Cel)
 |tup (l:I Cel)
 |cnd (s:H) (want:X) (c:Cel)
 |und
def jH{α β:Type}[BEq α](xs:I (α×β))(k:α):Bool:=xs.any λx=>k==x.1
def hQ{α β:Type}[BEq α](d:β):I (α×β)->α->β
 |[],_=>d
 |x::r,k=>cond (k==x.1) x.2 (hQ d r k)
def iI{α β:Type}[BEq α]:I (α×β)->α->β->I (α×β)
 |[],k,v=>[(k,v)]
 |x::r,k,v=>cond (k==x.1) ((k,v)::r) (x::iI r k v)
@[reducible] def Ty.keq:(t:Ty)->BEq t.den
 |.int _=>⟨λ(a b:Ä)=>a==b⟩
 |.str=>⟨λ(a b:Ë)=>a==b⟩
 |_=>⟨λ_ _=>J⟩
def Ty.isKey:Ty->X
 |.int _|.str=>U
 |_=>J
def dY(s:Ë)(i:Ä):Int:=(s.data.getD i.toNat 0).toNat
def isM(e:H):Bool:=Nat.ble 4294967296 e
inductive Bx where
 |cell (ls:I Leaf) (frz:X)
 |lst (e:H) (a:Ty) (xs:I a.den) (frz:X)
 |arr (n:H) (a:Ty) (xs:I a.den)
 |row (e:H) (a:Ty) (n:H) (ls:I Leaf)
inductive BS where
 |free|gone|live (b:Bx)
def mskM(rd:H->BS)(k:H):BS:=match rd k with
 |.live (.lst e a xs f)=>if isM e then .gone else .live (.lst e a xs f)
 |b=>b
structure St where
 sl:H->Slot
 bx:H->BS
def St.setS(σ:St)(i:H)(s:Slot):St:={ σ with sl:=λj=>if j=i then s else σ.sl j }
def St.setB(σ:St)(k:H)(b:BS):St:={ σ with bx:=λj=>if j=k then b else σ.bx j }
inductive Item where
 |s (c:Cel)
 |b (x:BS)
abbrev Snap:=I Item
inductive Arg where
 |v (x:TV)
 |ref (ls:I TV)
 |rl (e:H) (x:TV)
 |ip (ls:I TV)
 |clo (f:H) (caps:I Cap)
 |mv (e:H) (x:TV)
inductive RL where
 |d (x:TV)
 |own (e:H) (x:TV)
inductive SoK where
 |d (t:Ty)
 |own (e:H) (a:Ty)
inductive RV where
 |v (x:TV)
 |own (e:H) (x:TV)
 |box (ls:I TV)
 |hd (n:H)
 |vn (x:TV) (ns:I H)
 |clo (f:H) (caps:I Cap)
 |so (ls:I RL)
 |raw (ns:I H) (s:Snap)
inductive Out where
 |ref (ls:I TV)
 |rl (x:TV)
structure Ret where
 vals:I RV
 outs:I Out
inductive Ex where
 |normal|exit (id:H)|ret
 deriving ç
inductive Loc where
 |slot (i:H)
 |cell (k c:H)
 deriving ç
structure o8 where
 name:H
 e:H
 a:Ty
 locs:I Loc
 frz:X
structure Keep where
 slots:I H
 boxes:I H
 lists:I o8
 datas:I (Loc×Ty):=[]
structure TyI where
 size:H
 agg:X
 ty:F Ty
 flds:I (H×H)
 elem:H
 cmp:I Ty:=[]
 mp:F (H×H):=B
def parK(np k:H):Bool:=Y (k%64=0)&&Y (k/64<np)
structure NT where
 n:H
 pin:H->X
instance(n:H):OfNat NT n:=⟨⟨n,λ_=>J⟩⟩
def NT.ok(N:NT)(d:H):Prop:=d<N.n/\N.pin d=J
inductive Gh where
 |ex (k c n m:H)
 |rl (k:H)
 |se (k:H)
 |da (l:I (Loc×Ty))
structure Env where
 N:NT
 np:H
 T:H->F TyI
 C:H->I Arg->(R:Type)->(Ret->F R)->F R
 modes:H->I X
 L:H->Snap->(R:Type)->(Ex->Snap->F R)->F R
 keep:H->Keep
 keepX:H->Ex->Keep
 ro:I X
 dw:H->I (I H):=λ_=>[]
 nz:Bool:=J
 hd:Bool:=J
 ns:I Nat:=[]
 bw:H->F (X×Ty):=λ_=>B
 so:I SoK:=[]
 cr:I Nat:=[]
 un:H->Nat:=λ_=>0
 pre:H->I Gh:=λ_=>[]
 rw:Bool:=J
 rn:I Nat:=[]
 b1:I Nat:=[]
 ks:H->Bool:=λ_=>J
 mvf:H->Bool:=λ_=>J
 mr:H->F (H×H):=λ_=>B
 M:H->Snap->(R:Type)->(Snap->F R)->F R:=λ_ _ _ _=>B
 pa:H->F (H×Ty):=λ_=>B
 sc:Bool:=J
 off:Nat:=0
def Env.offR(E:Env)(r:H):Env:={ E with off:=E.off+16*r }
def Env.off0(E:Env):Env:={ E with off:=0 }
def insI(x:Ä):I Ä->I Ä
 |[]=>[x]
 |y::ys=>cond (Y (x<=y)) (x::y::ys) (y::insI x ys)
def qX:I Ä->I Ä
 |[]=>[]
 |x::xs=>insI x (qX xs)
def TO{β:Type}(xs:I (Ä×β)):Bool:=Nat.ble xs.length 1000000&&xs.all λx=>Y (-9223372036854775808<=x.1)&&Y (x.1<=9223372036854775807)
def tO{β:Type}(xs:I (Ä×β)):I Int:=qX (xs.map λx=>x.1)
def TP:(a:Ty)->I a.den->F (X×I Ä)
 |.pair (.int .i64) _,xs=>D (TO xs,tO xs)
 |_,_=>B
def Lg:O->Leaf
 |.int k n=> .d (.int k) n
 |.bool b=> .d .bool b
 |.string s=> .d .str s
 |.slice B 0 0=> .nil
 |_=> .dead
def St.ev(σ:St):Ì->Slot
 |.tmp t=>σ.sl t
 |.const v=> .one (.one (Lg v))
 |.func f=> .one (.one (.clo f []))
 |.global _=> .one (.one .dead)
def o9(ops:É Æ)(o:Æ):F (H×X):=
 match o.guard with
 |none=>B
 |some (j,w)=>match ops[j]? with
  |some oj=>match oj.dst with
   |some s=>D (s,w)
   |none=>B
  |none=>B
def St.chain(σ:St):H->H×X->I (H×X)
 |0,g=>[g]
 |n+1,g=>match σ.sl g.1 with
  |.cnd s w _=>g::σ.chain n (s,w)
  |_=>[g]
def Slot.cel(act:I (H×X)):Slot->Cel
 |.one c=>c
 |.tup _=> .one .dead
 |.und=> .one .dead
 |.cnd s w c=>if act.contains (s,w) then c else .one .dead
abbrev Ups:=I (H×BS)
def scat:(t:Ty)->t.den->I TV
 |.unit,_=>[]
 |.wrap a,v=>scat a v
 |.pair a b,v=>scat a v.1++scat b v.2
 |.arr n a,v=>(Ñ n).flatMap λi=>scat a (Ê v i a.dflt)
 |t,v=>[⟨t,v⟩]
def TV.leaf(x:TV):Leaf:= .d x.t x.v
def oD:Ty->I Leaf
 |.unit=>[]
 |.wrap a=>oD a
 |.pair a b=>oD a++oD b
 |.arr n a=>(Ñ n).flatMap λ_=>oD a
 |.list _=>[.nil]
 |t=>[.d t t.dflt]
def hdr:(t:Ty)->H->F t.den
 |.list .unit,n=>D (Ç n ())
 |_,_=>B
def lenL(rd:H->BS):Leaf->F H
 |.d (.list .unit) _=>B
 |.d (.list _) xs=>D (Å xs)
 |.ol k=>match rd k with
  |.live (.lst _ _ xs _)=>D xs.length
  |.live (.row _ _ n _)=>D n
  |_=>B
 |_=>B
def mn(rd:H->BS)(t:Ty)(l:Leaf):F t.den:=match lenL rd l with
 |some n=>hdr t n
 |none=>B
def kY(rd:H->BS)(t:Ty):Leaf->F (t.den×Ups)
 |.d t' v=>match (TV.mk t' v).to t with
  |some v'=>D (v',[])
  |none=>B
 |.nil=>match t with
  |.list _=>D ([],[])
  |_=>B
 |.ol k=>match rd k with
  |.live (.lst e a xs _)=>match (TV.mk (.list a) xs).to t with
   |some v'=>D (v',[(k,.live (.lst e a xs U))])
   |none=>B
  |_=>B
 |_=>B
def kG(rd:H->BS)(t:Ty)(l:Leaf):F (t.den×Ups):=match mn rd t l with
 |some v=>D (v,[])
 |none=>kY rd t l
def gath(rd:H->BS):(t:Ty)->I Leaf->F (t.den×I Leaf×Ups)
 |.unit,ls=>D ((),ls,[])
 |.wrap a,ls=>match gath rd a ls with
  |some (x,r,u)=>D (x,r,u)
  |none=>B
 |.pair a b,ls=>match gath rd a ls with
  |some (x,r,u)=>match gath rd b r with
   |some (y,r',u')=>D ((x,y),r',u++u')
   |none=>B
  |none=>B
 |.arr _ _,_=>B
 |t,l::ls=>match kG rd t l with
  |some (v,u)=>D (v,ls,u)
  |none=>B
 |_,[]=>B
def Ty.agg:Ty->X
 |.unit|.wrap _|.pair _ _=>U
 |_=>J
def oE(rd:H->BS)(t:Ty):Cel->F (t.den×Ups)
 |.one l=>if t.agg then B else match gath rd t [l]with
  |some (v,[],u)=>D (v,u)
  |_=>B
 |.st ls=>if t.agg then match gath rd t ls with
  |some (v,[],u)=>D (v,u)
  |_=>B
  else B
 |.av n a xs=>match (TV.mk (.arr n a) xs).to t with
  |some v=>D (v,[])
  |none=>B
def pb:(t:Ty)->t.den->Cel
 |.arr n a,v=> .av n a v
 |t,v=>if t.agg then .st ((scat t v).map TV.leaf) else .one (.d t v)
def Cel.leaves:Cel->F (I Leaf)
 |.one .dead=>B
 |.one l=>D [l]
 |.st ls=>D ls
 |.av n (.list b) ys=>D ((Ñ n).map λi=> .d (.list b) (Ê ys i []))
 |.av _ _ _=>B
def cmpI(op:å)(x y:Ä):F Bool:=
 match op with
 |.eql=>D (x==y)
 |.neq=>D (x != y)
 |.lss=>D (Y (x<y))
 |.leq=>D (Y (x<=y))
 |.gtr=>D (Y (x>y))
 |.geq=>D (Y (x>=y))
 |_=>B
def eqT:TV->TV->F X
 |⟨.int k,x⟩,⟨.int k',y⟩=>if k=k' then D ((show Ä from x)==(show Ä from y)) else B
 |⟨.bool,x⟩,⟨.bool,y⟩=>D ((show X from x)==(show X from y))
 |⟨.str,x⟩,⟨.str,y⟩=>D ((show Ë from x).toList==(show Ë from y).toList)
 |_,_=>B
def eqL:I Ty->I Leaf->I Leaf->F X
 |[],[],[]=>D U
 |k::ks,.d t x::l,.d t' y::l'=>if t=k/\t'=k then match eqT ⟨t,x⟩ ⟨t',y⟩with
  |some b=>match ks with
   |[]=>match l,l' with
    |[],[]=>D b
    |_,_=>B
   |ks=>match eqL ks l l' with
    |some b'=>D (b&&b')
    |none=>B
  |none=>B
  else B
 |_,_,_=>B
def binI(op:å)(k:Î)(x y:Ä):F (X×Leaf):=
 match op with
 |.add=>D (U,.d (.int k) (k.wrap (x+y)))
 |.sub=>D (U,.d (.int k) (k.wrap (x-y)))
 |.mul=>D (U,.d (.int k) (k.wrap (x*y)))
 |.quo=>D (!(y==0),.d (.int k) (k.wrap (x.tdiv y)))
 |.rem=>D (!(y==0),.d (.int k) (x.tmod y))
 |.shr=>if Y ((0:Ä)<=y) then D (U,.d (.int k) (ì x (2^min (Ã y) k.bits))) else B
 |.and|.or|.xor|.andNot|.shl=>B
 |op=>match cmpI op x y with
  |some b=>D (U,.d .bool b)
  |none=>B
def TQ(ti:F TyI):Bool:=match ti with
 |some t=>Y (t.ty=D .bool)
 |none=>J
def vO(ti:F TyI):I Ty:=match ti with
 |some t=>t.cmp
 |none=>[]
def binC(ti:F TyI)(op:å):Cel->Cel->F (X×Leaf)
 |.one (.d (.int k) x),.one (.d (.int k') y)=>if k=k' then binI op k x y else
  match op with
  |.shr=>if Y ((0:Ä)<=y) then D (U,.d (.int k) (ì x (2^min (Ã y) k.bits))) else B
  |_=>B
 |.one (.d .bool x),.one (.d .bool y)=>if TQ ti then match op with
  |.eql=>D (U,.d .bool ((show X from x)==(show X from y)))
  |.neq=>D (U,.d .bool (!((show X from x)==(show X from y))))
  |_=>B
  else B
 |.one (.d .str x),.one (.d .str y)=>match op with
  |.eql=>D (U,.d .bool ((show Ë from x).toList==(show Ë from y).toList))
  |.neq=>D (U,.d .bool (!((show Ë from x).toList==(show Ë from y).toList)))
  |_=>B
 |.st l,.st l'=>if (vO ti).isEmpty then B else match op with
  |.eql=>match eqL (vO ti) l l' with
   |some b=>D (U,.d .bool b)
   |none=>B
  |.neq=>match eqL (vO ti) l l' with
   |some b=>D (U,.d .bool (!b))
   |none=>B
  |_=>B
 |_,_=>B
def unC(op:UnOp):Cel->F Leaf
 |.one (.d .bool x)=>match op with
  |.not=>D (.d .bool (!(show X from x)))
  |_=>B
 |.one (.d (.int k) x)=>match op with
  |.neg=>D (.d (.int k) (k.wrap (0-(show Ä from x))))
  |_=>B
 |_=>B
def sW(ti:TyI)(ls:I Leaf):F Cel:=
 if ti.agg then (if ls.length=ti.size then D (.st ls) else B)
 else match ls with
  |[l]=>D (.one l)
  |_=>B
def pd(rd:H->BS)(ti:TyI):Leaf->F Cel
 |.bp k c=>match rd k with
  |.live (.cell ls _)=>sW ti ((ls.drop c).take ti.size)
  |.live (.arr n a xs)=>if c=0/\ti.ty=D (.arr n a) then D (.av n a xs) else B
  |_=>B
 |.ep k i c=>match rd k with
  |.live (.lst e a xs _)=>sW ti ((((scat a (Ê xs i a.dflt)).map TV.leaf).drop c).take ti.size)
  |.live (.arr _ a xs)=>sW ti ((((scat a (Ê xs i a.dflt)).map TV.leaf).drop c).take ti.size)
  |.live (.row _ a _ ls)=>if c+ti.size<=a.size then sW ti ((ls.drop (i*a.size+c)).take ti.size) else B
  |_=>B
 |.ip ls=>sW ti ((ls.map TV.leaf).take ti.size)
 |_=>B
def ph(ls:I Leaf)(c:H)(new:I Leaf):I Leaf:=ls.take c++new++ls.drop (c+new.length)
def vP(rd rdf:H->BS)(sz:H)(val:Cel):Leaf->F Ups
 |.bp k c=>match rd k with
  |.live (.cell ls J)=>match val.leaves with
   |some new=>if new.length=sz/\c+new.length<=ls.length then D [(k,.live (.cell (ph ls c new) J))] else B
   |none=>B
  |.live (.arr n a _)=>if c=0 then match val with
    |.av n' a' ys=>match (TV.mk (.arr n' a') ys).to (.arr n a) with
     |some Lh=>if sz=n*a.size then D [(k,.live (.arr n a Lh))] else B
     |none=>B
    |_=>B
   else B
  |_=>B
 |.ep k i c=>match rd k with
  |.live (.lst el a xs J)=>match val.leaves with
   |some new=>if new.length=sz/\c+new.length<=a.size then match gath rdf a (ph ((scat a (Ê xs i a.dflt)).map TV.leaf) c new) with
    |some (e,[],u)=>if u.any (λy=>y.1==k) then B else D (u++[(k,.live (.lst el a (ý xs i e) J))])
    |_=>B
    else B
   |none=>B
  |.live (.arr n a xs)=>match val.leaves with
   |some new=>if new.length=sz/\c+new.length<=a.size then match gath rdf a (ph ((scat a (Ê xs i a.dflt)).map TV.leaf) c new) with
    |some (e,[],u)=>if u.any (λy=>y.1==k) then B else D (u++[(k,.live (.arr n a (ý xs i e)))])
    |_=>B
    else B
   |none=>B
  |.live (.row e a n ls)=>match val.leaves with
   |some new=>if new.length=sz/\c+new.length<=a.size then D [(k,.live (.row e a n (ph ls (i*a.size+c) new)))] else B
   |none=>B
  |_=>B
 |_=>B
def isLive:BS->X
 |.live _=>U
 |_=>J
def p9(rd:H->BS)(ti:TyI)(i:H):Leaf->F Leaf
 |.bp k c=>match ti.flds[i]? with
  |some f=>if isLive (rd k) then D (.bp k (c+f.1)) else B
  |none=>B
 |.ep k j c=>match ti.flds[i]? with
  |some f=>if isLive (rd k) then D (.ep k j (c+f.1)) else B
  |none=>B
 |.ip ls=>match ti.flds[i]? with
  |some f=>D (.ip (ls.drop f.1))
  |none=>B
 |_=>B
def oF(t:F Ty):Bool:=match t with
 |some (.list _)=>U
 |_=>J
def tP(rd:H->BS)(a:Ty):I Leaf->F (I a.den×Ups)
 |[]=>D ([],[])
 |l::ls=>match kG rd a l,tP rd a ls with
  |some (x,u),D (xs,v)=>D (x::xs,u++v)
  |_,_=>B
def tQ(rd:H->BS)(t:F Ty):Leaf->F (H×Ty×I Leaf)
 |.bp k 0=>match t with
  |some (.arr m a)=>if oF (D a) then match rd k with
   |.live (.cell ls J)=>D (m,a,ls)
   |_=>B
   else B
  |_=>B
 |_=>B
def inR(i:Ä)(n:H):Bool:=Y (0<=i)&&Y (i<(n:Ä))
def tR(rd:H->BS)(ti:TyI):Leaf->Leaf->F (X×Leaf)
 |.ol k,.d (.int _) i=>match rd k with
  |.live (.lst e a xs _)=>if ti.ty=D (.list a) then D (inR i xs.length,.ep k (Ã i) 0) else B
  |.live (.row _ a n _)=>if ti.ty=D (.list a) then D (inR i n,.ep k (cond (à n 1) 0 (Ã i)) 0) else B
  |_=>B
 |.d (.list a) xs,.d (.int _) i=>if ti.ty=D (.list a) then D (inR i (Å xs),.ip (scat a (Ê xs (Ã i) a.dflt))) else B
 |.bp k 0,.d (.int _) i=>match rd k with
  |.live (.arr n a _)=>if ti.ty=D (.arr n a) then D (inR i n,.ep k (Ã i) 0) else B
  |.live (.cell _ _)=>match ti.ty with
   |some (.arr n a)=>if oF (D a) then D (inR i n,.bp k (Ã i)) else B
   |_=>B
  |_=>B
 |.tl k j,.d (.int _) i=>match rd k with
  |.live (.lst e a xs _)=>if ti.ty=D (.list a) then D (inR i (xs.length-j),.ep k (j+Ã i) 0) else B
  |_=>B
 |_,_=>B
def idxV(ti:TyI):Cel->Leaf->F (X×Cel)
 |.av n a xs,.d (.int _) i=>if ti.ty=D (.arr n a) then D (inR i n,pb a (Ê xs (Ã i) a.dflt)) else B
 |.one (.d .str s),.d (.int _) i=>if ti.ty=D .str then D (inR i s.size,.one (.d (.int .u8) (dY s i))) else B
 |_,_=>B
def AS(ti:TyI)(sz:H->F H):I Leaf->I (H×Cel)->F (I Leaf)
 |ls,[]=>D ls
 |ls,(i,c)::r=>match ti.flds[i]? with
  |some f=>match c.leaves with
   |some new=>if sz f.2=D new.length/\f.1+new.length<=ls.length then AS ti sz (ph ls f.1 new) r else B
   |none=>B
  |none=>B
def lI(rd:H->BS)(a:Ty):I a.den->Ups->I (H×Cel)->F (I a.den×Ups)
 |xs,u,[]=>D (xs,u)
 |xs,u,(i,c)::r=>match oE rd a c with
  |some (x,u')=>if i<xs.length then lI rd a (xs.set i x) (u++u') r else B
  |none=>B
def lenC(rd:H->BS)(t:F Ty):Leaf->F Leaf
 |.nil=>if oF t then D (.d (.int .i64) (0:Ä)) else B
 |.ol k=>match rd k with
  |.live (.lst _ _ xs _)=>if oF t then D (.d (.int .i64) (xs.length:Ä)) else B
  |.live (.row _ _ n _)=>if oF t then D (.d (.int .i64) (n:Ä)) else B
  |_=>B
 |.d (.list _) xs=>if oF t then D (.d (.int .i64) ((Å xs:H):Ä)) else B
 |.d .str s=>if t=D .str then D (.d (.int .i64) ((ByteArray.size s:H):Ä)) else B
 |.tl k j=>match rd k with
  |.live (.lst _ _ xs _)=>if oF t then D (.d (.int .i64) ((xs.length-j:H):Ä)) else B
  |_=>B
 |.hd k i=>match rd k with
  |.live (.lst _ _ _ _)=>if oF t then D (.d (.int .i64) (i:Ä)) else B
  |_=>B
 |_=>B
def minC:I Cel->F Leaf
 |[.one (.d (.int k) x),.one (.d (.int k') y)]=>if k=k' then D (.d (.int k) (if (show Ä from y)<x then y else x:Ä)) else B
 |_=>B
def maxC:I Cel->F Leaf
 |[.one (.d (.int k) x),.one (.d (.int k') y)]=>if k=k' then D (.d (.int k) (if (show Ä from y)>x then y else x:Ä)) else B
 |_=>B
def iz:BS->X
 |.free=>U
 |_=>J
def aG:Nat:=4294967296
def appS(rd:H->BS)(e:H)(a:Ty):Leaf->F (I a.den×X×Ups)
 |.ol k=>match rd k with
  |.live (.lst e' a' xs frz)=>match (TV.mk (.list a') xs).to (.list a) with
   |some du=>if e'=e then D (du,frz,[(k,.gone)]) else B
   |none=>B
  |_=>B
 |.nil=>D ([],J,[])
 |_=>B
def appX(rd:H->BS)(a:Ty):Leaf->F (I a.den)
 |.ol k=>match rd k with
  |.live (.lst _ a' xs _)=>(TV.mk (.list a') xs).to (.list a)
  |_=>B
 |.d t xs=>(TV.mk t xs).to (.list a)
 |.nil=>D []
 |.tl k j=>match rd k with
  |.live (.lst _ a' xs _)=>match (TV.mk (.list a') xs).to (.list a) with
   |some du=>D (Ú j du)
   |none=>B
  |_=>B
 |_=>B
def bnd(d:H):F Leaf->F Ä
 |none=>D d
 |some (.d (.int _) i)=>D i
 |some _=>B
def AU(par:H->X)(rd:H->BS)(ti:TyI)(n:H)(x:Leaf)(lo hi:F Leaf):F (X×Leaf×Ups):=
 match x with
 |.d (.list a) xs=>if ti.ty=D (.list a) then match bnd 0 lo,bnd (Å xs) hi with
  |some i,D j=>D (Y (0<=i)&&(Y (i<=j)&&Y (j<=(Å xs:Ä))),.d (.list a) (Ú (Ã i) (Ð (Ã j) xs)),[])
  |_,_=>B
  else B
 |.ol k=>match hi with
  |none=>match rd k with
   |.live (.lst _ a xs _)=>if ti.ty=D (.list a) then match bnd 0 lo with
    |some i=>D (Y (0<=i)&&Y (i<=(xs.length:Ä)),.tl k (Ã i),[])
    |none=>B
    else B
   |_=>B
  |some _=>match rd k with
   |.live (.lst e a xs f)=>if ti.ty=D (.list a) then match bnd 0 lo,bnd xs.length hi with
    |some i,D j=>if par k then
      (if lo.isNone then D (Y (0<=j)&&Y (j<=(xs.length:Ä)),.hd k (Ã j),[]) else B)
     else if lo.isNone && !f then
      (if iz (rd n) then D (Y (0<=j)&&Y (j<=(xs.length:Ä)),.ol n,[(k,.gone),(n,.live (.lst e a (Ð (Ã j) xs) J))]) else B)
     else D (Y (0<=i)&&(Y (i<=j)&&Y (j<=(xs.length:Ä))),.d (.list a) (Ú (Ã i) (Ð (Ã j) xs)),[(k,.live (.lst e a xs U))])
    |_,_=>B
    else B
   |_=>B
 |.hd k _=>match rd k with
  |.live (.lst _ a xs _)=>if ti.ty=D (.list a)/\hi.isSome=U then match bnd 0 lo,bnd 0 hi with
   |some i,D j=>D (Y (0<=i)&&(Y (i<=j)&&Y (j=(xs.length:Ä))),.tl k (Ã i),[])
   |_,_=>B
   else B
  |_=>B
 |_=>B
def AV(rd:H->BS)(ti:TyI)(x:Leaf)(lo hi:F Leaf)(mx:Leaf):F Bool:=
 match x,lo,hi,mx with
 |.ol k,D (.d (.int _) i),D (.d (.int _) j),.d (.int _) m=>match rd k with
  |.live (.lst _ a xs _)=>if ti.ty=D (.list a) then D (Y ((0:Ä)<=i)&&(Y ((show Ä from i)<=j)&&(Y ((show Ä from j)<=m)&&Y (m<=(xs.length:Ä))))) else B
  |_=>B
 |_,_,_,_=>B
def appH(rd:H->BS)(el:H)(a:Ty)(s x:Leaf):F (X×Leaf×Ups):=
 match s,x with
 |.hd k i,.tl k' j=>if k=k' then match rd k with
  |.live (.lst e b xs J)=>if b=a/\e=el then D (Y (i<=j),.hd k (i+(xs.length-j)),[(k,.live (.lst e b (Ð i xs++(Ú j xs++Ú (i+(xs.length-j)) xs)) J))]) else B
  |_=>B
  else B
 |_,_=>B
def GS:Leaf->F (H×H)
 |.ol k=>D (k,0)
 |.tl k i=>D (k,i)
 |_=>B
def over{α:Type}(xs:I α)(i:H)(ys:I α):I α:=Ð i xs++(Ð (xs.length-i) ys++Ú (i+ys.length) xs)
def AW(rd:H->BS)(t:F Ty)(x y:Leaf):F (Leaf×Ups):=
 match GS x with
 |some (k,i)=>match rd k with
  |.live (.lst e a xs J)=>if t=D (.list a) then match appX rd a y with
   |some ys=>D (.d (.int .i64) ((min ys.length (xs.length-i):H):Ä),[(k,.live (.lst e a (over xs i ys) J))])
   |none=>B
   else B
  |_=>B
 |none=>B
def AX(rd:H->BS)(t:F Ty)(x:Leaf):F Ups:=
 match GS x with
 |some (k,i)=>match rd k with
  |.live (.lst e a xs J)=>if t=D (.list a) then D [(k,.live (.lst e a (Ð i xs++Ç (xs.length-i) a.dflt) J))] else B
  |_=>B
 |none=>B
inductive Act where
 |val (chk:X) (s:Slot) (ups:Ups)
 |call (f:H) (args:I Arg) (mk:Ret->F (Slot×Ups))
def Act.leaf(x:Leaf):Act:= .val U (.one (.one x)) []
def Act.cel(x:Cel):Act:= .val U (.one x) []
def nL(x:F Leaf):F Act:=match x with
 |some c=>D (.leaf c)
 |none=>B
def oCel(x:F Cel):F Act:=match x with
 |some c=>D (.cel c)
 |none=>B
def oChk(x:F (X×Leaf)):F Act:=match x with
 |some (b,c)=>D (.val b (.one (.one c)) [])
 |none=>B
def tvs(rd:H->BS):I Leaf->F (I TV×Ups)
 |[]=>D ([],[])
 |l::ls=>match tvs rd ls with
  |some (xs,u)=>match l with
   |.d t v=>D (⟨t,v⟩::xs,u)
   |.ol k=>match rd k with
    |.live (.lst e a es _)=>D (⟨.list a,es⟩::xs,(k,.live (.lst e a es U))::u)
    |_=>B
   |_=>B
  |none=>B
def vQ(rd:H->BS):I Cel->F (I Cap×Ups)
 |[]=>D ([],[])
 |c::r=>match vQ rd r with
  |some (l,u)=>match c with
   |.one (.d t v)=>if t.leafy then D (.v ⟨t,v⟩::l,u) else B
   |.one (.bp k 0)=>match rd k with
    |.live (.cell ls _)=>match tvs rd ls with
     |some (xs,u')=>if (u++u').any (λy=>y.1==k) then B else D (.p xs::l,(u++u')++[(k,.live (.cell (xs.map TV.leaf) U))])
     |none=>B
    |_=>B
   |_=>B
  |none=>B
def C1:I Cel->F (I H)
 |[]=>D []
 |.one (.bp k 0)::r=>match C1 r with
  |some ks=>D (k::ks)
  |none=>B
 |_::_=>B
inductive Bk where
 |ref (k:H)
 |rl (k e:H) (a:Ty)
 |mv (k e:H) (a:Ty)
def Bk.name:Bk->H
 |.ref k=>k
 |.rl k _ _=>k
 |.mv k _ _=>k
def Bk.isMv:Bk->X
 |.mv _ _ _=>U
 |_=>J
def vR(rd rdf:H->BS)(t:F TyI)(mv rl:X)(c:Cel):F (Arg×Ups×F Bk):=
 match c with
 |.one (.bp k 0)=>match rd k with
  |.live (.cell ls U)=>match tvs rdf ls with
   |some (xs,u)=>D (.ip xs,u,B)
   |none=>B
  |.live (.cell ls J)=>match tvs rdf ls with
   |some (xs,u)=>D (.ref xs,u,D (.ref k))
   |none=>B
  |_=>B
 |.one (.ip ls)=>D (.ip ls,[],B)
 |.one (.clo f caps)=>D (.clo f caps,[],B)
 |.one (.ol k)=>match rl with
  |true=>cond mv (match rdf k with
   |.live (.lst e a xs J)=>D (.mv e ⟨.list a,xs⟩,[],D (.mv k e a))
   |_=>B) (match rd k with
   |.live (.lst e a xs J)=>D (.rl e ⟨.list a,xs⟩,[],D (.rl k e a))
   |_=>B)
  |false=>match rdf k with
   |.live (.lst e a xs _)=>D (.v ⟨.list a,xs⟩,[(k,.live (.lst e a xs U))],B)
   |_=>B
 |c=>match t with
  |some ti=>match ti.ty with
   |some ty=>match oE rdf ty c with
    |some (x,u)=>D (.v ⟨ty,x⟩,u,B)
    |none=>B
   |none=>B
  |none=>B
def pj(rd rdf:H->BS)(T:H->F TyI)(mv:X):I H->I X->I Cel->F (I Arg×Ups×I Bk)
 |_,_,[]=>D ([],[],[])
 |ts,ms,c::r=>match vR rd rdf (ts.head?.bind T) mv (ms.headD J) c with
  |some (a,u,f)=>match pj rd rdf T mv ts.tail ms.tail r with
   |some (as,us,fs)=>D (a::as,u++us,f.toList++fs)
   |none=>B
  |none=>B
def pk:Cap->Arg
 |.v x=> .v x
 |.p ls=> .ip ls
def GU:Bk->Out->F (H×BS)
 |.ref k,.ref ys=>D (k,.live (.cell (ys.map TV.leaf) J))
 |.rl k e a,.rl y=>match y.to (.list a) with
  |some ys=>D (k,.live (.lst e a ys J))
  |none=>B
 |_,_=>B
def mE:I Bk->I Out->F Ups
 |[],[]=>D []
 |.mv k _ _::fs,xs=>match mE fs xs with
  |some u=>D ((k,.gone)::u)
  |none=>B
 |f::fs,x::xs=>match GU f x with
  |some y=>match mE fs xs with
   |some u=>D (y::u)
   |none=>B
  |none=>B
 |_,_=>B
def oG:I H->X
 |[]=>U
 |x::xs=> !xs.contains x&&oG xs
def bkOk(us:Ups)(fs:I Bk):Bool:=oG (fs.map Bk.name)&&us.all λx=> !(fs.map Bk.name).contains x.1
def soL:H->I RL->F (I Leaf×Ups)
 |_,[]=>D ([],[])
 |n,.d x::r=>match soL (n+1) r with
  |some (l,u)=>D (.d x.t x.v::l,u)
  |none=>B
 |n,.own e ⟨.list a,xs⟩::r=>match soL (n+1) r with
  |some (l,u)=>D (.ol n::l,(n,.live (.lst e a xs J))::u)
  |none=>B
 |_,.own _ _::_=>B
def GV(n:H):RV->F (Cel×Ups)
 |.v x=>D (pb x.t x.v,[])
 |.own e ⟨.list a,xs⟩=>D (.one (.ol n),[(n,.live (.lst e a xs J))])
 |.own _ _=>B
 |.box ls=>D (.one (.bp n 0),[(n,.live (.cell (ls.map TV.leaf) J))])
 |.hd _=>B
 |.vn x ns=>match pb x.t x.v with
  |.st ls=>D (.st (ls.zipIdx.map λy=>if ns.contains y.2 then .nil else y.1),[])
  |c=>D (c,[])
 |.clo f caps=>D (.one (.clo f caps),[])
 |.so ls=>match soL n ls with
  |some (l,u)=>D (.st l,u)
  |none=>B
 |.raw _ _=>B
def rvW:RV->H
 |.so ls=>ls.length
 |_=>1
def vS:H->I RV->F (I Cel×Ups)
 |_,[]=>D ([],[])
 |n,r::rs=>match GV n r with
  |some (c,u)=>match vS (n+rvW r) rs with
   |some (cs,us)=>D (c::cs,u++us)
   |none=>B
  |none=>B
def RV.flat:RV->X
 |.v x=>x.t.flat
 |.own _ x=>match x.t with
  |.list a=>a.flat
  |_=>J
 |.box _=>J
 |.hd _=>J
 |.vn _ _=>J
 |.clo _ _=>J
 |.so _=>J
 |.raw _ _=>J
def Out.flat:Out->X
 |.ref ls=>ls.all λx=>x.t.flat
 |.rl x=>x.t.flat
def mkHd(rd rdf:H->BS)(n:H)(us:Ups)(fs:I Bk)(m:H)(os:I Out):F (Slot×Ups):=
 match fs,os with
 |.rl k e a::_,.rl y::_=>match mE fs os,y.to (.list a) with
  |some uo,D ys=>if iz (rd n)&&isLive (rdf k) then D (.one (.one (.ol n)),us++uo++[(k,.gone),(n,.live (.lst e a (Ð m ys) J))]) else B
  |_,_=>B
 |_,_=>B
def itC:Item->Cel
 |.s c=>c
 |.b _=> .one .dead
def itX:Item->BS
 |.b x=>x
 |.s _=> .gone
def rawC(ns:I H)(s:Snap):I Cel:=(s.take (s.length-ns.length)).map itC
def rawU(ns:I H)(s:Snap):Ups:=ns.zip ((s.drop (s.length-ns.length)).map itX)
def C2:I Cel->Slot
 |[c]=> .one c
 |cs=> .tup cs
def C3(rd:H->BS)(us:Ups)(fs:I Bk)(ns:I H)(s:Snap)(os:I Out):F (Slot×Ups):=
 match fs,os with
 |[],[]=>if oG ns&&ns.all (λk=>iz (rd k)) then D (C2 (rawC ns s),us++rawU ns s) else B
 |_,_=>B
def tS(rd rdf:H->BS)(n:H)(us:Ups)(fs:I Bk)(r:Ret):F (Slot×Ups):=
 match r.vals with
 |[.hd m]=>mkHd rd rdf n us fs m r.outs
 |[.raw ns s]=>C3 rd us fs ns s r.outs
 |_=>match mE fs r.outs with
 |some uo=>match vS n r.vals with
  |some (cs,un)=>
   if un.all (λe=>iz (rd e.1)) then
    let u:=(if r.vals.all RV.flat&&r.outs.all Out.flat then [] else us)++uo++un
    match cs with
    |[c]=>D (.one c,u)
    |cs=>D (.tup cs,u)
   else B
  |none=>B
 |none=>B
def one1(fr:X)(e:H)(a:Ty)(n len:H):I (H×Cel)->F Act
 |[(0,c)]=>match c.leaves with
  |some ls=>if len=1/\ls.length=a.size/\a.size<=16777216/\fr=U/\isM e=J then D (.val U (.one (.one (.ol n))) [(n,.live (.row e a 1 ls))]) else B
  |none=>B
 |_=>B
def rowS(rdf:H->BS)(e:H)(a:Ty):Leaf->F (H×I Leaf×Ups)
 |.nil=>D (0,[],[])
 |.ol k=>match rdf k with
  |.live (.row e' a' m ls)=>if e'=e/\a'=a then D (m,ls,[(k,.gone)]) else B
  |_=>B
 |_=>B
def appN(rd rdf:H->BS)(e:H)(a:Ty)(n:H)(s x:Leaf):F (Leaf×Ups):=
 match x with
 |.ol k=>match rdf k with
  |.live (.row e' a' m ls)=>match rowS rdf e a s with
   |some (m0,GW,u)=>if (e'=e/\a'=a)/\u.any (λy=>y.1==k)=J/\m0+m<=1000/\iz (rd n)=U then D (.ol n,u++[(k,.gone),(n,.live (.row e a (m0+m) (GW++ls)))]) else B
   |none=>B
  |_=>B
 |_=>B
def lf(c:Cel):Leaf:=match c with|.one y=>y|_=> .dead
def GX(x:Ì)(b:X)(act:I (H×X)):I (H×X):=match x with
 |.tmp s=>(s,b)::act
 |_=>act
def xF(T:H->F TyI)(t:H):F (Ty×Ty):=match T t with
 |some ti=>match ti.mp with
  |some (k,v)=>match T k,T v with
   |some tk,D tv=>match tk.ty,tv.ty with
    |some k,D v=>if k.isKey then D (k,v) else B
    |_,_=>B
   |_,_=>B
  |none=>B
 |none=>B
def mapC(rw:H->BS)(t:H)(k v:Ty)(x y:Leaf):F (H×I (k.den×v.den)×k.den):=match x,y with
 |.ol b,.d tk key=>match rw b with
  |.live (.lst e a xs J)=>if e=4294967296+t then match (TV.mk (.list a) xs).to (.list (.pair k v)),(TV.mk tk key).to k with
    |some ys,D q=>D (b,ys,q)
    |_,_=>B
   else B
  |_=>B
 |_,_=>B
def Env.ta(E:Env)(g:H):H->F TyI:=match E.pa g with
 |none=>E.T
 |some (t,ty)=>λn=>if n=t then (match E.T n with
  |some ti=>D { ti with ty:=D ty }
  |none=>B) else E.T n
def eG(E:Env)(ev:Ì->Slot)(rw:H->BS)(act:I (H×X))(o:Æ):F Act:=
 let rd:=mskM rw
 let c (x:Ì):Cel:=(ev x).cel act
 let l (x:Ì):Leaf:=lf (c x)
 let n:=(o.dst.getD 0)*64+E.off
 let rdf (k:H):BS:=if parK E.np k then .gone else rd k
 match o.op with
 |.move x|.assign x=>match ev x with
  |.tup l=>D (.val U (.tup l) [])
  |s=>D (.cel (s.cel act))
 |.pick x a b=>match l x with
  |.d .bool v=>
   match (ev a).cel (GX x U act),(ev b).cel (GX x J act) with
   |.one (.d t p),.one (.d t' q)=>match (TV.mk t' q).to t with
    |some q'=>D (.leaf (.d t (cond v p q')))
    |none=>B
   |.one (.d t p),.one .dead=>D (.val v (.one (.one (.d t p))) [])
   |.one .dead,.one (.d t q)=>D (.val (!(show X from v)) (.one (.one (.d t q))) [])
   |_,_=>B
  |_=>B
 |.alloc t=>match E.T t with
  |some ti=>if iz (rd n) then match ti.ty with
    |some (.arr k a)=>if oF (D a) then D (.val U (.one (.one (.bp n 0))) [(n,.live (.cell (oD (.arr k a)) J))]) else D (.val U (.one (.one (.bp n 0))) [(n,.live (.arr k a (Ç k a.dflt)))])
    |some ty=>D (.val U (.one (.one (.bp n 0))) [(n,.live (.cell (oD ty) J))])
    |none=>B
   else B
  |none=>B
 |.box _ x=>if iz (rd n) then match c x with
   |.av k a xs=>D (.val U (.one (.one (.bp n 0))) [(n,.live (.arr k a xs))])
   |v=>match v.leaves with
    |some ls=>D (.val U (.one (.one (.bp n 0))) [(n,.live (.cell ls J))])
    |none=>B
  else B
 |.build t ps=>match E.T t with
  |some ti=>match ti.ty with
   |some (.arr k a)=>if oF (D a)&&ps.toList.isEmpty then D (.cel (.st (oD (.arr k a)))) else match lI rdf a (Ç k a.dflt) [] (ps.toList.map λp=>(p.1,c p.2)) with
    |some (xs,u)=>D (.val U (.one (.av k a xs)) u)
    |none=>B
   |some ty=>if ty.agg then match AS ti (λt=>(E.T t).map (·.size)) (oD ty) (ps.toList.map λp=>(p.1,c p.2)) with
    |some ls=>D (.cel (.st ls))
    |none=>B
    else B
   |none=>B
  |none=>B
 |.buildSlice t len ps=>match E.T t with
  |some ti=>match ti.ty with
   |some (.list a)=>if E.b1.contains (o.dst.getD 0) then one1 (iz (rd n)) ti.elem a n len (ps.toList.map λp=>(p.1,c p.2)) else if 16777216<len*a.size then B else match lI rdf a (Ç len a.dflt) [] (ps.toList.map λp=>(p.1,c p.2)) with
    |some (xs,u)=>if iz (rd n) then D (.val U (.one (.one (.ol n))) (u++[(n,.live (.lst ti.elem a xs J))])) else B
    |none=>B
   |_=>B
  |none=>B
 |.load t x=>match E.T t with
  |some ti=>match tQ rd ti.ty (l x) with
   |some (m,a,ls)=>match tP rdf a ls with
    |some (xs,u)=>if xs.length=m then D (.val U (.one (.av m a xs)) u) else B
    |none=>B
   |none=>oCel (pd rd ti (l x))
  |none=>B
 |.store t x y=>match E.T t with
  |some ti=>match vP rd rdf ti.size (c y) (l x) with
   |some u=>D (.val U (.one (.one .dead)) u)
   |none=>B
  |none=>B
 |.nilCheck x=>match l x with
  |.bp k p=>if isLive (rd k) then D (.leaf (.bp k p)) else B
  |.ep k i p=>if isLive (rd k) then D (.leaf (.ep k i p)) else B
  |.ip ls=>D (.leaf (.ip ls))
  |_=>B
 |.binOp op t x y _=>oChk (binC (E.T t) op (c x) (c y))
 |.unOp op _ x=>nL (unC op (c x))
 |.convert src dst x=>match E.T src,E.T dst with
  |some ts,D ti=>match l x,ts.ty,ti.ty with
   |.d (.int _) v,D (.int _),D (.int k)=>D (.leaf (.d (.int k) (k.wrap v)))
   |_,_,_=>B
  |_,_=>B
 |.makeFunc (.func f) first caps=>if first.isEmpty then (if E.cr.contains f then match C1 (caps.toList.map c) with
   |some ks=>D (.val U (.one (.one (.clr f ks))) [])
   |none=>B
  else match vQ rdf (caps.toList.map c) with
   |some (l,u)=>D (.val U (.one (.one (.clo f l))) u)
   |none=>B)
  else B
 |.fieldAddr t x i=>match E.T t with
  |some ti=>nL (p9 rd ti i (l x))
  |none=>B
 |.field t x i=>match E.T t with
  |some ti=>match c x,ti.flds[i]? with
   |.st ls,D f=>match E.T f.2 with
    |some tf=>oCel (sW tf ((ls.drop f.1).take tf.size))
    |none=>B
   |_,_=>B
  |none=>B
 |.indexAddr t x i=>match E.T t with
  |some ti=>oChk (tR rd ti (l x) (l i))
  |none=>B
 |.index t x i=>match E.T t with
  |some ti=>match idxV ti (c x) (l i) with
   |some (b,v)=>D (.val b (.one v) [])
   |none=>B
  |none=>B
 |.makeMap t B=>match xF E.T t with
  |some (k,v)=>if iz (rd n) then D (.val U (.one (.one (.ol n))) [(n,.live (.lst (4294967296+t) (.pair k v) [] J))]) else B
  |none=>B
 |.lookup t x i ok=>match xF E.T t with
  |some (k,v)=>match mapC rw t k v (l x) (l i) with
   |some (_,ys,q)=>match ok with
    |true=>D (.val U (.tup [pb v (@hQ _ _ k.keq v.dflt ys q),.one (.d .bool (@jH _ _ k.keq ys q))]) [])
    |false=>D (.cel (pb v (@hQ _ _ k.keq v.dflt ys q)))
   |none=>B
  |none=>B
 |.mapUpdate t x i y=>match xF E.T t with
  |some (k,v)=>match mapC rw t k v (l x) (l i),oE rdf v (c y) with
   |some (b,ys,q),D (z,u)=>D (.val U (.one (.one .dead)) (u++[(b,.live (.lst (4294967296+t) (.pair k v) (@iI _ _ k.keq ys q z) J))]))
   |_,_=>B
  |none=>B
 |.extract x i=>match ev x with
  |.tup l=>match l[i]? with
   |some c=>D (.cel c)
   |none=>B
  |_=>B
 |.call cl=>match cl.callee with
  |.builtin .len=>match cl.args.toList,cl.argTypes.toList with
   |[x],[t]=>match E.T t with
    |some ti=>nL (lenC rd ti.ty (l x))
    |none=>B
   |_,_=>B
  |.builtin .min=>nL (minC (cl.args.toList.map c))
  |.builtin .max=>nL (maxC (cl.args.toList.map c))
  |.builtin .append=>match cl.argTypes.toList,cl.args.toList with
   |[t,t'],[s,x]=>if t=t' then match E.T t with
     |some ti=>match ti.ty with
      |some (.list a)=>match appH rd ti.elem a (l s) (l x) with
       |some (b,v,u)=>D (.val b (.one (.one v)) u)
       |none=>match appN rd rdf ti.elem a n (l s) (l x) with
       |some (v,u)=>D (.val U (.one (.one v)) u)
       |none=>match appS rdf ti.elem a (l s),appX rd a (l x) with
        |some (xs,frz,u),D ys=>
         if iz (rd n) then D (.val (Y (xs.length+ys.length<=aG)) (.one (.one (.ol n))) (u++[(n,.live (.lst ti.elem a (xs++ys) frz))])) else B
        |_,_=>B
      |_=>B
     |none=>B
    else B
   |_,_=>B
  |.value f=>match l f with
   |.clo g caps=>match pj rw rdf (E.ta g) (E.mvf g) cl.argTypes.toList (E.modes g) (cl.args.toList.map c) with
    |some (as,us,fs)=>if bkOk us fs then D (.call g (as++caps.map pk) (tS rd rdf n us fs)) else B
    |none=>B
   |.clr g ks=>match pj rw rdf (E.ta g) (E.mvf g) cl.argTypes.toList (E.modes g) (cl.args.toList.map c++ks.map λk=> .one (.bp k 0)) with
    |some (as,us,fs)=>if bkOk us fs then D (.call g as (tS rd rdf n us fs)) else B
    |none=>B
   |_=>B
  |.builtin .copy=>match cl.argTypes.toList,cl.args.toList with
   |[t,t'],[x,y]=>if t=t' then match E.T t with
     |some ti=>match AW rd ti.ty (l x) (l y) with
      |some (v,u)=>D (.val U (.one (.one v)) u)
      |none=>B
     |none=>B
    else B
   |_,_=>B
  |.builtin .clear=>match cl.argTypes.toList,cl.args.toList with
   |[t],[x]=>match E.T t with
    |some ti=>match AX rd ti.ty (l x) with
     |some u=>D (.val U (.one (.one .dead)) u)
     |none=>B
    |none=>B
   |_,_=>B
  |_=>B
 |.slice t x lo hi B=>match E.T t with
  |some ti=>match AU (parK E.np) rd ti n (l x) (lo.map l) (hi.map l) with
   |some (b,v,u)=>D (.val b (.one (.one v)) u)
   |none=>B
  |none=>B
 |.slice t x lo hi (D mx)=>match E.T t with
  |some ti=>match AV rd ti (l x) (lo.map l) (hi.map l) (l mx) with
   |some b=>D (.val b (.one (.one .dead)) [])
   |none=>B
  |none=>B
 |_=>B
def St.upd(σ:St):Ups->St
 |[]=>σ
 |e::u=>(σ.setB e.1 e.2).upd u
def kill(d:H):Slot->Slot
 |.cnd s w c=>if s=d then .one (.one .dead) else .cnd s w c
 |x=>x
def St.put(σ:St)(d:F H)(s:Slot):St:=
 match d with
 |none=>σ
 |some d=>{ σ with sl:=λj=>kill d (if j=d then s else σ.sl j) }
def St.setD(σ:St)(d:F H)(s:Slot):St:=
 match d with
 |none=>σ
 |some d=>σ.setS d s
def ğ:Slot->Slot
 |.cnd _ _ _=> .one (.one .dead)
 |x=>x
def St.clear(σ:St):St:={ σ with sl:=λj=>ğ (σ.sl j) }
def mF(N:NT)(o:Æ):Bool:=
 match o.dst with
 |none=>U
 |some d=>Y (d<N.n) && !N.pin d
def xG{R:Type}(e:X)(t f:F R):F R:=open Classical in cond e (if t=f then f else B) f
theorem Ġ{R:Type}(e:X)(t:F R):xG e t t=t:=by cases e<;>simp[xG]
theorem ġ{R:Type}{e:X}{t f:F R}{r:R}(h:xG e t f=D r):f=D r/\(e=U->t=D r):=by
 cases e with
 |false=>exact⟨h,λh'=>by simp at h'⟩
 |true=>
  simp only[xG,j6]at h;split at h
  .rename_i he;exact⟨h,λ_=>he.trans h⟩
  .simp at h
def nilT(E:Env)(σ:St)(o:Æ):F Bool:=
 match o.op with
 |.binOp .eql t x y _=>match σ.ev x,σ.ev y,E.T t with
  |.one (.one (.d (.list _) xs)),.one (.one .nil),D ti=>if oF ti.ty then D (List.isEmpty xs) else B
  |_,_,_=>B
 |_=>B
def spT(σ:St)(o:Æ):F (H×Î×Ä×H):=
 match o.op with
 |.indexAddr _ x (.tmp t)=>match σ.ev x,σ.sl t with
  |.one (.one (.ol k)),.one (.one (.d (.int kk) v))=>match σ.bx k with
   |.live (.row _ _ n _)=>if Nat.blt 1 n then D (t,kk,v,n) else B
   |_=>B
  |_,_=>B
 |_=>B
def spl{R:Type}(v:Ä)(f:Ä->F R):H->H->F R
 |0,_=>B
 |m+1,j=>cond (v==Ï j) (f (Ï j)) (spl v f m (j+1))
def pre{R:Type}(σ:St)(o:Æ)(k:St->F R):F R:=match spT σ o with
 |some (t,kk,v,n)=>spl v (λj=>k (σ.setS t (.one (.one (.d (.int kk) j))))) n 0
 |none=>k σ
theorem TR{R:Type}{v:Ä}{f:Ä->F R}{r:R}:∀(m j:H),spl v f m j=D r->f v=D r
 |0,_,h=>by simp[spl]at h
 |m+1,j,h=>by
  simp only[spl]at h;by_cases he:v=Ï j
  .rw[<-he,kp,j6]at h;exact h
  .rw[show (v==Ï j)=J by simpa using he,j7]at h;exact TR m (j+1) h
theorem Ģ{σ:St}{i:H}{s:Slot}(h:σ.sl i=s):σ.setS i s=σ:=by
 have e:(λj=>if j=i then s else σ.sl j)=σ.sl:=by
  funext j
  by_cases hj:j=i
  .subst hj;rw[if_pos rfl,h]
  .rw[if_neg hj]
 show { σ with sl:=_ }=σ;rw[e]
theorem TS{R:Type}{σ:St}{o:Æ}{k:St->F R}{r:R}(h:pre σ o k=D r):k σ=D r:=by
 unfold pre at h;split at h
 .rename_i t kk v n he;have h':=TR _ _ h
  have hs:σ.sl t = .one (.one (.d (.int kk) v)):=by
   unfold spT at he
   repeat' split at he
   all_goals first
    |(simp at he;done)
    |(
     simp only[j5,j9]at he;obtain⟨rfl,rfl,rfl,rfl⟩:=he;assumption)
  rw[Ģ hs]at h';exact h'
 .exact h
noncomputable section
variable(E:Env){R:Type}
def run1(p:X)(σ:St)(act:I (H×X))(o:Æ)(k:St->F R):F R:=pre σ o λσ=>
 match cond E.nz (nilT E σ o) B with
 |some e=>xG e (k (cond p (σ.put o.dst (.one (.one (.d .bool U)))) (σ.setD o.dst (.one (.one (.d .bool U)))))) (k (cond p (σ.put o.dst (.one (.one (.d .bool J)))) (σ.setD o.dst (.one (.one (.d .bool J))))))
 |none=>
 match eG E σ.ev σ.bx act o with
 |none=>B
 |some (.val chk s u)=>cond chk (k (cond p ((σ.upd u).put o.dst s) ((σ.upd u).setD o.dst s))) B
 |some (.call f args mk)=>E.C f args R λret=>match mk ret with
  |some (s,u)=>k (cond p ((σ.upd u).put o.dst s) ((σ.upd u).setD o.dst s))
  |none=>B
def gval(σ:St)(s:H):F Bool:=
 match σ.sl s with
 |.one (.one (.d .bool v))=>D v
 |.cnd _ _ (.one (.d .bool v))=>D v
 |_=>B
def Li(r:I (H×X))(σ:St)(s:H):F Bool:=
 match σ.sl s with
 |.one (.one (.d .bool v))=>D v
 |.cnd s' w' (.one (.d .bool v))=>if r.contains (s',w') then D v else B
 |_=>B
def actB(σ:St):I (H×X)->F X
 |[]=>D U
 |(s,w)::r=>match gval σ s with
  |some v=>match r with
   |[]=>D (cond w v (!v))
   |r=>match actB σ r with
    |some b=>D (b&&cond w v (!v))
    |none=>B
  |none=>B
def vT:I (H×X)->St->(St->X->F R)->F R
 |[],σ,k=>k σ U
 |(s,w)::r,σ,k=>vT r σ λσ1 a=>match a with
  |true=>match Li r σ1 s with
   |some v=>cond v (k (σ1.setS s (.one (.one (.d .bool U)))) w) (k (σ1.setS s (.one (.one (.d .bool J)))) (!w))
   |none=>B
  |false=>k σ1 J
def C4(ops:É Æ)(σ:St)(o:Æ)(k:St->F R):F R:=
 match o9 ops o with
 |none=>match o.guard with
  |none=>run1 E U σ [] o k
  |some _=>B
 |some g=>
  let ch:=σ.chain 40 g
  let qY:=vT ch σ λσ' a=>match a with
   |true=>run1 E U σ' ch o k
   |false=>k (σ'.put o.dst (.one (.one .dead)))
  match eG E σ.ev σ.bx ch o with
  |some (.val chk (.one c) [])=>match actB σ ch with
   |some ab=>cond (chk || !ab) (k (σ.put o.dst (.cnd g.1 g.2 c))) B
   |none=>qY
  |_=>qY
def nM:I Æ->St->(St->F R)->F R
 |[],σ,k=>k σ
 |o::os,σ,k=>if mF E.N o then run1 E J σ [] o λσ'=>nM os σ' k else B
def AY(ops:É Æ):I Æ->St->(St->F R)->F R
 |[],σ,k=>k σ.clear
 |o::os,σ,k=>if mF E.N o then C4 E ops σ o λσ'=>AY ops os σ' k else B
def bare(ops:É Æ):Bool:=ops.toList.all λo=>o.guard.isNone
def lJ(ops:É Æ)(σ:St)(k:St->F R):F R:=
 if bare ops then nM E ops.toList σ k else AY E ops ops.toList σ k
end
noncomputable section
variable(E:Env){R:Type}
def Lj(σ:St)(o o2:Æ):F (X×St):=
 match o.op,o2.op with
 |.call c1,.call c2=>match c1.callee,c1.args.toList,c2.callee,c2.args.toList with
  |.value f1,[x],.value f2,[.tmp d]=>match σ.ev f1,σ.ev x,(σ.setD o.dst (.one (.one .dead))).ev f2 with
   |.one (.one (.clo fK [])),.one (.one (.ol b)),.one (.one (.clo fS []))=>match E.bw fS,σ.bx b with
    |some (U,.arr Lk (.arr e .bool)),.live (.lst em a xs _)=>match TP a xs with
     |some (c,ys)=>if Lk=fK/\o.dst=D d/\isM em=U/\isM e=J/\iz (σ.bx ((o2.dst.getD 0)*64))=U then
      D (c,((σ.setD o.dst (.one (.one .dead))).setB ((o2.dst.getD 0)*64) (.live (.lst e (.int .i64) ys J))).setD o2.dst (.one (.one (.ol ((o2.dst.getD 0)*64))))) else B
     |none=>B
    |_,_=>B
   |_,_,_=>B
  |_,_,_,_=>B
 |_,_=>B
def Ll(σ:St)(o:Æ):F (X×St):=
 match o.op with
 |.call c1=>match c1.callee,c1.args.toList with
  |.value f1,[x,y]=>match σ.ev f1,σ.ev x,σ.ev y with
   |.one (.one (.clo fG [])),.one (.one .nil),.one (.one (.d (.int .i64) n))=>match E.bw fG,E.T o.type with
    |some (U,.arr e (.arr sz .unit)),D ti=>match ti.ty with
     |some (.list a)=>if a.size=sz/\isM e=J/\iz (σ.bx ((o.dst.getD 0)*64))=U then
      D (Y (0<=n)&&Y (n<=1000000),(σ.setB ((o.dst.getD 0)*64) (.live (.lst e a [] J))).setD o.dst (.one (.one (.ol ((o.dst.getD 0)*64))))) else B
     |_=>B
    |_,_=>B
   |_,_,_=>B
  |_,_=>B
 |_=>B
def runK(σ:St)(o:Æ)(k:St->F R):F R:=
 match Ll E σ o with
 |some (c,σ')=>cond c (k σ') B
 |none=>run1 E J σ [] o k
def tT:I Æ->St->(St->F R)->F R
 |[],σ,k=>k σ
 |[o],σ,k=>if mF E.N o then runK E σ o k else B
 |o::o2::os,σ,k=>if mF E.N o then match Lj E σ o o2 with
   |some (c,σ')=>if mF E.N o2 then cond c (tT os σ' k) B else B
   |none=>runK E σ o λσ'=>tT (o2::os) σ' k
  else B
def C5(ops:É Æ)(σ:St)(k:St->F R):F R:=if bare ops then tT E ops.toList σ k else B
end
def gR(o:Æ):I Nat:=o.after.toList.filterMap λe=>if Region.binds .any e then D e.on else B
def qZ(o:Æ):Bool:=match o.op with
 |.nilCheck _|.fieldAddr _ _ _|.indexAddr _ _ _=>U
 |_=>J
def tU(o:Æ):Bool:=match o.op with
 |.store _ _ _=>U
 |_=>J
def ģ(cls:I H)(o:Æ):Nat:=(gR o).foldl (λm j=>m|||(2^j|||cls.getD j 0)) 0
def tV:I Æ->I H->I H
 |[],cls=>cls
 |o::os,cls=>tV os (cls++[ģ cls o])
def C6(cl:I H)(i j:H):Bool:=i==j||(cl.getD i 0).testBit j||(cl.getD j 0).testBit i
def Ĥ(a b:I H):Bool:=a.all λk=> !b.contains k
def GY(ops:É Æ)(cl:I H)(A:I (I H))(i:H)(oi:Æ)(j:H)(oj:Æ):Bool:=
 (match oj.dst with
 |some t=>i==j||(oi.dst != D t&&(!(oi.looksAt ops).contains t||C6 cl i j))
 |none=>U)&&(A.isEmpty||C6 cl i j||Ĥ (A.getD i []) (A.getD j []))
def TT(ops:É Æ)(cl:I H)(A:I (I H)):Bool:=
 ops.toList.zipIdx.all λx=>(gR x.1).all (λj=>Y (j<x.2))&&(A.isEmpty || !qZ x.1||(A.getD x.2 []).isEmpty)&&ops.toList.zipIdx.all λy=>GY ops cl A x.2 x.1 y.2 y.1
def tW(ops:É Æ)(cl:I H)(A:I (I H))(i:H)(oi:Æ):I Nat:=
 if A.isEmpty then [] else ops.toList.zipIdx.flatMap λx=>if C6 cl i x.2||(qZ oi&&tU x.1) then [] else A.getD x.2 []
def kB(M:I H)(rd:H->BS)(k:H):BS:=if M.contains k then .gone else rd k
noncomputable section
variable(E:Env){R:Type}
def runD(M Ai:I H)(σ:St)(o:Æ)(k:St->F R):F R:=pre σ o λσ=>
 match eG E σ.ev (kB M σ.bx) [] o with
 |none=>B
 |some (.val chk s u)=>if u.all (λe=>Ai.contains e.1) then cond chk (k ((σ.upd u).setD o.dst s)) B else B
 |some (.call f args mk)=>E.C f args R λret=>match mk ret with
  |some (s,u)=>if u.all (λe=>Ai.contains e.1) then k ((σ.upd u).setD o.dst s) else B
  |none=>B
def Lm(σ:St)(o:Æ)(k:St->F R):F R:=k (σ.setD o.dst .und)
def C7(ops:É Æ)(M Ai:I H)(σ:St)(o:Æ)(k:St->F R):F R:=
 match o.guard with
 |none=>runD E M Ai σ o k
 |some _=>match o9 ops o with
  |some (s,wn)=>match σ.sl s with
   |.one (.one (.d .bool v))=>
    cond v (cond wn (runD E M Ai (σ.setS s (.one (.one (.d .bool U)))) o k) (Lm (σ.setS s (.one (.one (.d .bool U)))) o k))
     (cond wn (Lm (σ.setS s (.one (.one (.d .bool J)))) o k) (runD E M Ai (σ.setS s (.one (.one (.d .bool J)))) o k))
   |.und=>Lm σ o k
   |_=>B
  |none=>B
def AZ(ops:É Æ)(cl:I H)(A:I (I H)):I Æ->H->St->(St->F R)->F R
 |[],_,σ,k=>k σ
 |o::os,i,σ,k=>if mF E.N o then C7 E ops (tW ops cl A i o) (A.getD i []) σ o λσ'=>AZ ops cl A os (i+1) σ' k else B
def vU(ops:É Æ)(A:I (I H))(σ:St)(k:St->F R):F R:=
 if TT ops (tV ops.toList []) A then AZ E ops (tV ops.toList []) A ops.toList 0 σ k else B
end
def jI(σ:St):Loc->Leaf
 |.slot i=>match σ.sl i with
  |.one (.one x)=>x
  |_=> .dead
 |.cell k c=>match σ.bx k with
  |.live (.cell ls J)=>ls.getD c .dead
  |_=> .dead
def C8(K:Keep)(l:Loc):F Nat:=(K.lists.find? λx=>x.locs.contains l).map (·.name)
def po(K:Keep)(loc:F Loc):Leaf->Leaf
 |.dead=> .dead
 |.nil=>match loc.bind (C8 K) with
  |some n=> .ol n
  |none=> .nil
 |.d t v=> .d t v
 |.ol k=>if K.boxes.contains k then .ol k else match loc.bind (C8 K) with
  |some n=> .ol n
  |none=> .dead
 |.bp k c=>if K.boxes.contains k then .bp k c else .dead
 |.ep _ _ _=> .dead
 |.tl k i=>if K.boxes.contains k then .tl k i else .dead
 |.hd k i=>if K.boxes.contains k then .hd k i else .dead
 |.ip ls=> .ip ls
 |.clo f caps=> .clo f caps
 |.clr f ks=>if ks.all (λk=>K.boxes.contains k) then .clr f ks else .dead
def GZ(K:Keep)(i:H):Slot->Cel
 |.one (.one x)=> .one (po K (D (.slot i)) x)
 |.one (.st ls)=> .st (ls.map (po K B))
 |.one (.av n a xs)=> .av n a xs
 |_=> .one .dead
def vV(K:Keep)(k:H):BS->BS
 |.live (.cell ls frz)=> .live (.cell (ls.zipIdx.map λx=>po K (if frz then B else D (.cell k x.2)) x.1) frz)
 |.live (.arr n a xs)=> .live (.arr n a xs)
 |.live (.lst e a xs frz)=> .live (.lst e a xs frz)
 |_=> .gone
def A9(σ:St)(e:H)(a:Ty)(l:Loc):F (F H×I a.den×X):=
 match jI σ l with
 |.nil=>if isM e then B else D (B,[],J)
 |.ol k=>match σ.bx k with
  |.live (.lst e' a' xs frz)=>match (TV.mk (.list a') xs).to (.list a) with
   |some du=>if e'=e then D (D k,du,frz) else B
   |none=>B
  |_=>B
 |_=>B
def xH(σ:St)(e:H)(a:Ty):I Loc->F (F H×I a.den×X)
 |[]=>B
 |[l]=>A9 σ e a l
 |l::ls=>match A9 σ e a l,xH σ e a ls with
  |some (k,xs,f),D (k',_,_)=>if k=k' then D (k,xs,f) else B
  |_,_=>B
def Ba(np:H)(σ:St)(bs:I H):I o8->F (I Item×I H)
 |[]=>D ([],[])
 |x::r=>match xH σ x.e x.a x.locs,Ba np σ bs r with
  |some (k,xs,f),D (is,ks)=>match k with
   |none=>D (.b (.live (.lst x.e x.a xs x.frz))::is,ks)
   |some k=>if ks.contains k||bs.contains k||parK np k then B else D (.b (.live (.lst x.e x.a xs f))::is,k::ks)
  |_,_=>B
def vW(np:H):I o8->St->F St
 |[],σ=>D σ
 |x::r,σ=>if x.frz then match x.locs with
   |l::_=>match jI σ l with
    |.ol k=>match σ.bx k with
     |.live (.lst e a xs _)=>if parK np k||isM e then B else vW np r (σ.setB k (.live (.lst e a xs U)))
     |_=>B
    |_=>vW np r σ
   |[]=>vW np r σ
  else vW np r σ
def Keep.ok(np:H)(K:Keep):Bool:=oG (K.lists.map (·.name))&&K.lists.all λx=> !K.boxes.contains x.name && !parK np x.name
def xI(σ:St)(l:Loc)(x:Leaf):St:=
 match l with
 |.slot i=>match σ.sl i with
  |.one (.one _)=>σ.setS i (.one (.one x))
  |_=>σ
 |.cell k c=>match σ.bx k with
  |.live (.cell ls J)=>σ.setB k (.live (.cell (ls.set c x) J))
  |_=>σ
def Bb(np:H):I (Loc×Ty)->St->F St
 |[],σ=>D σ
 |(l,t)::r,σ=>match kG (λk=>if parK np k then .gone else mskM σ.bx k) t (jI σ l) with
  |some (v,u)=>Bb np r (xI (σ.upd u) l (.d t v))
  |none=>B
def Ln(np:H)(K:Keep)(σ:St):F Snap:=
 match Ba np σ K.boxes K.lists with
 |some (is,_)=>if K.ok np then D ((K.slots.map λi=> .s (GZ K i (σ.sl i)))++((K.boxes.map λk=> .b (vV K k (σ.bx k)))++is)) else B
 |none=>B
def kH(np:H)(K:Keep)(σ:St):F Snap:=
 match Bb np K.datas σ with
 |some σ1=>match vW np K.lists σ1 with
  |some σ2=>Ln np K σ2
  |none=>B
 |none=>B
def xJ:F Item->Slot
 |some (.s c)=> .one c
 |_=> .one (.one .dead)
def vX:F Item->BS
 |some (.b b)=>b
 |_=> .gone
def dD(np:H)(K:Keep)(s:Snap):St where
 sl:=λi=>match K.slots.idxOf? i with
  |some j=>xJ s[j]?
  |none=> .one (.one .dead)
 bx:=λn=>match K.boxes.idxOf? n with
  |some j=>vX s[K.slots.length+j]?
  |none=>match (K.lists.map (·.name)).idxOf? n with
   |some j=>vX s[K.slots.length+K.boxes.length+j]?
   |none=>if parK np n then .gone else .free
def rowL(a:Ty)(m:H)(xs:I a.den):I Leaf:=(Ñ m).flatMap λi=>(scat a (Ê xs i a.dflt)).map TV.leaf
def Bc(rd:H->BS)(a:Ty):H->I Leaf->F (I a.den×Ups)
 |0,[]=>D ([],[])
 |0,_::_=>B
 |n+1,ls=>match gath rd a ls with
  |some (x,r,u)=>match Bc rd a n r with
   |some (xs,v)=>D (x::xs,u++v)
   |none=>B
  |none=>B
def Bd(np:H)(σ:St):Gh->F (X×St)
 |.ex k c n m=>match σ.bx k with
  |.live (.cell ls J)=>match ls.getD c .dead with
   |.ol b=>match σ.bx b with
    |.live (.lst e a xs J)=>if isM e||parK np b||b==n||b==k || !iz (σ.bx n) then B else
     D (à xs.length m,(((σ.setB b .gone).setB n (.live (.row e a m (rowL a m xs)))).setB k (.live (.cell (ls.set c (.ol n)) J))))
    |_=>B
   |_=>B
  |_=>B
 |.rl k=>match σ.bx k with
  |.live (.row e a n ls)=>match Bc (λj=>if parK np j then .gone else mskM σ.bx j) a n ls with
   |some (xs,u)=>if u.any (λy=>y.1==k) then B else D (U,σ.upd (u++[(k,.live (.lst e a xs J))]))
   |none=>B
  |_=>D (U,σ)
 |.se k=>match σ.bx k with
  |.live (.cell ls J)=>if parK np k then B else match tvs (λj=>if parK np j then .gone else mskM σ.bx j) ls with
   |some (xs,u)=>if u.any (λy=>y.1==k) then B else D (U,σ.upd (u++[(k,.live (.cell (xs.map TV.leaf) U))]))
   |none=>B
  |_=>B
 |.da l=>match Bb np l σ with
  |some σ'=>D (U,σ')
  |none=>B
def xK{R:Type}(np:H):I Gh->St->(St->F R)->F R
 |[],σ,k=>k σ
 |g::gs,σ,k=>match Bd np σ g with
  |some (b,σ')=>cond b (xK np gs σ' k) B
  |none=>B
def vY{R:Type}(f:H->St->(Ex->St->F R)->F R):H->H->St->(Ex->St->F R)->F R
 |0,_,_,_=>B
 |n+1,i,σ,k=>f i σ λe σ'=>match e with
  |.normal=>vY f n (i+1) σ' k
  |e=>k e σ'
def fV:H->Ó->I (H×Ó)
 |b,.seq x y=>fV b x++fV b y
 |b,.cond _ x y=>fV b x++fV b y
 |_,.block id c=>fV id c
 |b,.loop c=>(b,c)::fV b c
 |b,.rangeFunc g ps x y=>[(b,.rangeFunc g ps x y)]
 |b,.scope c=>fV b c
 |_,_=>[]
def St.know(f:X)(σ:St)(c:Ì)(v:X):St:=match f,c with
 |true,.tmp s=>σ.setS s (.one (.one (.d .bool v)))
 |_,_=>σ
theorem TU{f:X}{σ:St}{c:Ì}{v:X}(h:σ.ev c = .one (.one (.d .bool v))):σ.know f c v=σ:=by
 unfold St.know;split
 .rename_i s;have h:σ.sl s = .one (.one (.d .bool v)):=h
  have e:(λj=>if j=s then Slot.one (.one (.d .bool v)) else σ.sl j)=σ.sl:=by
   funext j
   by_cases hj:j=s
   .subst hj;rw[if_pos rfl,h]
   .rw[if_neg hj]
  show { σ with sl:=_ }=σ;rw[e]
 .rfl
def TW(o:Æ):Bool:=
 match o.op with
 |.defer _=>J
 |_=>U
def ea:Ó->X
 |.skip=>U
 |.region _ ops _=>ops.toList.all TW
 |.seq x y=>ea x&&ea y
 |.cond _ x y=>ea x&&ea y
 |.block _ c=>ea c
 |.scope c=>ea c
 |.label _=>U
 |.exit _=>U
 |.ret=>U
 |_=>J
def vZ:Ó->I H
 |.region _ ops _=>ops.toList.filterMap (·.dst)
 |.seq x y=>vZ x++vZ y
 |.cond _ x y=>vZ x++vZ y
 |.block _ c=>vZ c
 |.scope c=>vZ c
 |_=>[]
def Be(ps:É H)(x y:Ó)(i:H):Bool:= !(ps.toList.contains i) && !((vZ x++vZ y).contains i)
def pinK(ps:É H)(x y:Ó)(K:Keep):Bool:=K.slots.all (Be ps x y)
def Env.rnd(E:Env)(ps:É H)(x y:Ó):Env:={ E with N:=⟨E.N.n,Be ps x y⟩ }
def isRf:Ó->X
 |.rangeFunc .. => U
 |_=>J
def C9(kd:X)(n:H):Int:=cond kd 1 (Ï n)
def Lo(kd:X)(n:H)(c:Ä):Bool:=cond kd (Y (Ï n<=c)) (Y (c<=0))
def itOk(kd:X)(n:H)(c:Ä):Bool:=cond kd (Y (1<=c)) (Y (c<=Ï n))
def Da(kd:X)(c:Ä):Int:=cond kd (c+1) (c-1)
def chgV:(t:Ty)->I t.den->Ä->I TV
 |.pair (.int .i64) (.pair (.int .i64) (.int .i64)),xs,c=>[⟨.pair (.int .i64) (.pair (.int .i64) (.int .i64)),
  ((Ê xs c.toNat ((0:Ä),((0:Ä),(0:Ä)))).1,((Ê xs (c-1).toNat ((0:Ä),((0:Ä),(0:Ä)))).2.2,(Ê xs c.toNat ((0:Ä),((0:Ä),(0:Ä)))).2.2))⟩]
 |_,_,_=>[]
def Db(kd:X)(t:Ty)(xs:I t.den)(c:Ä):I TV:=cond kd (chgV t xs c) [⟨.int .i64,c-1⟩,⟨t,Ê xs (c-1).toNat t.dflt⟩]
def setL(l:I (H×TV))(σ:St):St:=l.foldl (λσ q=>σ.setS q.1 (.one (pb q.2.t q.2.v))) σ
def ra:I H->X
 |[]=>U
 |x::r=> !(r.contains x)&&ra r
abbrev segT:Ty:= .pair (.int .i64) (.pair (.int .i64) (.int .i64))
def rfK(E:Env)(b f:H)(t:Ty)(ps:É H)(x y:Ó):F Bool:=match E.bw f with
 |some q=>cond (Y (q.2=t)&&(cond q.1 (Y (t=segT)) U&&(Y (ps.toList.length=cond q.1 1 2)&&(ra ps.toList&&(ps.toList.all (λp=>Y (p<E.N.n))&&(ea x&&(ea y&&pinK ps x y (E.keep b)))))))) (D q.1) B
 |none=>B
def tX{α β:Type}(G:α->β->F β):I (α×β)->F (I (α×β))
 |[]=>D []
 |x::r=>(G x.1 x.2).bind λz=>(tX G r).bind λr'=>D ((x.1,z)::r')
def lK(s:Snap)(em:H)(v:Ty)(zs:I (Ä×v.den)):Snap:=s.dropLast++[.b (.live (.lst em (.pair (.int .i64) v) zs J))]
def wa(em:H)(v:Ty)(s:Snap):F (I (Ä×v.den)):=match s.getLast? with
 |some (.b (.live (.lst e a xs J)))=>if e=em then (TV.mk (.list a) xs).to (.list (.pair (.int .i64) v)) else B
 |_=>B
structure MrP where
 it:H
 d1:H
 c2:H
 d3:H
 b6:H
 ops:É Æ
 rest:Ó
def ĥ(o:Æ):F (H×H):=match o.op,o.dst,o.guard with
 |.next (.tmp it) J,D d,B=>D (it,d)
 |_,_,_=>B
def fstO(o:Æ):F (H×H):=match o.op,o.dst,o.guard with
 |.extract (.tmp d) 0,D c,B=>D (d,c)
 |_,_,_=>B
def entO(o:Æ):F (H×H):=match o.op,o.dst,o.guard with
 |.entry (.tmp it),D d,B=>D (it,d)
 |_,_,_=>B
def mrP(b:H):Ó->F MrP
 |.seq (.region _ ops J) (.seq (.cond (.tmp c) .skip (.exit b')) (.block b6 (.seq (.region _ Dc J) rest)))=>match ops.toList,Dc.toList with
  |[o1,o2],o3::_=>match ĥ o1,fstO o2,entO o3 with
   |some (it,d1),D (Ħ,c2),D (ħ,d3)=>if Ħ=d1/\ħ=it/\c=c2/\b'=b then D ⟨it,d1,c2,d3,b6,Dc,rest⟩ else B
   |_,_,_=>B
  |_,_=>B
 |_=>B
def Dd(E:Env):Ó->Ó->X
 |.region _ _ J,.block b (.loop _)=>(E.mr b).isSome
 |_,_=>J
def Env.mrE(E:Env)(it m:H):Env:={ E with N:=⟨E.N.n,λi=>à i it||Nat.beq i m⟩,mr:=λ_=>B }
noncomputable section
variable(E:Env){R:Type}
def De(x y:Ó)(σ:St)(k:Ex->St->F R):F R:=cond E.nz B B
end
def fL{R:Type}:Env->H->Ó->St->(Ex->St->F R)->F R
 |E,_,.skip,σ,k=>k .normal σ
 |E,_,.region id ops J,σ,k=>xK E.np (E.pre id) σ λσ=>cond (E.ks id) (C5 E ops σ λσ'=>k .normal σ') (lJ E ops σ λσ'=>k .normal σ')
 |E,_,.region id ops U,σ,k=>xK E.np (E.pre id) σ λσ=>vU E ops (E.dw id) σ λσ'=>k .normal σ'
 |E,b,.seq x y,σ,k=>cond (Dd E x y) (De E x y σ k) (fL E b x σ λe σ'=>match e with
  |.normal=>fL E b y σ' k
  |e=>k e σ')
 |E,b,.cond c x y,σ,k=>match σ.ev c with
  |.one (.one (.d .bool v))=>cond v (fL E b x (σ.know E.sc c U) k) (fL E b y (σ.know E.sc c J) k)
  |_=>B
 |E,_,.block id c,σ,k=>fL E id c σ λe σ'=>match e with
  |.exit i=>if i=id then k .normal σ' else k (.exit i) σ'
  |e=>k e σ'
 |E,b,.loop c,σ,k=>cond (isRf c) B (cond (Nat.blt 0 (E.un b)) (vY (λi σ k=>fL (E.offR i) b c σ k) (E.un b) 0 σ k) (match kH E.np (E.keep b) σ with
  |some s=>E.L b s R λe s'=>k e (dD E.np (E.keepX b e) s')
  |none=>B))
 |E,b,.rangeFunc g ps x y,σ,k=>match σ.ev g with
  |.one (.one (.clo f [.p [⟨.list t,xs⟩]]))=>match rfK E b f t ps x y with
   |some kd=>match kH E.np (E.keep b) σ with
    |some s=>E.L b (.s (.one (.d (.int .i64) (C9 kd (Å xs))))::s) R λe s'=>k e (dD E.np (E.keepX b e) s')
    |none=>B
   |none=>B
  |_=>B
 |E,b,.scope c,σ,k=>fL E b c σ k
 |E,_,.label _,σ,k=>k .normal σ
 |E,_,.exit i,σ,k=>k (.exit i) σ
 |E,_,.ret,σ,k=>k .ret σ
 |_,_,_,_,_=>B
noncomputable section
variable(E:Env){R:Type}
def xL(b:H)(c:Ó)(s:Snap):F (Snap ⊕ Ex×Snap):=
 fL E b c (dD E.np (E.keep b) s) λe σ=>match e with
  |.normal=>match kH E.np (E.keep b) σ with
   |some s'=>D (.inl s')
   |none=>B
  |e=>match kH E.np (E.keepX b e) σ with
   |some s'=>D (.inr (e,s'))
   |none=>B
def Df(b:H)(g:Ì)(ps:É H)(x y:Ó)(s:Snap)(K:F (I Item)->Ex->St->F R):F R:=
 match s with
 |.s (.one (.d (.int .i64) n))::s0=>match (dD E.np (E.keep b) s0).ev g with
  |.one (.one (.clo f [.p [⟨.list t,xs⟩]]))=>match rfK E b f t ps x y with
   |some kd=>cond (Lo kd (Å xs) n) (K B .normal (dD E.np (E.keep b) s0)) (cond (itOk kd (Å xs) n)
    (fL (E.rnd ps x y) 0 x (setL (ps.toList.zip (Db kd t xs n)) (dD E.np (E.keep b) s0)) λe σ=>match e with
     |.normal=>fL (E.rnd ps x y) 0 y σ (K (D [.s (.one (.d (.int .i64) (Da kd n)))]))
     |_=>B) B)
   |none=>B
  |_=>B
 |_=>B
def wb(b:H)(g:Ì)(ps:É H)(x y:Ó)(s:Snap):F (Snap ⊕ Ex×Snap):=
 Df E b g ps x y s λp e σ=>match p,e with
  |some q,.normal=>match kH E.np (E.keep b) σ with
   |some s'=>D (.inl (q++s'))
   |none=>B
  |_,e=>cond (pinK ps x y (E.keepX b e)) (match kH E.np (E.keepX b e) σ with
   |some s'=>D (.inr (e,s'))
   |none=>B) B
def mrNx(b6:H):Ex->X
 |.normal=>U
 |.exit i=>à i b6
 |.ret=>J
def G0(b:H)(p:MrP)(m:H)(s:Snap)(v:Ty)(q:Ä)(z:v.den)(k:Snap->F R):F R:=
 nM (E.mrE p.it m) p.ops.toList.tail ((dD E.np (E.keep b) s).setD (D p.d3) (.tup [.one (.d (.int .i64) q),pb v z])) λσ1=>
  fL (E.mrE p.it m) p.b6 p.rest σ1 λe σ2=>cond (mrNx p.b6 e) (match kH E.np (E.keep b) σ2 with
   |some s'=>k s'
   |none=>B) B
def Dg(b:H):Ó->Snap->F (Snap ⊕ Ex×Snap)
 |.rangeFunc g ps x y,s=>wb E.off0 b g ps x y s
 |c,s=>xL E.off0 b c s
end
def loopN{α β:Type}(f:α->F (α ⊕ β)):H->α->F β
 |0,_=>B
 |n+1,s=>match f s with
  |some (.inl s')=>loopN f n s'
  |some (.inr x)=>D x
  |none=>B
def G1(i:H):Arg->Cel
 |.v x=>pb x.t x.v
 |.ref _=> .one (.bp (i*64) 0)
 |.rl _ _=> .one (.ol (i*64))
 |.ip ls=> .one (.ip ls)
 |.clo f caps=> .one (.clo f caps)
 |.mv _ _=> .one (.ol (i*64+63))
def nt:F Arg->BS
 |some (.ref ls)=> .live (.cell (ls.map TV.leaf) J)
 |some (.rl e ⟨.list a,xs⟩)=> .live (.lst e a xs J)
 |_=> .free
def tY:F Arg->BS
 |some (.mv e ⟨.list a,xs⟩)=> .live (.lst e a xs J)
 |_=> .free
def St.init(args:I Arg):St where
 sl:=λi=>match args[i]? with
  |some a=> .one (G1 i a)
  |none=> .one (.one .dead)
 bx:=λn=>if n%64=0 then nt args[n/64]? else if n%64=63 then tY args[n/64]? else .free
def soOf(rd:H->BS):I SoK->I Leaf->F (I RL×I H×Ups)
 |[],[]=>D ([],[],[])
 |.d t::ks,l::ls=>match kG rd t l,soOf rd ks ls with
  |some (x,u),D (r,n,v)=>cond t.leafy (D (.d ⟨t,x⟩::r,n,u++v)) B
  |_,_=>B
 |.own e a::ks,.nil::ls=>match soOf rd ks ls with
  |some (r,n,v)=>cond (isM e) B (D (.own e ⟨.list a,[]⟩::r,n,v))
  |none=>B
 |.own e _::ks,.ol k::ls=>match rd k with
  |.live (.lst e' b xs J)=>cond (à e' e) (match soOf rd ks ls with
   |some (r,n,v)=>D (.own e' ⟨.list b,xs⟩::r,k::n,v)
   |none=>B) B
  |_=>B
 |_,_=>B
def rvOf(E:Env)(rd:H->BS)(own:X)(t:H)(c:Cel):F (RV×I H×Ups):=
 match c with
 |.one (.bp k 0)=>match rd k with
  |.live (.cell ls J)=>match tvs rd ls with
   |some (xs,u)=>D (.box xs,[k],u)
   |none=>B
  |_=>B
 |.one (.clo f caps)=>D (.clo f caps,[],[])
 |c=>match E.T t with
  |some ti=>match ti.ty with
   |some ty=>match own with
    |true=>match c,ty with
     |.st ls,_=>match soOf rd E.so ls with
      |some (r,n,v)=>D (.so r,n,v)
      |none=>B
     |.one .nil,.list a=>D (.own ti.elem ⟨.list a,[]⟩,[],[])
     |.one (.ol k),_=>match rd k with
      |.live (.lst e a xs J)=>D (.own e ⟨.list a,xs⟩,[k],[])
      |_=>B
     |_,_=>B
    |false=>match oE rd ty c with
     |some (x,u)=>D (.v ⟨ty,x⟩,[],u)
     |none=>B
   |none=>B
  |none=>B
def xM(E:Env)(σ:St):æ->F Cel
 |.tmp t=>match σ.sl t with
  |.one c=>D c
  |_=>B
 |.cell a t=>match E.T t,σ.sl a with
  |some ti,.one (.one x)=>pd (mskM σ.bx) ti x
  |_,_=>B
def qA(E:Env)(σ:St):I X->I æ->I H->F (I RV×I H×Ups)
 |_,[],_=>D ([],[],[])
 |os,r::rs,ts=>match xM E σ r with
  |some c=>match rvOf E (λk=>if parK E.np k then .gone else mskM σ.bx k) (os.headD J) (ts.headD 0) c with
   |some (v,ks,u)=>match qA E σ os.tail rs ts.tail with
    |some (vs,Lp,u')=>D (v::vs,ks++Lp,u++u')
    |none=>B
   |none=>B
  |none=>B
def outs(np:H)(σ:St):H->I Arg->F (I Out×Ups)
 |_,[]=>D ([],[])
 |i,a::as=>match outs np σ (i+1) as with
  |some (os,u)=>match a with
   |.ref _=>match σ.bx (i*64) with
    |.live (.cell ls J)=>match tvs (λk=>if parK np k then .gone else mskM σ.bx k) ls with
     |some (xs,u')=>D (.ref xs::os,u'++u)
     |none=>B
    |_=>B
   |.rl e x=>match σ.bx (i*64) with
    |.live (.lst e' a xs J)=>if e'=e/\x.t = .list a then D (.rl ⟨.list a,xs⟩::os,u) else B
    |_=>B
   |_=>D (os,u)
  |none=>B
def hdOf(σ:St):Leaf->F H
 |.ol 0=>match σ.bx 0 with
  |.live (.lst e _ xs J)=>if isM e then B else D xs.length
  |_=>B
 |.hd 0 i=>match σ.bx 0 with
  |.live (.lst _ _ _ J)=>D i
  |_=>B
 |_=>B
def TX(E:Env)(fn:Func)(args:I Arg)(σ:St):F Ret:=
 match args,fn.results.toList with
 |.rl _ _::_,[r]=>match xM E σ r,outs E.np σ 0 args with
  |some (.one l),D (os,_)=>match hdOf σ l with
   |some m=>D ⟨[.hd m],os⟩
   |none=>B
  |_,_=>B
 |_,_=>B
def nilV(E:Env)(σ:St)(rs:I æ)(vs:I RV):F (I RV):=
 if E.ns.isEmpty then D vs else match rs,vs with
  |[r],[.v x]=>match xM E σ r with
   |some (.st ls)=>if E.ns.all (λi=>match ls[i]? with|some .nil=>U|_=>J) then D [.vn x E.ns] else B
   |_=>B
  |_,_=>B
def tZ(ns:I H):Leaf->X
 |.dead|.nil|.d _ _=>U
 |.ol k|.bp k _=>ns.contains k
 |_=>J
def Lq(ns:I H):Cel->X
 |.one l=>tZ ns l
 |.st ls=>ls.all (tZ ns)
 |.av _ _ _=>U
def Ĩ(ns:I H):BS->X
 |.live (.cell ls _)=>ls.all (tZ ns)
 |.live (.lst _ _ _ _)=>U
 |.live (.arr _ _ _)=>U
 |.live (.row _ _ _ ls)=>ls.all (tZ ns)
 |_=>U
def Dh(E:Env)(σ:St):I æ->F (I Cel)
 |[]=>D []
 |r::rs=>match xM E σ r,Dh E σ rs with
  |some c,D cs=>D (c::cs)
  |_,_=>B
def Lr:Arg->X
 |.ref _=>U
 |.mv _ _=>U
 |.rl _ _=>U
 |_=>J
def TY(E:Env)(fn:Func)(args:I Arg)(σ:St):F Ret:=
 match Dh E σ fn.results.toList with
 |some cs=>if oG E.rn&&(E.rn.all (λk=> !parK E.np k&&Ĩ E.rn (σ.bx k))&&(cs.all (Lq E.rn)&&args.all (λa=> !Lr a))) then
  D ⟨[.raw E.rn (cs.map .s++E.rn.map λk=> .b (σ.bx k))],[]⟩ else B
 |none=>B
def ua(E:Env)(fn:Func)(args:I Arg)(σ:St):F Ret:=
 if E.rw then TY E fn args σ else
 if E.hd then TX E fn args σ else
 match qA E σ E.ro fn.results.toList fn.resultTypes.toList,outs E.np σ 0 args with
 |some (vs,ks,u),D (os,u')=>
  if oG ks&&(u++u').all (λe=> !ks.contains e.1) then match nilV E σ fn.results.toList vs with
   |some lL=>D ⟨lL,os⟩
   |none=>B
  else B
 |_,_=>B
def wc(E:Env){R:Type}(fn:Func)(args:I Arg)(k:Ret->F R):F R:=
 if args.length=E.np then match fn.body with
 |some c=>fL E 0 c (St.init args) λe σ=>match e with
  |.exit _=>B
  |_=>match ua E fn args σ with
   |some r=>k r
   |none=>B
 |none=>B
 else B
def All2{α β:Type}(R:α->β->Prop):I α->I β->Prop
 |[],[]=>True
 |a::as,b::bs=>R a b/\All2 R as bs
 |_,_=>Û
section All2
variable{α β γ:Type}{R R':α->β->Prop}
theorem All2.length:∀{as:I α}{bs:I β},All2 R as bs->as.length=bs.length
 |[],[],_=>rfl
 |_::_,_::_,h=>by simp[All2.length h.2]
 |[],_::_,h=>h.elim
 |_::_,[],h=>h.elim
theorem All2.mono(hr:∀a b,R a b->R' a b):∀{as:I α}{bs:I β},All2 R as bs->All2 R' as bs
 |[],[],_=>trivial
 |_::_,_::_,h=>⟨hr _ _ h.1,All2.mono hr h.2⟩
 |[],_::_,h=>h.elim
 |_::_,[],h=>h.elim
theorem All2.get:∀{as:I α}{bs:I β},All2 R as bs->∀(i:H)(a:α),as[i]? = D a->∃b,bs[i]? = D b/\R a b
 |[],[],_,i,a,h=>by simp at h
 |a::as,b::bs,h,0,a',he=>by simp at he;subst he;exact⟨b,ae,h.1⟩
 |a::as,b::bs,h,i+1,a',he=>by
  obtain⟨b',hb,hr⟩:=All2.get h.2 i a' (by simpa using he);exact⟨b',by simpa using hb,hr⟩
 |[],_::_,h,_,_,_=>h.elim
 |_::_,[],h,_,_,_=>h.elim
theorem All2.append:∀{as:I α}{bs:I β}{G2:I α}{TZ:I β},All2 R as bs->All2 R G2 TZ->All2 R (as++G2) (bs++TZ)
 |[],[],_,_,_,h'=>h'
 |_::_,_::_,_,_,h,h'=>⟨h.1,All2.append h.2 h'⟩
 |[],_::_,_,_,h,_=>h.elim
 |_::_,[],_,_,h,_=>h.elim
theorem All2.take:∀{as:I α}{bs:I β},All2 R as bs->∀n,All2 R (as.take n) (bs.take n)
 |[],[],_,n=>by simp[All2]
 |_::_,_::_,_,0=>by simp[All2]
 |_::_,_::_,h,n+1=>⟨h.1,All2.take h.2 n⟩
 |[],_::_,h,_=>h.elim
 |_::_,[],h,_=>h.elim
theorem All2.drop:∀{as:I α}{bs:I β},All2 R as bs->∀n,All2 R (as.drop n) (bs.drop n)
 |[],[],_,n=>by simp[All2]
 |_::_,_::_,h,0=>h
 |_::_,_::_,h,n+1=>All2.drop h.2 n
 |[],_::_,h,_=>h.elim
 |_::_,[],h,_=>h.elim
theorem All2.set:∀{as:I α}{bs:I β},All2 R as bs->∀i a b,R a b->All2 R (as.set i a) (bs.set i b)
 |[],[],_,i,_,_,_=>by simp[All2]
 |_::_,_::_,h,0,_,_,hr=>⟨hr,h.2⟩
 |_::_,_::_,h,i+1,_,_,hr=>⟨h.1,All2.set h.2 i _ _ hr⟩
 |[],_::_,h,_,_,_,_=>h.elim
 |_::_,[],h,_,_,_,_=>h.elim
theorem All2.map_left{f:γ->α}:∀{cs:I γ}{bs:I β},All2 R (cs.map f) bs↔All2 (λc b=>R (f c) b) cs bs
 |[],[]=>Iff.rfl
 |_::_,_::_=>and_congr_right λ_=>All2.map_left
 |[],_::_=>Iff.rfl
 |_::_,[]=>Iff.rfl
theorem All2.mem_right:∀{as:I α}{bs:I β},All2 R as bs->∀b∈bs,∃a∈as,R a b
 |[],[],_,b,hb=>by simp at hb
 |a::as,b::bs,h,b',hb=>by
  rcases je.1 hb with rfl|hb
  .exact⟨a,ae,h.1⟩
  .obtain⟨a',ha,hr⟩:=All2.mem_right h.2 b' hb;exact⟨a',by simp[ha],hr⟩
 |[],_::_,h,_,_=>h.elim
 |_::_,[],h,_,_=>h.elim
end All2
theorem G3{α β γ:Type}{R:α->β->Prop}{R':γ->β->Prop}{ls:I α}{xs:I γ}{l:I β}(h:All2 R ls (l.take ls.length))(h':All2 R' xs (l.take ls.length)):xs.length=ls.length:=
 h'.length.trans h.length.symm
def One(u:O):Prop:=u.oneCell'=U
abbrev aY:=H->H->Prop
def Lies(S:aY)(w:À)(g o:H)(cs:I O):Prop:=
 ∀j v,cs[j]? = D v->S g (o+j)/\w.cell? ⟨g,o+j,B⟩=D v
def Rep(S:aY)(w:À):(t:Ty)->t.den->I O->Prop
 |.int k,n,cs=>cs=[.int k n]
 |.bool,b,cs=>cs=[.bool b]
 |.str,s,cs=>cs=[.string s]
 |.unit,_,cs=>cs=[]
 |.wrap a,v,cs=>Rep S w a v cs
 |.pair a b,v,cs=>∃c1 c2,cs=c1++c2/\Rep S w a v.1 c1/\Rep S w b v.2 c2
 |.list a,xs,cs=>∃ad cap,cs=[.slice ad (Å xs) cap]/\Å xs<=cap/\cap<=maxLen/\(ad=B->cap=0)/\
  ∀b,ad=D b->(xs≠[]->b.spot=B)/\∃css,All2 (λx c=>Rep S w a x c) xs css/\Lies S w b.block b.off css.flatten
 |.arr n a,xs,cs=>Å xs=n/\∃css,All2 (λx c=>Rep S w a x c) xs css/\cs=css.flatten
def dH(S:aY)(w:À)(S':aY)(w':À):Prop:=
 ∀g o,S g o->S' g o/\w'.cell? ⟨g,o,B⟩=w.cell? ⟨g,o,B⟩
theorem dH.refl(S:aY)(w:À):dH S w S w:=λ_ _ h=>⟨h,rfl⟩
theorem dH.trans{S S' T0:aY}{w w' xN:À}(h:dH S w S' w')(h':dH S' w' T0 xN):dH S w T0 xN:=
 λg o hs=>⟨(h' g o (h g o hs).1).1,((h' g o (h g o hs).1).2).trans (h g o hs).2⟩
theorem Lies.keep{S S':aY}{w w':À}(h:dH S w S' w'){g o:H}{cs:I O}(hl:Lies S w g o cs):Lies S' w' g o cs:=
 λj v hv=>let ⟨hs,hc⟩:=hl j v hv;⟨(h _ _ hs).1,(h _ _ hs).2.trans hc⟩
theorem Rep.keep{S S':aY}{w w':À}(h:dH S w S' w'):∀(t:Ty)(v:t.den)(cs:I O),Rep S w t v cs->Rep S' w' t v cs
 |.int _,_,_,hr=>hr
 |.bool,_,_,hr=>hr
 |.str,_,_,hr=>hr
 |.unit,_,_,hr=>hr
 |.wrap a,v,cs,hr=>Rep.keep h a v cs hr
 |.pair a b,_,_,⟨c1,c2,e,h1,h2⟩=>⟨c1,c2,e,Rep.keep h a _ _ h1,Rep.keep h b _ _ h2⟩
 |.list a,_,_,⟨ad,cap,e,h1,h2,h3,h4⟩=>⟨ad,cap,e,h1,h2,h3,λb hb=>by
  obtain⟨hs,css,ha,hl⟩:=h4 b hb;exact⟨hs,css,ha.mono (λx c hx=>Rep.keep h a x c hx),hl.keep h⟩⟩
 |.arr _ a,_,_,⟨hn,css,ha,e⟩=>⟨hn,css,ha.mono (λx c hx=>Rep.keep h a x c hx),e⟩
theorem All2.flatten_length{α:Type}{R:α->I O->Prop}{n:H}(hr:∀x c,R x c->c.length=n) :
  ∀{xs:I α}{css:I (I O)},All2 R xs css->css.flatten.length=xs.length*n
 |[],[],_=>ae
 |_::xs,c::css,h=>by
  have:=All2.flatten_length hr h.2;simp only[kq,Õ,hr _ _ h.1,this,ji,ï];omega
 |[],_::_,h=>h.elim
 |_::_,[],h=>h.elim
theorem Rep.length{S:aY}{w:À}:∀(t:Ty)(v:t.den)(cs:I O),Rep S w t v cs->cs.length=t.size
 |.int _,_,_,hr=>by rw[hr];rfl
 |.bool,_,_,hr=>by rw[hr];rfl
 |.str,_,_,hr=>by rw[hr];rfl
 |.unit,_,_,hr=>by rw[hr];rfl
 |.wrap a,v,cs,hr=>Rep.length a v cs hr
 |.pair a b,_,_,⟨c1,c2,e,h1,h2⟩=>by rw[e,Õ,Rep.length a _ _ h1,Rep.length b _ _ h2];rfl
 |.list _,_,_,⟨ad,cap,e,_⟩=>by rw[e];rfl
 |.arr n a,xs,cs,⟨hn,css,ha,e⟩=>by
  rw[e,All2.flatten_length (λx c hx=>Rep.length a x c hx) ha,hn];rfl
theorem Rep.one{S:aY}{w:À}:∀(t:Ty)(v:t.den)(cs:I O),Rep S w t v cs->∀u∈cs,One u
 |.int _,_,_,hr=>by rw[hr];intro u hu;simp at hu;subst hu;rfl
 |.bool,_,_,hr=>by rw[hr];intro u hu;simp at hu;subst hu;rfl
 |.str,_,_,hr=>by rw[hr];intro u hu;simp at hu;subst hu;rfl
 |.unit,_,_,hr=>by rw[hr];intro u hu;simp at hu
 |.wrap a,v,cs,hr=>Rep.one a v cs hr
 |.pair a b,_,_,⟨c1,c2,e,h1,h2⟩=>by
  rw[e];intro u hu;rcases jm.1 hu with hu|hu
  .exact Rep.one a _ _ h1 u hu
  .exact Rep.one b _ _ h2 u hu
 |.list _,_,_,⟨ad,cap,e,_⟩=>by rw[e];intro u hu;simp at hu;subst hu;rfl
 |.arr n a,xs,cs,⟨hn,css,ha,e⟩=>by
  rw[e];intro u hu;obtain⟨c,hc,xO⟩:=List.mem_flatten.1 hu;obtain⟨x,_,hx⟩:=ha.mem_right c hc;exact Rep.one a x c hx u xO
def iX(S:aY)(w:À):Cap->O->Prop
 |.v x,u=>x.t.leafy=U/\Rep S w x.t x.v [u]
 |.p ls,u=>∃g o cs,u = .pointer (D ⟨g,o,B⟩)/\All2 (λx z=>Rep S w x.t x.v [z]) ls cs/\Lies S w g o cs
def Di(γ:H->O)(bx:H->BS)(k:H)(u:O):Prop:=
 bx k ≠ .free/\One u/\∀b,bx k = .live b->∃g,γ k = .pointer (D ⟨g,0,B⟩)/\u = .pointer (D ⟨g,0,B⟩)
def bF(S:aY)(w:À)(γ:H->O)(bx:H->BS):Leaf->O->Prop
 |.dead,_=>True
 |.nil,u=>u = .slice B 0 0
 |.d t v,u=>Rep S w t v [u]
 |.ol k,u=>bx k ≠ .free/\One u/\∀b,bx k = .live b->u=γ k
 |.bp k c,u=>bx k ≠ .free/\One u/\∀b,bx k = .live b->∃g,γ k = .pointer (D ⟨g,0,B⟩)/\u = .pointer (D ⟨g,c,B⟩)
 |.ep k i c,u=>bx k ≠ .free/\One u/\∀b,bx k = .live b->match b with
  |.lst e a xs _=>isM e=J/\i<xs.length/\∃g cap,γ k = .slice (D ⟨g,0,B⟩) xs.length cap/\u = .pointer (D ⟨g,i*a.size+c,B⟩)
  |.arr n a _=>i<n/\∃g,γ k = .pointer (D ⟨g,0,B⟩)/\u = .pointer (D ⟨g,i*a.size+c,B⟩)
  |.row e a n _=>isM e=J/\i<n/\∃g cap,γ k = .slice (D ⟨g,0,B⟩) n cap/\u = .pointer (D ⟨g,i*a.size+c,B⟩)
  |.cell _ _=>Û
 |.tl k i,u=>bx k ≠ .free/\One u/\∀b,bx k = .live b->match b with
  |.lst e a xs _=>isM e=J/\i<=xs.length/\∃ad cap,γ k = .slice ad xs.length cap/\u = .slice (if cap=i then ad else ad.map (·.add (i*a.size))) (xs.length-i) (cap-i)
  |.arr _ _ _=>Û
  |.row _ _ _ _=>Û
  |.cell _ _=>Û
 |.hd k i,u=>bx k ≠ .free/\One u/\∀b,bx k = .live b->match b with
  |.lst e _ xs _=>isM e=J/\i<=xs.length/\∃ad cap,γ k = .slice ad xs.length cap/\u = .slice ad i cap
  |.arr _ _ _=>Û
  |.row _ _ _ _=>Û
  |.cell _ _=>Û
 |.ip ls,u=>∃g o cs,u = .pointer (D ⟨g,o,B⟩)/\All2 (λx z=>Rep S w x.t x.v [z]) ls cs/\Lies S w g o cs
 |.clo f caps,u=>∃cv:É O,u = .func (.func f) #[] cv/\All2 (iX S w) caps cv.toList
 |.clr f ks,u=>∃cv:É O,u = .func (.func f) #[] cv/\All2 (Di γ bx) ks cv.toList
def bQ(S:aY)(w:À)(γ:H->O)(bx:H->BS):Cel->O->Prop
 |.one x,u=>bF S w γ bx x u/\(x ≠ .dead->One u)
 |.st ls,u=>∃cs:É O,u = .agg cs/\All2 (bF S w γ bx) ls cs.toList/\∀x∈cs.toList,One x
 |.av n a xs,u=>∃cs:É O,u = .agg cs/\Rep S w (.arr n a) xs cs.toList
def iA(S:aY)(w:À)(γ:H->O)(bx:H->BS)(tm:H->O):Slot->O->Prop
 |.one c,u=>bQ S w γ bx c u
 |.tup l,u=>∃vs:É O,u = .tuple vs/\All2 (bQ S w γ bx) l vs.toList
 |.cnd s b c,u=>(tm s = .bool b/\bQ S w γ bx c u)\/(tm s ≠ .bool b/\u=undef)
 |.und,u=>u=undef
def blk:O->F H
 |.pointer (D a)=>D a.block
 |.slice (D a) _ _=>D a.block
 |.map (D g)=>D g
 |_=>B
def kI:Ty->X
 |.arr _ _=>U
 |t=>t.agg
def VRep(S:aY)(w:À)(x:TV)(u:O):Prop:=
 Rep S w x.t x.v u.cells.toList/\(kI x.t=U->∃cs,u = .agg cs)/\(kI x.t=J->One u)
theorem VRep.keep{S S':aY}{w w':À}(h:dH S w S' w'){x:TV}{u:O}(hv:VRep S w x u):VRep S' w' x u:=
 ⟨Rep.keep h _ _ _ hv.1,hv.2⟩
def Ls(es:É MapEntry)(clock:H):Prop:=MapKept.Stamped es clock/\es.toList.map (·.born)=Ñ clock
def Dj(S:aY)(w:À):(a:Ty)->I a.den->O->Prop
 |.pair k b,xs,u=>∃g es clock,u = .map (D g)/\w.heap[g]? = D (.map es clock)/\All2 (λ(x:k.den×b.den)(e:MapEntry)=>Rep S w k x.1 [e.key]/\VRep S w ⟨b,x.2⟩ e.val) xs es.toList/\Ls es clock
 |_,_,_=>Û
def rb(S:aY)(w:À)(e:H)(a:Ty)(xs:I a.den)(u:O):Prop:=
 (isM e=J/\∃css,w.ownsRow 0 e a.size u xs.length css.flatten/\All2 (λx c=>Rep S w a x c) xs css)\/(isM e=U/\Dj S w a xs u)
theorem Dj.keep{S S':aY}{w w':À}(h:dH S w S' w'):∀{a:Ty}{xs:I a.den}{u:O},(∀g,blk u=D g->w'.heap[g]? = w.heap[g]?)->Dj S w a xs u->Dj S' w' a xs u
 |.pair k b,xs,u,hg,⟨g,es,clock,hu,hh,ha,hq⟩=>⟨g,es,clock,hu,(hg g (by rw[hu];rfl)).trans hh,ha.mono λx e hx=>⟨Rep.keep h _ _ _ hx.1,VRep.keep h hx.2⟩,hq⟩
theorem rb.keep{S S':aY}{w w':À}(h:dH S w S' w'){e:H}{a:Ty}{xs:I a.den}{u:O}(hg:∀g,blk u=D g->w'.heap[g]? = w.heap[g]?)(hl:rb S w e a xs u):rb S' w' e a xs u:=by
 rcases hl with⟨hm,css,h1,h2⟩|⟨hm,h1⟩
 .refine .inl ⟨hm,css,⟨h1.1,?_⟩,h2.mono (λx c hx=>Rep.keep h _ _ _ hx)⟩;rcases h1.2 with hn|⟨g,cap,cur,hv,fA,hh,rest⟩
  .exact .inl hn
  .exact .inr ⟨g,cap,cur,hv,fA,(hg g (by rw[hv];rfl)).trans hh,rest⟩
 .exact .inr ⟨hm,h1.keep h hg⟩
theorem rb.lt{S:aY}{w:À}{e:H}{a:Ty}{xs:I a.den}{u:O}(hl:rb S w e a xs u){g:H}(hg:blk u=D g):g<w.heap.size:=by
 rcases hl with⟨hm,css,h1,h2⟩|⟨hm,h1⟩
 .rcases h1.2 with⟨hn,_⟩|⟨g',cap,cur,hv,fA,hh,rest⟩
  .rw[hn]at hg;simp[blk]at hg
  .rw[hv]at hg;simp[blk]at hg;subst hg;exact(jh.1 hh).1
 .revert h1
  cases a with
  |pair k b=>
   rintro⟨g',es,clock,hu,hh,ha⟩
   rw[hu]at hg;simp[blk]at hg;subst hg;exact(jh.1 hh).1
  |_=>exactλh=>h.elim
theorem rb.one{S:aY}{w:À}{e:H}{a:Ty}{xs:I a.den}{u:O}(hl:rb S w e a xs u):One u:=by
 rcases hl with⟨hm,css,h1,h2⟩|⟨hm,h1⟩
 .rcases h1.2 with⟨hn,_⟩|⟨g',cap,cur,hv,_⟩
  .rw[hn];rfl
  .rw[hv];rfl
 .revert h1
  cases a with
  |pair k b=>rintro⟨g',es,clock,hu,_⟩;rw[hu];rfl
  |_=>exactλh=>h.elim
def eZ(S:aY)(w:À)(γ:H->O)(bx:H->BS)(k:H):Bx->Prop
 |.cell ls frz=>∃g cur e,γ k = .pointer (D ⟨g,0,B⟩)/\w.heap[g]? = D (.cells cur e (0,0))/\All2 (bF S w γ bx) ls (cur.toList.take ls.length)/\
  (∀u∈cur.toList.take ls.length,One u)/\(frz=J->∀o,¬S g o)/\(frz=U->∀o,o<cur.size->S g o)
 |.lst e a xs frz=>rb S w e a xs (γ k)/\
  ∀g,blk (γ k)=D g->(frz=J->∀o,¬S g o)/\(frz=U->∀o,S g o↔o<xs.length*a.size)
 |.arr n a xs=>∃g cur e,γ k = .pointer (D ⟨g,0,B⟩)/\w.heap[g]? = D (.cells cur e (0,0))/\Rep S w (.arr n a) xs cur.toList/\∀o,¬S g o
 |.row e a n ls=>isM e=J/\(∃cs,w.ownsRow 0 e a.size (γ k) n cs/\All2 (bF S w γ bx) ls cs/\∀u∈cs,One u)/\∀g,blk (γ k)=D g->∀o,¬S g o
theorem iY{S:aY}{w:À}{γ:H->O}{bx:H->BS}{k e:H}{a:Ty}{xs:I a.den}{frz:X}(hm:isM e=J)(h:eZ S w γ bx k (.lst e a xs frz)) :
  ∃css,w.ownsRow 0 e a.size (γ k) xs.length css.flatten/\All2 (λx c=>Rep S w a x c) xs css/\
   ∀g,blk (γ k)=D g->(frz=J->∀o,¬S g o)/\(frz=U->∀o,S g o↔o<xs.length*a.size):=by
 obtain⟨h1,h2⟩:=h;rcases h1 with⟨_,css,h3,h4⟩|⟨h3,_⟩
 .exact⟨css,h3,h4,h2⟩
 .rw[hm]at h3;simp at h3
theorem G4{S:aY}{w:À}{γ:H->O}{bx:H->BS}{k e:H}{a:Ty}{xs:I a.den}{frz:X}{ad:F Addr}{n c:H}(hs:γ k = .slice ad n c)(h:eZ S w γ bx k (.lst e a xs frz)) :
  ∃css,w.ownsRow 0 e a.size (γ k) xs.length css.flatten/\All2 (λx c=>Rep S w a x c) xs css/\
   ∀g,blk (γ k)=D g->(frz=J->∀o,¬S g o)/\(frz=U->∀o,S g o↔o<xs.length*a.size):=by
 obtain⟨h1,h2⟩:=h;rcases h1 with⟨_,css,h3,h4⟩|⟨_,h3⟩
 .exact⟨css,h3,h4,h2⟩
 .revert h3
  rw[hs];cases a with
  |pair k b=>rintro⟨g',es,clock,hu,_⟩;simp at hu
  |_=>exactλh=>h.elim
theorem T1{S:aY}{w:À}{γ:H->O}{bx:H->BS}{k e:H}{a:Ty}{xs:I a.den}{frz:X}{ad:F Addr}{n c:H}(hs:γ k = .slice ad n c)(h:eZ S w γ bx k (.lst e a xs frz)):isM e=false:=by
 rcases h.1 with⟨h1,_⟩|⟨_,h3⟩
 .exact h1
 .revert h3
  rw[hs];cases a with
  |pair k b=>rintro⟨g',es,clock,hu,_⟩;simp at hu
  |_=>exactλh=>h.elim
theorem Bf{S:aY}{w:À}{γ:H->O}{bx:H->BS}{k e:H}{a:Ty}{xs:I a.den}{frz:X}(hm:isM e=J) (h:∃css,w.ownsRow 0 e a.size (γ k) xs.length css.flatten/\All2 (λx c=>Rep S w a x c) xs css/\
  ∀g,blk (γ k)=D g->(frz=J->∀o,¬S g o)/\(frz=U->∀o,S g o↔o<xs.length*a.size)):eZ S w γ bx k (.lst e a xs frz):=by
 obtain⟨css,h1,h2,h3⟩:=h;exact⟨.inl ⟨hm,css,h1,h2⟩,h3⟩
def kZ:Bx->Bx->Prop
 |.cell _ _,.cell _ _=>True
 |.lst e a xs _,.lst e' a' du _=>e=e'/\a=a'/\(isM e=J->xs.length=du.length)
 |.arr n a _,.arr n' a' _=>n=n'/\a=a'
 |.row e a n _,.row e' a' n' _=>e=e'/\a=a'/\n=n'
 |.row e a n _,.lst e' a' du _=>e=e'/\a=a'/\isM e=J/\n=du.length
 |_,_=>Û
theorem kZ.refl(b:Bx):kZ b b:=by cases b<;>simp[kZ]
theorem kZ.trans{a b c:Bx}(h:kZ a b)(h':kZ b c):kZ a c:=by
 cases a<;>cases b<;>cases c<;>simp only[kZ]at h h' ⊢ <;> first
  |exact h.elim
  |exact h'.elim
  |(obtain⟨rfl,rfl,rfl⟩:=h;exact h')
  |(obtain⟨rfl,rfl,h3,h4⟩:=h;obtain⟨rfl,rfl,h5⟩:=h';exact⟨rfl,rfl,h3,h4.trans (h5 h3)⟩)
  |(obtain⟨rfl,rfl,h3⟩:=h;obtain⟨rfl,rfl,h4⟩:=h';exact⟨rfl,rfl,λhm=>(h3 hm).trans (h4 hm)⟩)
  |exact⟨h.1.trans h'.1,h.2.trans h'.2⟩
def BxLe(γ:H->O)(bx:H->BS)(γ':H->O)(bx':H->BS):Prop:=
 ∀k,bx k ≠ .free->bx' k ≠ .free/\γ' k=γ k/\∀b',bx' k = .live b'->∃b,bx k = .live b/\kZ b b'
theorem BxLe.refl(γ:H->O)(bx:H->BS):BxLe γ bx γ bx:=λ_ h=>⟨h,rfl,λb hb=>⟨b,hb,.refl b⟩⟩
section keeps
variable{S S':aY}{w w':À}{γ γ':H->O}{bx bx':H->BS}(hk:dH S w S' w')(hb:BxLe γ bx γ' bx')
include hk
theorem iX.keep{x:Cap}{u:O}(h:iX S w x u):iX S' w' x u:=by
 cases x with
 |v x=>exact⟨h.1,Rep.keep hk _ _ _ h.2⟩
 |p ls=>obtain⟨g,o,cs,hu,ha,hl⟩:=h;exact⟨g,o,cs,hu,ha.mono (λx z hx=>Rep.keep hk _ _ _ hx),hl.keep hk⟩
include hb
theorem bF.keep{x:Leaf}{u:O}(h:bF S w γ bx x u):bF S' w' γ' bx' x u:=by
 cases x with
 |dead=>trivial
 |nil=>exact h
 |d t v=>exact Rep.keep hk _ _ _ h
 |ol k=>obtain⟨h1,h2,h3⟩:=h;obtain⟨b1,b2,b3⟩:=hb k h1;exact⟨b1,h2,λb aU=>by obtain⟨b0,fA,_⟩:=b3 b aU;rw[b2];exact h3 b0 fA⟩
 |bp k c=>obtain⟨h1,h2,h3⟩:=h;obtain⟨b1,b2,b3⟩:=hb k h1;exact⟨b1,h2,λb aU=>by obtain⟨b0,fA,_⟩:=b3 b aU;rw[b2];exact h3 b0 fA⟩
 |ep k i c=>
  obtain⟨h1,h2,h3⟩:=h;obtain⟨b1,b2,b3⟩:=hb k h1;refine⟨b1,h2,λb aU=>?_⟩;obtain⟨b0,fA,hs⟩:=b3 b aU;have h4:=h3 b0 fA;rw[b2]
  cases b0<;>cases b<;>simp only[kZ]at hs<;>first
   |exact hs.elim
   |exact h4.elim
   |(obtain⟨rfl,rfl,hl⟩:=hs;simp only at h4 ⊢;obtain⟨hm,h4⟩:=h4;rw[<-hl hm];exact⟨hm,h4⟩)
   |(obtain⟨rfl,rfl⟩:=hs;exact h4)
   |(obtain⟨rfl,rfl,rfl⟩:=hs;exact h4)
   |(obtain⟨rfl,rfl,hm,hl⟩:=hs;simp only at h4 ⊢;rw[<-hl];exact h4)
 |tl k i=>
  obtain⟨h1,h2,h3⟩:=h;obtain⟨b1,b2,b3⟩:=hb k h1;refine⟨b1,h2,λb aU=>?_⟩;obtain⟨b0,fA,hs⟩:=b3 b aU;have h4:=h3 b0 fA;rw[b2]
  cases b0<;>cases b<;>simp only[kZ]at hs<;>first
   |exact hs.elim
   |exact h4.elim
   |(obtain⟨rfl,rfl,hl⟩:=hs;simp only at h4 ⊢;obtain⟨hm,h4⟩:=h4;rw[<-hl hm];exact⟨hm,h4⟩)
 |hd k i=>
  obtain⟨h1,h2,h3⟩:=h;obtain⟨b1,b2,b3⟩:=hb k h1;refine⟨b1,h2,λb aU=>?_⟩;obtain⟨b0,fA,hs⟩:=b3 b aU;have h4:=h3 b0 fA;rw[b2]
  cases b0<;>cases b<;>simp only[kZ]at hs<;>first
   |exact hs.elim
   |exact h4.elim
   |(obtain⟨rfl,rfl,hl⟩:=hs;simp only at h4 ⊢;obtain⟨hm,h4⟩:=h4;rw[<-hl hm];exact⟨hm,h4⟩)
 |ip ls=>obtain⟨g,o,cs,hu,ha,hl⟩:=h;exact⟨g,o,cs,hu,ha.mono (λx z hx=>Rep.keep hk _ _ _ hx),hl.keep hk⟩
 |clo f caps=>obtain⟨cv,hu,ha⟩:=h;exact⟨cv,hu,ha.mono (λx z hx=>iX.keep hk hx)⟩
 |clr f ks=>obtain⟨cv,hu,ha⟩:=h;refine⟨cv,hu,ha.mono (λk z hx=>?_)⟩;obtain⟨h1,h2,h3⟩:=hx;obtain⟨b1,b2,b3⟩:=hb k h1;exact⟨b1,h2,λb aU=>by obtain⟨b0,fA,_⟩:=b3 b aU;rw[b2];exact h3 b0 fA⟩
theorem bQ.keep{x:Cel}{u:O}(h:bQ S w γ bx x u):bQ S' w' γ' bx' x u:=by
 cases x with
 |one x=>exact⟨bF.keep hk hb h.1,h.2⟩
 |st ls=>obtain⟨cs,hu,ha,h1⟩:=h;exact⟨cs,hu,ha.mono (λx z hx=>bF.keep hk hb hx),h1⟩
 |av n a xs=>obtain⟨cs,hu,ha⟩:=h;exact⟨cs,hu,Rep.keep hk _ _ _ ha⟩
theorem iA.keep{tm:H->O}{x:Slot}{u:O}(h:iA S w γ bx tm x u):iA S' w' γ' bx' tm x u:=by
 cases x with
 |one c=>exact bQ.keep hk hb h
 |tup l=>obtain⟨vs,hu,ha⟩:=h;exact⟨vs,hu,ha.mono (λx z hx=>bQ.keep hk hb hx)⟩
 |cnd s b c=>exact h.imp (λh=>⟨h.1,bQ.keep hk hb h.2⟩) id
 |und=>exact h
end keeps
structure Refs where
 blks:I H
 val:H->F O
 ds:I Deferred:=[]
 kw:H->F Obj:=λ_=>B
 fix:H->F Value:=λ_=>B
 mv:I Nat:=[]
instance:Membership H Refs:=⟨λr g=>g∈r.blks⟩
def Own(w0:À)(refs:Refs)(g:H):Prop:=w0.heap.size<=g\/(g∈refs.mv/\g∈refs)
theorem Own.nil{w0:À}{refs:Refs}{g:H}(h:Own w0 refs g)(hm:refs.mv=[]):w0.heap.size<=g:=h.elim id λh=>by rw[hm]at h;exact absurd h.1 ae
theorem Own.swap{w0:À}{refs refs':Refs}{g:H}(h:Own w0 refs g)(hb:refs'.blks=refs.blks)(hm:refs'.mv=refs.mv):Own w0 refs' g:=h.imp id λh=>⟨hm▸h.1,by show g∈refs'.blks;rw[hb];exact h.2⟩
theorem Own.no{w0:À}{refs:Refs}{g:H}(h:Own w0 refs g)(h1:g<w0.heap.size)(h2:g∉refs):False:=h.elim (λh=>aa) λh=>h2 h.2
structure Rel(N:NT)(np:H)(S0:aY)(w0:À)(refs:Refs)(σ:St)(a:Ý)(w:À)(S:aY)(γ:H->O):Prop where
 size:a.tmps.size=N.n
 defers:a.defers=refs.ds
 slot:∀i,iA S w γ σ.bx (λj=>a.tmps.getD j undef) (σ.sl i) (a.tmps.getD i undef)
 box:∀k b,σ.bx k = .live b->eZ S w γ σ.bx k b
 own:∀k b g,σ.bx k = .live b->blk (γ k)=D g->Own w0 refs g\/(g∈refs/\parK np k=U)
 apart:∀k k' b b' g,k≠k'->σ.bx k = .live b->σ.bx k' = .live b'->blk (γ k)=D g->blk (γ k')≠D g
 ext:∀g o,S0 g o->S g o
 new:∀g o,S g o->S0 g o\/Own w0 refs g
 here:∀g o,S g o->g<w.heap.size
 below:∀g,g<w0.heap.size->g∉refs->w.heap[g]? = w0.heap[g]?
 grow:w0.heap.size<=w.heap.size
 os:w.os=w0.os
 tape:w.tape=w0.tape
 output:w.output=w0.output
 par:∀k v,refs.val k=D v->parK np k=U/\σ.bx k ≠ .free/\γ k=v
 kept:∀g o,refs.kw g=D o->w.heap[g]? = D o/\∀k b,σ.bx k = .live b->blk (γ k)≠D g
 fix:∀i v,refs.fix i=D v->N.pin i=U/\a.tmps.getD i undef=v
section
variable{N:NT}{np:H}{S0:aY}{w0:À}{refs:Refs}{σ:St}{a:Ý}{w:À}{S:aY}{γ:H->O}
theorem Rel.kw_live(hR:Rel N np S0 w0 refs σ a w S γ){k:H}{b:Bx}{g:H}(hk:σ.bx k = .live b)(hg:blk (γ k)=D g):refs.kw g=none:=by
 cases h:refs.kw g with
 |none=>rfl
 |some o=>exact absurd hg ((hR.kept g o h).2 k b hk)
theorem Rel.kw_new(hR:Rel N np S0 w0 refs σ a w S γ){g:H}(hg:w.heap.size<=g):refs.kw g=none:=by
 cases h:refs.kw g with
 |none=>rfl
 |some o=>have:=(jh.1 (hR.kept g o h).1).1;omega
end
def la:Ty->I O
 |.int k=>[.int k 0]
 |.bool=>[.bool J]
 |.str=>[.string ByteArray.empty]
 |.unit=>[]
 |.wrap a=>la a
 |.pair a b=>la a++la b
 |.list _=>[.slice B 0 0]
 |.arr n a=>(Ç n (la a)).flatten
def Lt:O->O->X
 |.int k n,.int k' n'=>Y (k=k')&&Y (n=n')
 |.bool b,.bool b'=>b==b'
 |.string s,.string s'=>Y (s.data.toList=s'.data.toList)
 |.slice B 0 0,.slice B 0 0=>U
 |_,_=>J
def Bg:I O->I O->X
 |[],[]=>U
 |a::l,b::l'=>Lt a b&&Bg l l'
 |_,_=>J
theorem ĩ{a b:O}(h:Lt a b=U):a=b:=by
 unfold Lt at h;split at h<;>simp_all;rename_i s s';cases s;cases s';simp_all
theorem T2:∀{l l':I O},Bg l l'=U->l=l'
 |[],[],_=>rfl
 |a::l,b::l',h=>by
  simp only[Bg,jd]at h;rw[ĩ h.1,T2 h.2]
 |[],_::_,h=>by simp[Bg]at h
 |_::_,[],h=>by simp[Bg]at h
def aggD:Ù->X
 |.struct _|.array _ _=>U
 |_=>J
def G5(T:H->F TyI)(e:H)(a:Ty):Bool:=
 match T e with
 |some te=>Y (te.ty=D a)
 |none=>J
def lN(T:H->F TyI)(ti:TyI)(t:Ty):Ù->X
 |.int k=>Y (t = .int k)
 |.bool=>Y (t = .bool)
 |.string=>Y (t = .str)
 |.slice e=>match t with
  |.list a=>Y (e=ti.elem)&&G5 T e a&&Y (0<a.size)
  |_=>J
 |.array n e=>match t with
  |.arr n' a=>Y (n=n')&&Y (e=ti.elem)&&G5 T e a&&Y (0<a.size)
  |_=>J
 |.struct _=>t.agg
 |_=>J
def Dk(T:H->F TyI)(ti:TyI):Ù->X
 |.struct fs=>Y (fs.toList.map (λf=>(f.offset,f.type))=ti.flds)&&fs.toList.all (λf=>match T f.type with|some tf=>Y (0<tf.size)|none=>J)
 |_=>ti.flds.isEmpty
def Dl(P:Á)(f:È->F (I Ty)):H->I Field->F (I Ty)
 |_,[]=>D []
 | n, x :: xs => if x.name != "_" && Y (x.offset = n) then
   match f x.type with
   |some ks=>if (P.info? x.type).map (·.size)=D ks.length then match Dl P f (n+ks.length) xs with
     |some r=>D (ks++r)
     |none=>B
    else B
   |none=>B
  else B
def we(P:Á):H->È->F (I Ty)
 |0,_=>B
 |d+1,t=>match P.underlying t with
  |some (.int k)=>D [.int k]
  |some .bool=>D [.bool]
  |some .string=>D [.str]
  |some (.struct fs)=>if P.stoodInHeld t then B else Dl P (we P d) 0 fs.toList
  |_=>B
def Lu(P:Á)(t:È)(ks:I Ty):Bool:=
 Y (we P 12 t=D ks) && !P.eqGuardType P.depth t&&(match P.underlying t with|some (.struct _)=>U|_=>J)
def mpOk(ti:TyI)(d:Ù):Bool:=match ti.mp with
 |none=>U
 |some (k,v)=>match d with
  |.map k' v'=>Y (k=k')&&Y (v=v')
  |_=>J
def zOk(i:í)(d:Ù):Bool:=match i.zero with
 |some (.agg _)=>aggD d
 |some (.tuple _)=>J
 |_=> !aggD d
def tyOk(P:Á)(T:H->F TyI)(n:H)(ti:TyI):Bool:=
 match P.info? n,P.underlying n with
 |some i,D d=>Y (i.size=ti.size)&&Y (i.bytes<=32768)&&Y (ti.agg=aggD d)&&Dk T ti d&&(((ti.cmp.isEmpty||Lu P n ti.cmp)&&mpOk ti d)&&(zOk i d && !isM ti.elem)) &&
  match ti.ty with
  |none=>U
  |some t=>Y (t.size=ti.size)&&(match i.zero with|some z=>Bg z.cells.toList (la t)|none=>J)&&lN T ti t d
 |_,_=>J
def cJ(P:Á)(T:H->F TyI):Prop:=∀n ti,T n=D ti->tyOk P T n ti=U
def tab(l:I (F TyI))(n:H):F TyI:=l.getD n B
theorem Ī(P:Á)(l:I (F TyI))(h:(l.zipIdx.all λx=>match x.1 with|some ti=>tyOk P (tab l) x.2 ti|none=>U)=U):cJ P (tab l):=by
 intro n ti hn;rw[jv]at h
 have hm:(D ti,n)∈l.zipIdx:=by
  rw[List.mem_zipIdx_iff_getElem?];unfold tab at hn;rw[List.getD_eq_getElem?_getD]at hn;cases hl:l[n]? with
  |none=>simp[hl]at hn
  |some x=>simp[hl]at hn;simp[hn]
 exact h _ hm
section
variable{P:Á}{T:H->F TyI}(hT:cJ P T){n:H}{ti:TyI}(hn:T n=D ti)
include hT hn
theorem ī(hc:ti.cmp.isEmpty=J):Lu P n ti.cmp=true:=by
 have h:=hT n ti hn;unfold tyOk at h;split at h
 .simp only[jd,hc,yg]at h;exact h.1.2.1.1
 .simp at h
theorem Ĭ{k v:H}(hm:ti.mp=D (k,v)):P.underlying n=D (.map k v):=by
 have h:=hT n ti hn;unfold tyOk at h;split at h
 .rename_i i d hi hd;simp only[jd]at h;have h2:=h.1.2.1.2;simp only[mpOk,hm]at h2;split at h2
  .simp only[jd,jj]at h2;rw[hd,h2.1,h2.2]
  .simp at h2
 .simp at h
theorem nu:∃i d,P.info? n=D i/\P.underlying n=D d/\i.size=ti.size/\i.bytes<=32768/\ti.agg=aggD d/\Dk T ti d=U/\
  ∀t,ti.ty=D t->t.size=ti.size/\(∃z,i.zero=D z/\z.cells.toList=la t)/\lN T ti t d=true:=by
 have h:=hT n ti hn;unfold tyOk at h;split at h
 .rename_i i d hi hd;simp only[jd,jj]at h;obtain⟨⟨⟨⟨⟨h1,h2⟩,h3⟩,h4⟩,_⟩,h5⟩:=h;refine⟨i,d,hi,hd,h1,h2,h3,h4,λt ht=>?_⟩;simp only[ht,jd,jj]at h5;obtain⟨⟨h6,h7⟩,h8⟩:=h5;refine⟨h6,?_,h8⟩;split at h7
  .rename_i z hz;exact⟨z,hz,T2 h7⟩
  .simp at h7
 .simp at h
theorem jJ(w:À):(sizeOf n).run P w = .ok ti.size w:=by
 obtain⟨i,d,hi,hd,hs,_⟩:=nu hT hn;simp[sizeOf,typeInfo,hi,hs]
theorem Bh(w:À):(isAgg n).run P w = .ok ti.agg w:=by
 obtain⟨i,d,hi,hd,hs,_,ha,_⟩:=nu hT hn;simp only[isAgg,Z,run_underlying hd,W];rw[ha];cases d<;>rfl
theorem xP(w:À){t:Ty}(ht:ti.ty=D t):∃z,(zeroValue n).run P w = .ok z w/\z.cells.toList=la t:=by
 obtain⟨i,d,hi,hd,hs,_,ha,_,h⟩:=nu hT hn;obtain⟨_,⟨z,hz,hc⟩,_⟩:=h t ht;exact⟨z,by simp[zeroValue,typeInfo,hi,hz],hc⟩
theorem ĭ{i:í}{d:Ù}(hi:P.info? n=D i)(hd:P.underlying n=D d):zOk i d=true:=by
 have h:=hT n ti hn;unfold tyOk at h;rw[hi,hd]at h;simp only[jd]at h;exact h.1.2.2.1
theorem Lv:isM ti.elem=false:=by
 have h:=hT n ti hn;unfold tyOk at h;split at h
 .simp only[jd]at h;simpa using h.1.2.2.2
 .simp at h
theorem mG{t:Ty}(ht:ti.ty=D t):t.size=ti.size:=by
 obtain⟨i,d,hi,hd,hs,_,ha,_,h⟩:=nu hT hn;exact(h t ht).1
theorem Lw{k:Î}(ht:ti.ty=D (.int k)):P.underlying n=D (.int k):=by
 obtain⟨i,d,hi,hd,hs,_,ha,_,h⟩:=nu hT hn;have:=(h _ ht).2.2;cases d<;>simp_all[lN,Ty.agg]
theorem nN{a:Ty}(ht:ti.ty=D (.list a)):P.underlying n=D (.slice ti.elem)/\0<a.size/\∃te,T ti.elem=D te/\te.ty=D a:=by
 obtain⟨i,d,hi,hd,hs,_,ha,_,h⟩:=nu hT hn;have h9:=(h _ ht).2.2;cases d with
 |slice e=>
  simp only[lN,jd,jj]at h9;obtain⟨⟨rfl,h2⟩,h3⟩:=h9;refine⟨hd,h3,?_⟩;unfold G5 at h2;split at h2
  .rename_i te dy;exact⟨te,dy,by simpa using h2⟩
  .simp at h2
 |_=>simp_all[lN,Ty.agg]
theorem Bi{m:H}{a:Ty}(ht:ti.ty=D (.arr m a)):P.underlying n=D (.array m ti.elem)/\0<a.size/\∃te,T ti.elem=D te/\te.ty=D a:=by
 obtain⟨i,d,hi,hd,hs,_,ha,_,h⟩:=nu hT hn;have h9:=(h _ ht).2.2;cases d with
 |array m' e=>
  simp only[lN,jd,jj]at h9;obtain⟨⟨⟨rfl,rfl⟩,h2⟩,h3⟩:=h9;refine⟨hd,h3,?_⟩;unfold G5 at h2;split at h2
  .rename_i te dy;exact⟨te,dy,by simpa using h2⟩
  .simp at h2
 |_=>simp_all[lN,Ty.agg]
theorem T3{j:H}{f:H×H}(hf:ti.flds[j]? = D f) :
  ∃fs,P.underlying n=D (.struct fs)/\∃fl,fs[j]? = D fl/\fl.offset=f.1/\fl.type=f.2/\∃tf,T f.2=D tf/\0<tf.size:=by
 obtain⟨i,d,hi,hd,_,_,nO,fB,_⟩:=nu hT hn;cases d with
 |struct fs=>
  simp only[Dk,jd,jj]at fB;obtain⟨h1,h2⟩:=fB;rw[<-h1]at hf;rw[qg]at hf;cases hq:fs.toList[j]? with
  |none=>simp[hq]at hf
  |some fl=>
   simp only[hq,kn,j5]at hf;subst hf;refine⟨fs,hd,fl,by simpa using hq,rfl,rfl,?_⟩;have:=jv.1 h2 fl (k9 hq);split at this
   .rename_i tf wg;exact⟨tf,wg,by simpa using this⟩
   .simp at this
 |_=>
  have:ti.flds=[]:=by simpa[Dk]using fB
  simp[this]at hf
end
section
variable{N:NT}{np:H}{S0:aY}{w0:À}{refs:Refs}{σ:St}{a:Ý}{w:À}{S:aY}{γ:H->O}
def tm(a:Ý)(j:H):Value:=a.tmps.getD j undef
def Į(P:Á)(o:Æ)(a:Ý)(w:À)(v:O)(w':À):Prop:=
 (execOp a.eval o).run P w = .ok (.value v) w'\/((execOp a.eval o).run P w = .ok .skip w'/\v=undef)
def Lx(P:Á)(N:NT)(np:H)(S0:aY)(w0:À)(refs:Refs)(o:Æ)(σ:St)(a:Ý)(w:À)(S:aY)(γ:H->O)(s:Slot)(u:Ups):Prop:=
 ∃v w' S' γ',Į P o a w v w'/\Rel N np S0 w0 refs (σ.upd u) a w' S' γ'/\iA S' w' γ' (σ.upd u).bx (tm a) s v
theorem lO{P:Á}{o:Æ}{s:Slot}{v:O}(hR:Rel N np S0 w0 refs σ a w S γ)(hr:(execOp a.eval o).run P w = .ok (.value v) w)
  (hs:iA S w γ σ.bx (tm a) s v):Lx P N np S0 w0 refs o σ a w S γ s []:=
 ⟨v,w,S,γ,.inl hr,hR,hs⟩
theorem į(v:O)(bx:H->BS):bQ S w γ bx (.one (Lg v)) v:=by
 unfold Lg
 split<;>first
  |exact⟨rfl,λ_=>rfl⟩
  |exact⟨trivial,λh=>absurd rfl h⟩
theorem mI(hR:Rel N np S0 w0 refs σ a w S γ)(x:Ì):iA S w γ σ.bx (tm a) (σ.ev x) (a.eval x):=by
 cases x with
 |tmp t=>exact hR.slot t
 |const v=>exact į v _
 |global g=>exact⟨trivial,λh=>absurd rfl h⟩
 |func f=>exact⟨⟨#[],rfl,trivial⟩,λ_=>rfl⟩
def re(tm:H->O)(act:I (H×X)):Prop:=∀g∈act,tm g.1 = .bool g.2
theorem Ly{bx:H->BS}{t:H->O}{act:I (H×X)}(bg:re t act){s:Slot}{u:O}(h:iA S w γ bx t s u):bQ S w γ bx (s.cel act) u:=by
 cases s with
 |one c=>exact h
 |tup l=>exact⟨trivial,λh=>absurd rfl h⟩
 |und=>exact⟨trivial,λh=>absurd rfl h⟩
 |cnd s b c=>
  simp only[Slot.cel];split
  .rename_i hc;have hm:(s,b)∈act:=by simpa using hc
   have:=bg _ hm;rcases h with h|h
   .exact h.2
   .exact absurd this h.1
  .exact⟨trivial,λh=>absurd rfl h⟩
theorem eQ(hR:Rel N np S0 w0 refs σ a w S γ){act:I (H×X)}(bg:re (tm a) act)(x:Ì) :
 bQ S w γ σ.bx ((σ.ev x).cel act) (a.eval x):=Ly bg (mI hR x)
theorem iB{bx:H->BS}{c:Cel}{u:O}(h:bQ S w γ bx c u):bF S w γ bx (lf c) u:=by
 cases c with
 |one x=>exact h.1
 |st ls=>trivial
 |av n a xs=>trivial
theorem pq{k:Î}{n:(Ty.int k).den}{u:O}(h:Rep S w (.int k) n [u]):u = .int k n:=by simpa[Rep]using h
theorem Lz{n:Ty.bool.den}{u:O}(h:Rep S w .bool n [u]):u = .bool n:=by simpa[Rep]using h
theorem Dm{n:Ty.str.den}{u:O}(h:Rep S w .str n [u]):u = .string n:=by simpa[Rep]using h
theorem nv{t:Ty}{x:TV}{v:t.den}(h:x.to t=D v):x=⟨t,v⟩:=by
 unfold TV.to at h;split at h
 .rename_i e;obtain⟨t',v'⟩:=x;subst e;simp at h;rw[h]
 .simp at h
theorem T4{P:Á}(op:å)(t:È)(x y:Ì)(k k':Î)(p q:Ä) :
  (eqGuard op t x y (.int k p) (.int k' q)).run P w = .ok () w:=by
 unfold eqGuard;cases op<;>simp
theorem T5{P:Á}(op:å)(t:È)(x y:Ì)(p q:X):(eqGuard op t x y (.bool p) (.bool q)).run P w = .ok () w:=by
 unfold eqGuard;cases op<;>simp
theorem T6{P:Á}(op:å)(t:È)(x y:Ì)(p q:Ë):(eqGuard op t x y (.string p) (.string q)).run P w = .ok () w:=by
 unfold eqGuard;cases op<;>simp
theorem T7{P:Á}(t:È){k k':Î}{x y:Ä}(h:0<=y) :
  (binOp .shr t (.int k x) (.int k' y)).run P w = .ok (.int k (ì x (2^min (Ã y) k.bits))) w:=by
 have h':¬y<0:=aa;simp[binOp,Op.shift,h']
theorem İ{P:Á}{op:å}{k:Î}{x y:Ä}{l:Leaf}{bx:H->BS}(t:È)(h:binI op k x y=D (U,l)) :
  ∃u,(binOp op t (.int k x) (.int k y)).run P w = .ok u w/\bF S w γ bx l u/\One u:=by
 cases op with
 |add=>simp[binI]at h;subst h;exact⟨_,by simp[binOp,á],rfl,rfl⟩
 |sub=>simp[binI]at h;subst h;exact⟨_,by simp[binOp,á],rfl,rfl⟩
 |mul=>simp[binI]at h;subst h;exact⟨_,by simp[binOp,á],rfl,rfl⟩
 |quo=>simp only[binI,j5,j9,q9,beq_eq_false_iff_ne]at h;obtain⟨h0,rfl⟩:=h;exact⟨_,by simp[binOp,ø,h0],rfl,rfl⟩
 |rem=>simp only[binI,j5,j9,q9,beq_eq_false_iff_ne]at h;obtain⟨h0,rfl⟩:=h;exact⟨_,by simp[binOp,ø,h0],rfl,rfl⟩
 |shr=>
  simp only[binI]at h;split at h
  .rename_i h0;simp only[j5,j9,q7]at h;subst h;exact⟨_,T7 t (by simpa using h0),rfl,rfl⟩
  .simp at h
 |and=>simp[binI]at h
 |or=>simp[binI]at h
 |xor=>simp[binI]at h
 |andNot=>simp[binI]at h
 |shl=>simp[binI]at h
 |eql=>simp[binI,cmpI]at h;subst h;exact⟨_,by simp[binOp,Ü],rfl,rfl⟩
 |neq=>simp[binI,cmpI]at h;subst h;exact⟨_,by simp[binOp,Ü],rfl,rfl⟩
 |lss=>simp[binI,cmpI]at h;subst h;exact⟨_,by simp[binOp,Ü],rfl,rfl⟩
 |leq=>simp[binI,cmpI]at h;subst h;exact⟨_,by simp[binOp,Ü],rfl,rfl⟩
 |gtr=>simp[binI,cmpI]at h;subst h;exact⟨_,by simp[binOp,Ü],rfl,rfl⟩
 |geq=>simp[binI,cmpI]at h;subst h;exact⟨_,by simp[binOp,Ü],rfl,rfl⟩
end
def LA:Ty->O->O->X->Prop
 |.int k,u,v,b=>∃x y:Ä,u = .int k x/\v = .int k y/\b=(x==y)
 |.bool,u,v,b=>∃x y:X,u = .bool x/\v = .bool y/\b=(x==y)
 |.str,u,v,b=>∃x y:Ë,u = .string x/\v = .string y/\b=(x.toList==y.toList)
 |_,_,_,_=>Û
def iJ:I Ty->I O->I O->X->Prop
 |[],[],[],b=>b=U
 |k::ks,u::us,v::vs,b=>∃b1 b2,LA k u v b1/\iJ ks us vs b2/\b=(b1&&b2)
 |_,_,_,_=>Û
theorem iJ.length:∀{ks:I Ty}{us vs:I O}{b:X},iJ ks us vs b->us.length=ks.length/\vs.length=ks.length
 |[],[],[],_,_=>⟨rfl,rfl⟩
 |_::_,_::_,_::_,_,⟨_,_,_,h,_⟩=>by have:=iJ.length h;simp[this.1,this.2]
 |[],_::_,_,_,h=>by simp[iJ]at h
 |[],[],_::_,_,h=>by simp[iJ]at h
 |_::_,[],_,_,h=>by simp[iJ]at h
 |_::_,_::_,[],_,h=>by simp[iJ]at h
theorem iJ.split:∀{k1 k2:I Ty}{us vs:I O}{b:X},iJ (k1++k2) us vs b->
  ∃b1 b2,iJ k1 (us.take k1.length) (vs.take k1.length) b1/\iJ k2 (us.drop k1.length) (vs.drop k1.length) b2/\b=(b1&&b2)
 |[],k2,us,vs,b,h=>⟨U,b,by simp[iJ],by simpa using h,ae⟩
 |k::k1,k2,u::us,v::vs,b,⟨b1,b2,h1,h2,hb⟩=>by
  obtain⟨c1,c2,h3,h4,hc⟩:=iJ.split h2;exact⟨b1&&c1,c2,⟨b1,c1,h1,h3,rfl⟩,h4,by rw[hb,hc,Bool.and_assoc]⟩
 |_::_,_,[],_,_,h=>by simp[iJ]at h
 |_::_,_,_::_,[],_,h=>by simp[iJ]at h
theorem iJ.single{k:Ty}{us vs:I O}{b:X}(h:iJ [k] us vs b):∃u v,us=[u]/\vs=[v]/\LA k u v b:=by
 have hl:=h.length;match us,vs,hl with
 |[u],[v],_=>obtain⟨b1,b2,h1,h2,hb⟩:=h;simp only[iJ]at h2;subst h2;rw[Bool.and_true]at hb;exact⟨u,v,rfl,rfl,hb▸h1⟩
def qB(P:Á)(t:È)(us:I O):Value:=
 match P.underlying t with
 |some (.struct _)=> .agg us.toArray
 |_=>us.headD undef
theorem T8{P:Á}{w:À}{t:È}{us:I O}{o n:H}{i:í}{d:Ù}(hi:P.info? t=D i)(hn:i.size=n)
  (hd:P.underlying t=D d)(hl:o+n<=us.length)(h1:(∃fs,d = .struct fs)\/((∀fs,d ≠ .struct fs)/\(∀m e,d ≠ .array m e)/\n=1)) :
  (part t us.toArray o).run P w = .ok (qB P t ((us.drop o).take n)) w:=by
 rcases h1 with⟨fs,rfl⟩|⟨h1,h2,rfl⟩
 .simp[part,isAgg,run_underlying hd,sizeOf,typeInfo,hi,hn,qB,hd,List.take_drop]
 .have hv:qB P t ((us.drop o).take 1)=us[o]:=by
   have:(us.drop o).take 1=[us[o]]:=by rw[jb aa];rfl
   unfold qB;rw[this,hd];cases d<;>first|rfl|exact absurd rfl (h1 _)
  have ha:(isAgg t).run P w = .ok J w:=by simp only[isAgg,Z,run_underlying hd,W];cases d<;>first|rfl|exact absurd rfl (h1 _)|exact absurd rfl (h2 _ _)
  rw[hv];simp only[part,Z,ha,W,ku,qz];rw[show us.toArray[o]? = D us[o] by simp];rfl
theorem T9(P:Á)(w:À):∀(k:H)(t:È)(ks:I Ty),we P k t=D ks->∀d,k<=d->∀us vs b,iJ ks us vs b->
  (õ d t (qB P t us) (qB P t vs)).run P w = .ok b w
 |0,_,_,h,_,_,_,_,_,_=>by simp[we]at h
 |k+1,t,ks,h,d,hd,us,vs,b,he=>by
  obtain⟨d,rfl⟩:∃d',d=d'+1:=⟨d-1,aa⟩;unfold we at h;split at h
  .rename_i kk hu;simp at h;subst h;obtain⟨u,v,rfl,rfl,hc⟩:=he.single;obtain⟨x,y,rfl,rfl,hb⟩:=hc;simp[qB,hu,run_equalIn_int w d t _ _ _ _ hu,hb]
  .rename_i hu;simp at h;subst h;obtain⟨u,v,rfl,rfl,hc⟩:=he.single;obtain⟨x,y,rfl,rfl,hb⟩:=hc;simp[qB,hu,run_equalIn_bool' w d t _ _ hu,hb]
  .rename_i hu;simp at h;subst h;obtain⟨u,v,rfl,rfl,hc⟩:=he.single;obtain⟨x,y,rfl,rfl,hb⟩:=hc;simp[qB,hu,run_equalIn_string w d t _ _ hu,hb]
  .rename_i fs hu;split at h
   .simp at h
   rename_i aV;have hf:P.fieldsOf t=fs:=by simp[Program.fieldsOf,hu]
   have eR:∀us:I O,qB P t us = .agg us.toArray:=λus=>by simp[qB,hu]
   rw[eR,eR,run_equalIn_agg w d t _ _ (by rw[hf];exact hu) (by simpa using aV),hf]
   have key:∀(fl:I Field)(n:H)(ks:I Ty),Dl P (we P k) n fl=D ks->∀b,n<=us.length->n<=vs.length->iJ ks (us.drop n) (vs.drop n) b->
     (ð d us.toArray vs.toArray fl).run P w = .ok b w:=by
    intro fl;induction fl with
    |nil=>intro n ks hk b ı Ĳ hc;simp[Dl]at hk;subst hk;have hl:=hc.length;have:us.drop n=[]:=jy hl.1;have h':vs.drop n=[]:=jy hl.2;rw[this,h']at hc;simp[iJ]at hc;subst hc;rfl
    |cons x fl ih=>
     intro n ks hk b ı Ĳ hc;simp only[Dl,jd,bne_iff_ne,ne_eq,jj]at hk;split at hk
     .rename_i hx;split at hk
      .rename_i k1 dj;split at hk
       .rename_i cm;split at hk
        .rename_i k2 fp;simp at hk;subst hk;obtain⟨b1,b2,eU,fC,hb⟩:=hc.split;have hlen:=hc.length;simp only[zf,Õ]at hlen;cases hi:P.info? x.type with
         |none=>simp[hi]at cm
         |some i=>
          simp only[hi,kn,j5]at cm
          have xQ:∃dd,P.underlying x.type=D dd/\((∃fs,dd = .struct fs)\/((∀fs,dd ≠ .struct fs)/\(∀m e,dd ≠ .array m e)/\k1.length=1)):=by
           cases k with
           |zero=>simp[we]at dj
           |succ k=>
            unfold we at dj;split at dj
            .rename_i eb;simp at dj;subst dj;exact⟨_,eb,.inr ⟨ae,ae,rfl⟩⟩
            .rename_i eb;simp at dj;subst dj;exact⟨_,eb,.inr ⟨ae,ae,rfl⟩⟩
            .rename_i eb;simp at dj;subst dj;exact⟨_,eb,.inr ⟨ae,ae,rfl⟩⟩
            .rename_i eb;exact⟨_,eb,.inl ⟨_,rfl⟩⟩
            .simp at dj
          obtain⟨dd,nP,oH⟩:=xQ;have rh:=T8 (P:=P) (w:=w) (us:=us) (o:=n) hi cm nP aa oH;have xR:=T8 (P:=P) (w:=w) (us:=vs) (o:=n) hi cm nP aa oH;have gz:=T9 P w k x.type k1 dj d aa _ _ b1 eU;simp only[ð];rw[if_pos hx.1];simp only[Z,hx.2,rh,W,xR,gz,Ø];cases b1
          .simp[hb]
          .simp only[jc,ku,qz];rw[hb,qr];refine ih (n+k1.length) k2 fp b2 aa aa ?_;rw[<-ã,<-ã];exact fC
        .simp at hk
       .simp at hk
      .simp at hk
     .simp at hk
   exact key fs.toList 0 ks h b aa aa (by simpa using he)
  .simp at h
termination_by k=>k
section
variable{S:aY}{w:À}{γ:H->O}{bx:H->BS}
theorem ĳ{t t':Ty}{x:t.den}{y:t'.den}{b:X}{u v:O}(h:eqT ⟨t,x⟩ ⟨t',y⟩=D b)(hx:Rep S w t x [u])(hy:Rep S w t' y [v])(ht:t'=t):LA t u v b:=by
 subst ht;cases t' with
 |int k=>simp[eqT]at h;exact⟨x,y,pq hx,pq hy,h.symm⟩
 |bool=>simp[eqT]at h;exact⟨x,y,Lz hx,Lz hy,h.symm⟩
 |str=>simp[eqT]at h;exact⟨x,y,Dm hx,Dm hy,h.symm⟩
 |_=>simp[eqT]at h
theorem Ĵ(ks:I Ty):∀{l l':I Leaf}{b:X}{us vs:I O},eqL ks l l'=D b->All2 (bF S w γ bx) l us->All2 (bF S w γ bx) l' vs->iJ ks us vs b:=by
 induction ks with
 |nil=>
  intro l l' b us vs h h1 h2;cases l with
  |cons _ _=>simp[eqL]at h
  |nil=>
   cases l' with
   |cons _ _=>simp[eqL]at h
   |nil=>
    cases us with
    |cons _ _=>exact h1.elim
    |nil=>cases vs with
     |cons _ _=>exact h2.elim
     |nil=>simp[eqL]at h;simp[iJ,h]
 |cons k ks ih=>
  intro l l' b us vs h h1 h2;cases l with
  |nil=>simp[eqL]at h
  |cons l0 l=>
   cases l' with
   |nil=>cases l0<;>simp[eqL]at h
   |cons m0 l'=>
    cases us with
    |nil=>exact h1.elim
    |cons u us=>
     cases vs with
     |nil=>exact h2.elim
     |cons v vs=>
      cases l0 with
      |d t x=>
       cases m0 with
       |d t' y=>
        simp only[eqL]at h;split at h
        .rename_i hk;obtain⟨rfl,rfl⟩:=hk;split at h
         .rename_i b1 dF;have hc:=ĳ dF h1.1 h2.1 rfl;split at h
          .split at h
           .simp at h;subst h;cases us with
            |nil=>cases vs with
             |nil=>exact⟨b1,U,hc,by simp[iJ],ae⟩
             |cons _ _=>exact h2.2.elim
            |cons _ _=>exact h1.2.elim
           .simp at h
          .split at h
           .rename_i b2 eI;simp at h;subst h;exact⟨b1,b2,hc,ih eI h1.2 h2.2,rfl⟩
           .simp at h
         .simp at h
        .simp at h
       |_=>simp[eqL]at h
      |_=>simp[eqL]at h
theorem Ua{P:Á}{T:H->F TyI}(hT:cJ P T){t:È}{l l':I Leaf}{b:X}{us vs:É O}
  (br:(vO (T t)).isEmpty=J)(h:eqL (vO (T t)) l l'=D b)(h1:All2 (bF S w γ bx) l us.toList)(h2:All2 (bF S w γ bx) l' vs.toList) :
  P.eqGuardType P.depth t=J/\(õ 10000 t (.agg us) (.agg vs)).run P w = .ok b w:=by
 cases ht:T t with
 |none=>simp[vO,ht]at br
 |some ti=>
  simp only[vO,ht]at br h;have hc:=ī hT ht br;simp only[Lu,jd,jj,q9]at hc;obtain⟨⟨hk,hg⟩,hs⟩:=hc;refine⟨hg,?_⟩;have he:=T9 P w 12 t _ hk 10000 aa us.toList vs.toList b (Ĵ _ h h1 h2);split at hs
  .rename_i fs hu;simpa[qB,hu]using he
  .simp at hs
end
section
variable{N:NT}{np:H}{S0:aY}{w0:À}{refs:Refs}{σ:St}{a:Ý}{w:À}{S:aY}{γ:H->O}{bx:H->BS}
theorem ub{k:Î}{n:(Ty.int k).den}{u:O}(h:bQ S w γ bx (.one (.d (.int k) n)) u):u = .int k n:=pq (S:=S) (w:=w) h.1
theorem sX{n:Ty.bool.den}{u:O}(h:bQ S w γ bx (.one (.d .bool n)) u):u = .bool n:=Lz (S:=S) (w:=w) h.1
theorem Ub{n:Ty.str.den}{u:O}(h:bQ S w γ bx (.one (.d .str n)) u):u = .string n:=Dm (S:=S) (w:=w) h.1
theorem ĵ{P:Á}{T:H->F TyI}(hT:cJ P T){op:å}{t:È}{x y:Ì}{c c':Cel}{l:Leaf}{u v:O}
  (h:binC (T t) op c c'=D (U,l))(hc:bQ S w γ bx c u)(dz:bQ S w γ bx c' v) :
  ∃z,(do eqGuard op t x y u v;binOp op t u v:Sem O).run P w = .ok z w/\bF S w γ bx l z/\One z:=by
 unfold binC at h;split at h
 .rename_i k p k' q;have hu:=ub hc;have hv:=ub dz;subst hu hv;split at h
  .rename_i hk;subst hk;obtain⟨z,hz,hl,h1⟩:=İ (P:=P) (w:=w) (S:=S) (γ:=γ) (bx:=bx) t h;exact⟨z,by simp only[Z,T4,W,hz],hl,h1⟩
  .split at h
   .split at h
    .rename_i h0;simp only[j5,j9,q7]at h;subst h;exact⟨_,by simp only[Z,T4,W,T7 t (by simpa using h0)],rfl,rfl⟩
    .simp at h
   .simp at h
 .rename_i p q;have hu:=sX hc;have hv:=sX dz;subst hu hv;split at h
  .rename_i hb
   have Uc:P.underlying t=D .bool:=by
    unfold TQ at hb;split at hb
    .rename_i ti Bj;obtain⟨i,d,hi,hd,_,_,_,_,hh⟩:=nu hT Bj;have:=(hh _ (by simpa using hb)).2.2;cases d<;>simp_all[lN,Ty.agg]
    .simp at hb
   split at h
   .simp only[j5,j9,q7]at h;subst h;refine⟨.bool (p==q),?_,rfl,rfl⟩;simp only[Z,T5,W,binOp];simp only[ÿ,ñ,run_equalIn_bool' w 9999 t p q Uc,W,Â]
   .simp only[j5,j9,q7]at h;subst h;refine⟨.bool (!(p==q)),?_,rfl,rfl⟩;simp only[Z,T5,W,binOp];simp only[ÿ,ñ,run_equalIn_bool' w 9999 t p q Uc,W,Â]
   .simp at h
  .simp at h
 .rename_i p q;have hu:=Ub hc;have hv:=Ub dz;subst hu hv;split at h
  .simp only[j5,j9,q7]at h;subst h;exact⟨_,by simp only[Z,T6,W,binOp,ò,Â],rfl,rfl⟩
  .simp only[j5,j9,q7]at h;subst h;exact⟨_,by simp only[Z,T6,W,binOp,ò,Â],rfl,rfl⟩
  .simp at h
 .rename_i p q;obtain⟨us,rfl,h1,_⟩:=hc;obtain⟨vs,rfl,h2,_⟩:=dz;split at h
  .simp at h
  rename_i br;have br:(vO (T t)).isEmpty=false:=by simpa using br
  split at h
  .split at h
   .rename_i b hb;simp only[j5,j9,q7]at h;subst h;obtain⟨hg,he⟩:=Ua hT br hb h1 h2;exact⟨_,by simp only[Z,run_eqGuard_agg w .eql t x y us vs hg,W,run_eql_struct,he],rfl,rfl⟩
   .simp at h
  .split at h
   .rename_i b hb;simp only[j5,j9,q7]at h;subst h;obtain⟨hg,he⟩:=Ua hT br hb h1 h2;exact⟨_,by simp only[Z,run_eqGuard_agg w .neq t x y us vs hg,W,run_neq_struct,he],rfl,rfl⟩
   .simp at h
  .simp at h
 .simp at h
theorem Ķ{P:Á}{op:UnOp}{c:Cel}{l:Leaf}{u:O}(h:unC op c=D l)(hc:bQ S w γ bx c u) :
  ∃z,(î op u).run P w = .ok z w/\bF S w γ bx l z/\One z:=by
 unfold unC at h;split at h
 .have hu:=sX hc;subst hu;split at h
  .simp at h;subst h;exact⟨_,by simp[î],rfl,rfl⟩
  .simp at h
 .have hu:=ub hc;subst hu;split at h
  .simp at h;subst h;exact⟨_,by simp[î,á],rfl,rfl⟩
  .simp at h
 .simp at h
theorem ķ{P:Á}{cs:I Cel}{l:Leaf}{us:I O}{ts:É È}{ty:È}(h:minC cs=D l)(hc:All2 (bQ S w γ bx) cs us) :
  ∃z,(ê ts ty us.toArray).run P w = .ok z w/\bF S w γ bx l z/\One z:=by
 unfold minC at h;split at h
 .rename_i k p k' q;match us,hc with
  |[u,v],⟨h1,h2,_⟩=>
   have hu:=ub h1;have hv:=ub h2;subst hu hv;split at h
   .simp at h;subst h;exact⟨_,by simp[ê,Builtin.min2],rfl,rfl⟩
   .simp at h
 .simp at h
theorem ĸ{P:Á}{cs:I Cel}{l:Leaf}{us:I O}{ts:É È}{ty:È}(h:maxC cs=D l)(hc:All2 (bQ S w γ bx) cs us) :
  ∃z,(ë ts ty us.toArray).run P w = .ok z w/\bF S w γ bx l z/\One z:=by
 unfold maxC at h;split at h
 .rename_i k p k' q;match us,hc with
  |[u,v],⟨h1,h2,_⟩=>
   have hu:=ub h1;have hv:=ub h2;subst hu hv;split at h
   .simp at h;subst h;exact⟨_,by simp[ë,Builtin.max2],rfl,rfl⟩
   .simp at h
 .simp at h
theorem pr:∀(t:Ty)(v:t.den)(cs:I O),Rep S w t v cs->All2 (λx z=>Rep S w x.t x.v [z]) (scat t v) cs
 |.int k,v,cs,h=>by rw[h];exact⟨rfl,trivial⟩
 |.bool,v,cs,h=>by rw[h];exact⟨rfl,trivial⟩
 |.str,v,cs,h=>by rw[h];exact⟨rfl,trivial⟩
 |.unit,v,cs,h=>by rw[h];exact trivial
 |.wrap a,v,cs,h=>pr a v cs h
 |.pair a b,v,cs,⟨c1,c2,e,h1,h2⟩=>by rw[e];exact(pr a v.1 c1 h1).append (pr b v.2 c2 h2)
 |.list a,v,cs,h=>by
  obtain⟨ad,cap,e,h'⟩:=h;subst e;exact⟨⟨ad,cap,rfl,h'⟩,trivial⟩
 |.arr n a,v,cs,⟨hn,css,ha,e⟩=>by
  have key:∀(xs:I a.den)(css:I (I O)),All2 (λx c=>Rep S w a x c) xs css->
    All2 (λx z=>Rep S w x.t x.v [z]) (xs.flatMap (scat a)) css.flatten:=by
   intro xs;induction xs with
   |nil=>intro css h;cases css with|nil=>exact trivial|cons _ _=>exact h.elim
   |cons x xs ih=>
    intro css h;cases css with
    |nil=>exact h.elim
    |cons c css=>exact(pr a x c h.1).append (ih css h.2)
  have hw:∀l:I a.den,(Ñ l.length).flatMap (λi=>scat a (l.getD i a.dflt))=l.flatMap (scat a):=by
   intro l;induction l with
   |nil=>rfl
   |cons x l ih=>rw[ji,List.range_succ_eq_map,qu,List.flatMap_map];simp only[qu];congr 1
  have hm:∀(l:I a.den)(m:H),l.length=m->(Ñ m).flatMap (λi=>scat a (l.getD i a.dflt))=l.flatMap (scat a):=by intro l m hl;subst hl;exact hw l
  have he:scat (.arr n a) v=List.flatMap (scat a) v:=hm v n hn;rw[e,he];exact key v css ha
theorem ri:∀{xs:I TV}{cs:I O},All2 (λx z=>Rep S w x.t x.v [z]) xs cs->All2 (bF S w γ bx) (xs.map TV.leaf) cs:=
 λh=>All2.map_left.2 h
theorem LB(t:Ty)(v:t.den)(cs:I O)(u:O)(h:Rep S w t v cs)(hu:(t.agg=U\/∃n a,t = .arr n a)->u = .agg cs.toArray)(eb:t.agg=J->(∀n a,t ≠ .arr n a)->cs=[u]) :
  bQ S w γ bx (pb t v) u:=by
 cases t with
 |int k=>have:=eb rfl ae;subst this;exact⟨h,λ_=>Rep.one _ _ _ h u ae⟩
 |bool=>have:=eb rfl ae;subst this;exact⟨h,λ_=>Rep.one _ _ _ h u ae⟩
 |str=>have:=eb rfl ae;subst this;exact⟨h,λ_=>Rep.one _ _ _ h u ae⟩
 |list a=>have:=eb rfl ae;subst this;exact⟨h,λ_=>Rep.one _ _ _ h u ae⟩
 |unit=>have:=hu (.inl rfl);subst this;exact⟨_,rfl,by simpa using ri (pr _ v cs h),by simpa using Rep.one _ _ _ h⟩
 |wrap a=>have:=hu (.inl rfl);subst this;exact⟨_,rfl,by simpa using ri (pr _ v cs h),by simpa using Rep.one _ _ _ h⟩
 |pair a b=>have:=hu (.inl rfl);subst this;exact⟨_,rfl,by simpa using ri (pr _ v cs h),by simpa using Rep.one _ _ _ h⟩
 |arr n a=>have:=hu (.inr ⟨n,a,rfl⟩);subst this;exact⟨_,rfl,by simpa using h⟩
theorem Ud{g o:H}{cs:I O}(h:∀j v,cs[j]? = D v->w.cell? ⟨g,o+j,B⟩=D v)(P:Á) :
  (loadCells ⟨g,o,B⟩ cs.length).run P w = .ok cs.toArray w:=
 run_loadCells_list (P:=P) w ⟨g,o,B⟩ cs (λj v hv=>by rw[Í];exact h j v hv)
theorem Ĺ{P:Á}{T:H->F TyI}(hT:cJ P T){t:È}{ti:TyI}(ht:T t=D ti){ls:I Leaf}{c:Cel}(h:sW ti ls=D c)
  {g o:H}{cs:I O}(hr:All2 (bF S w γ bx) ls cs)(h1:∀u∈cs,One u)(hl:∀j v,cs[j]? = D v->w.cell? ⟨g,o+j,B⟩=D v) :
  ∃u,(loadVar t ⟨g,o,B⟩).run P w = .ok u w/\bQ S w γ bx c u:=by
 unfold sW at h;split at h
 .rename_i ha;split at h
  .rename_i hlen;simp at h;subst h;refine⟨.agg cs.toArray,?_,cs.toArray,rfl,by simpa using hr,by simpa using h1⟩;have hs:=Ud (w:=w) hl P;rw[<-hr.length,hlen]at hs;simp only[loadVar,Z,Bh hT ht,ha,W,if_true,jJ hT ht,hs,Â]
  .simp at h
 .rename_i ha;split at h
  .simp at h;subst h;match cs,hr with
   |[u],⟨hr,_⟩=>refine⟨u,?_,hr,λ_=>h1 u ae⟩;have ee:=hl 0 u rfl;simp only[loadVar,Z,Bh hT ht,W,if_neg ha,run_load];rw[Nat.add_zero]at ee;simp[ee]
  .simp at h
end
theorem xS{α:Type}{R:α->I O->Prop}{m:H}(hm:∀x c,R x c->c.length=m) :
  ∀{xs:I α}{css:I (I O)},All2 R xs css->∀(i:H)(d:α),i<xs.length->
   ∃c,css[i]? = D c/\R (xs.getD i d) c/\∀(j:H)(v:O),c[j]? = D v->css.flatten[i*m+j]? = D v
 |[],_,_,i,d,hi=>by simp at hi
 |x::xs,c::css,h,0,d,_=>⟨c,ae,by simpa using h.1,λj v hv=>by
  have hj:j<c.length:=(List.getElem?_eq_some_iff.1 hv).1;simp[List.getElem?_append_left hj,hv]⟩
 |x::xs,c::css,h,i+1,d,hi=>by
  obtain⟨c',h1,h2,h3⟩:=xS hm h.2 i d (by simpa using hi);refine⟨c',by simpa using h1,by simpa using h2,λj v hv=>?_⟩;have hl:=hm _ _ h.1;rw[kq,ke (by rw[hl,zr];omega),hl];have:(i+1)*m+j-m=i*m+j:=by rw[zr];omega
  rw[this];exact h3 j v hv
 |_::_,[],h,_,_,_=>h.elim
section
variable{N:NT}{np:H}{S0:aY}{w0:À}{refs:Refs}{σ:St}{a:Ý}{w:À}{S:aY}{γ:H->O}
def RdR(σ:St)(rd:H->BS):Prop:=∀k,rd k=σ.bx k\/rd k = .gone
theorem RdR.live{rd:H->BS}(h:RdR σ rd){k:H}{b:Bx}(hk:rd k = .live b):σ.bx k = .live b:=by
 rcases h k with h|h
 .rw[<-h,hk]
 .rw[h]at hk;simp at hk
theorem RdR.free{rd:H->BS}(h:RdR σ rd){k:H}(hk:iz (rd k)=U):σ.bx k = .free:=by
 rcases h k with h|h
 .rw[<-h];revert hk;cases rd k<;>simp[iz]
 .rw[h]at hk;simp[iz]at hk
def NoM(rd:H->BS):Prop:=∀(k e:H)(a:Ty)(xs:I a.den)(f:X),rd k = .live (.lst e a xs f)->isM e=J
def RdOk(σ:St)(rd:H->BS):Prop:=RdR σ rd/\NoM rd
theorem RdOk.live{rd:H->BS}(h:RdOk σ rd){k:H}{b:Bx}(hk:rd k = .live b):σ.bx k = .live b:=h.1.live hk
theorem RdOk.free{rd:H->BS}(h:RdOk σ rd){k:H}(hk:iz (rd k)=U):σ.bx k = .free:=h.1.free hk
theorem RdOk.nm{rd:H->BS}(h:RdOk σ rd){k e:H}{a:Ty}{xs:I a.den}{f:X}(hk:rd k = .live (.lst e a xs f)):isM e=false:=h.2 k e a xs f hk
theorem ĺ{rd:H->BS}{k:H}{b:Bx}(h:mskM rd k = .live b):rd k = .live b/\∀(e:H)(a:Ty)(xs:I a.den)(f:X),b = .lst e a xs f->isM e=false:=by
 unfold mskM at h;split at h
 .rename_i e a xs f hk;split at h
  .simp at h
  .rename_i hm;rw[hk,h];refine⟨rfl,λe' a' du f' hb=>?_⟩;simp only[BS.live.injEq]at h;rw[<-h]at hb;cases hb;simpa using hm
 .rename_i br;refine⟨h,λe a xs f hb=>?_⟩;subst hb;exact absurd h (br e a xs f)
theorem Ue{rd:H->BS}(k:H):mskM rd k=rd k\/mskM rd k = .gone:=by
 unfold mskM;split
 .rename_i e a xs f hk;split
  .exact .inr rfl
  .exact .inl hk.symm
 .exact .inl rfl
theorem Ļ(rd:H->BS):NoM (mskM rd):=λk e a xs f h=>(ĺ h).2 e a xs f rfl
theorem RdR.msk{rd:H->BS}(h:RdR σ rd):RdOk σ (mskM rd):=
 ⟨λk=>(Ue (rd:=rd) k).elim (λe=>(h k).imp (e.trans ·) (e.trans ·)) .inr,Ļ rd⟩
theorem ļ(hR:Rel N np S0 w0 refs σ a w S γ){k e:H}{t:Ty}{xs:I t.den}{frz:X}(hk:σ.bx k = .live (.lst e t xs frz))
  {g cap:H}(hg:γ k = .slice (D ⟨g,0,B⟩) xs.length cap){i:H}(hi:i<xs.length) :
  ∃cs,Rep S w t (xs.getD i t.dflt) cs/\∀(j:H)(v:O),cs[j]? = D v->w.cell? ⟨g,i*t.size+j,B⟩=D v:=by
 obtain⟨css,aQ,ha,_⟩:=G4 hg (hR.box k _ hk);obtain⟨c,h1,h2,h3⟩:=xS (λx c hx=>Rep.length t x c hx) ha i t.dflt hi;refine⟨c,h2,λj v hv=>?_⟩;have:=aQ.cells (g:=g) (by rw[hg];rfl) (i*t.size+j) v (h3 j v hv);rwa[Í,kb]at this
theorem Ľ(hR:Rel N np S0 w0 refs σ a w S γ){k n:H}{t:Ty}{xs:I t.den}(hk:σ.bx k = .live (.arr n t xs))
  {g:H}(hg:γ k = .pointer (D ⟨g,0,B⟩)){i:H}(hi:i<n) :
  ∃cs,Rep S w t (xs.getD i t.dflt) cs/\∀(j:H)(v:O),cs[j]? = D v->w.cell? ⟨g,i*t.size+j,B⟩=D v:=by
 obtain⟨g',cur,e,aC,hh,⟨hn,css,ha,he⟩,_⟩:=hR.box k _ hk;rw[hg]at aC;simp at aC;subst aC;obtain⟨c,h1,h2,h3⟩:=xS (λx c hx=>Rep.length t x c hx) ha i t.dflt (by rw[hn];exact hi);refine⟨c,h2,λj v hv=>?_⟩;have:=h3 j v hv;rw[<-he]at this;rw[cell_of_row w g _ cur e (0,0) hh];simpa using this
theorem G6{l:I O}{c n j:H}{v:O}(h:((l.drop c).take n)[j]? = D v):l[c+j]? = D v:=by
 rw[qp]at h;split at h
 .rwa[Ö]at h
 .simp at h
theorem G7{l:I O}{c n:H}{P:O->Prop}(h:∀u∈l,P u):∀u∈(l.drop c).take n,P u:=
 λu hu=>h u (zt (qq hu))
theorem Uf{P:Á}{E:Env}(hT:cJ P E.T)(hR:Rel N np S0 w0 refs σ a w S γ){rd:H->BS}(aZ:RdOk σ rd){t:È}{ti:TyI}(ht:E.T t=D ti)
  {x:Leaf}{c:Cel}{u:O}(h:pd rd ti x=D c)(hx:bF S w γ σ.bx x u) :
  ∃z,(Þ t u).run P w = .ok z w/\bQ S w γ σ.bx c z:=by
 have fin:∀(g o:H)(ls:I Leaf)(cs:I O),u = .pointer (D ⟨g,o,B⟩)->sW ti ls=D c->All2 (bF S w γ σ.bx) ls cs->(∀u∈cs,One u)->
   (∀(j:H)(v:O),cs[j]? = D v->w.cell? ⟨g,o+j,B⟩=D v)->∃z,(Þ t u).run P w = .ok z w/\bQ S w γ σ.bx c z:=by
  intro g o ls cs hu hm hr h1 hl;obtain⟨z,hz,hc⟩:=Ĺ (P:=P) hT ht hm hr h1 hl;exact⟨z,by subst hu;simp only[Þ,Z,Ô,Â,W,hz],hc⟩
 cases x with
 |bp k o=>
  obtain⟨_,_,hb⟩:=hx;simp only[pd]at h;split at h
  .rename_i ls frz hk;have hk:=aZ.live hk;obtain⟨g,hg,hu⟩:=hb _ hk;obtain⟨g',cur,e,aC,hh,ha,h1,_⟩:=hR.box k _ hk;rw[hg]at aC;simp at aC;subst aC;refine fin g o _ (((cur.toList.take ls.length).drop o).take ti.size) hu h ((ha.drop o).take ti.size) (G7 h1) (λj v hv=>?_);rw[cell_of_row w g _ cur e (0,0) hh];have hv:=G6 hv;rw[qp]at hv;split at hv
   .simpa using hv
   .simp at hv
  .rename_i n el xs hk;split at h
   .rename_i hc;obtain⟨rfl,bG⟩:=hc;simp at h;subst h;have hk:=aZ.live hk;obtain⟨g,hg,hu⟩:=hb _ hk;obtain⟨g',cur,e,aC,hh,bO,_⟩:=hR.box k _ hk;rw[hg]at aC;simp at aC;subst aC;obtain⟨LC,_,_⟩:=Bi hT ht bG;obtain⟨i,d,hi,hd,hs,_,nO,_,wh⟩:=nu hT ht;have cm:cur.size=ti.size:=by have:=Rep.length _ _ _ bO;rw[mG hT ht bG]at this;simpa using this
    refine⟨.agg cur,?_,cur,rfl,bO⟩;subst hu;have:=run_loadVar_row (P:=P) w g e t cur (0,0) d hh hd (by rw[LC]at hd;cases hd;rfl) (by rw[hi];simp[hs,cm]);simp only[Þ,Z,Ô,Â,W,this]
   .simp at h
  .simp at h
 |ep k i o=>
  obtain⟨_,_,hb⟩:=hx;simp only[pd]at h;split at h
  .rename_i e el xs frz hk;have hk:=aZ.live hk;obtain⟨_,hi,g,cap,hg,hu⟩:=hb _ hk;obtain⟨cs,bO,ee⟩:=ļ hR hk hg hi;refine fin g _ _ ((cs.drop o).take ti.size) hu h (((ri (pr el _ cs bO)).drop o).take ti.size) (G7 (Rep.one _ _ _ bO)) (λj v hv=>?_);rw[ze];exact ee _ v (G6 hv)
  .rename_i n el xs hk;have hk:=aZ.live hk;obtain⟨hi,g,hg,hu⟩:=hb _ hk;obtain⟨cs,bO,ee⟩:=Ľ hR hk hg hi;refine fin g _ _ ((cs.drop o).take ti.size) hu h (((ri (pr el _ cs bO)).drop o).take ti.size) (G7 (Rep.one _ _ _ bO)) (λj v hv=>?_);rw[ze];exact ee _ v (G6 hv)
  .rename_i e el n ls hk;split at h
   .have hk:=aZ.live hk;obtain⟨_,hi,g,cap,hg,hu⟩:=hb _ hk;obtain⟨_,⟨cs,aQ,ha,h1⟩,_⟩:=hR.box k _ hk;refine fin g _ _ ((cs.drop (i*el.size+o)).take ti.size) hu h ((ha.drop _).take ti.size) (G7 h1) (λj v hv=>?_);have:=aQ.cells (g:=g) (by rw[hg];rfl) _ v (G6 hv);rwa[Í,kb]at this
   .simp at h
  .simp at h
 |ip ls=>
  obtain⟨g,o,cs,hu,ha,hl⟩:=hx;simp only[pd]at h;refine fin g o _ (cs.take ti.size) hu h ((ri ha).take ti.size) (λu hu=>?_) (λj v hv=>?_)
  .obtain⟨x,_,hx⟩:=ha.mem_right u (qq hu);exact Rep.one _ _ _ hx u ae
  .rw[qp]at hv;split at hv
   .exact(hl j v hv).2
   .simp at hv
 |_=>simp[pd]at h
theorem ľ{P:Á}{T:H->F TyI}(hT:cJ P T){f:Field}{tf:TyI}(hf:T f.type=D tf)(hs:0<tf.size)(g o:H) :
  (fieldPlace ⟨g,o,B⟩ f).run P w = .ok ⟨g,o+f.offset,B⟩ w:=by
 have h0:tf.size≠0:=aa;simp only[fieldPlace,Z,jJ hT hf,W,Ø,if_neg h0,Â,Í]
theorem Dn{rd:H->BS}{k:H}(h:isLive (rd k)=U):∃b,rd k = .live b:=by
 revert h
 cases rd k<;>simp[isLive]
theorem Ŀ{P:Á}{E:Env}(hT:cJ P E.T){rd:H->BS}(aZ:RdOk σ rd){t:È}{ti:TyI}(ht:E.T t=D ti){i:H}{x l:Leaf}{u:O}
  (h:p9 rd ti i x=D l)(hx:bF S w γ σ.bx x u) :
  ∃z,(ä t u i).run P w = .ok z w/\bF S w γ σ.bx l z/\One z:=by
 have fin:∀(g o:H)(f:H×H),u = .pointer (D ⟨g,o,B⟩)->ti.flds[i]? = D f->
   (ä t u i).run P w = .ok (.pointer (D ⟨g,o+f.1,B⟩)) w:=by
  intro g o f hu hf;obtain⟨fs,hd,fl,fB,uc,bG,tf,wg,hs⟩:=T3 hT ht hf;subst hu;simp only[ä,Z,run_underlying hd,W,fB,Ô,Â,ľ hT (bG▸wg) hs,uc]
 cases x with
 |bp k o=>
  obtain⟨fT,_,hb⟩:=hx;simp only[p9]at h;split at h
  .rename_i f hf;split at h
   .rename_i hl;simp at h;subst h;obtain⟨b,hk⟩:=Dn hl;obtain⟨g,hg,hu⟩:=hb b (aZ.live hk);exact⟨_,fin g o f hu hf,⟨fT,rfl,λb' aU=>by obtain⟨g',aC,eb⟩:=hb b' aU;rw[hu]at eb;simp at eb;subst eb;exact⟨g,aC,rfl⟩⟩,rfl⟩
   .simp at h
  .simp at h
 |ep k j o=>
  obtain⟨fT,_,hb⟩:=hx;simp only[p9]at h;split at h
  .rename_i f hf;split at h
   .rename_i hl;simp at h;subst h;obtain⟨b,hk⟩:=Dn hl;have h0:=hb b (aZ.live hk);have dm:=aZ.live hk;cases b with
    |cell _ _=>exact h0.elim
    |lst e el xs frz=>obtain⟨ca,hi,g,cap,hg,hu⟩:=h0;refine⟨_,fin g _ f hu hf,⟨fT,rfl,λb' aU=>?_⟩,rfl⟩;rw[dm]at aU;cases aU;exact⟨ca,hi,g,cap,hg,by rw[ze]⟩
    |arr n el xs=>obtain⟨hi,g,hg,hu⟩:=h0;refine⟨_,fin g _ f hu hf,⟨fT,rfl,λb' aU=>?_⟩,rfl⟩;rw[dm]at aU;cases aU;exact⟨hi,g,hg,by rw[ze]⟩
    |row e el n ls=>obtain⟨ca,hi,g,cap,hg,hu⟩:=h0;refine⟨_,fin g _ f hu hf,⟨fT,rfl,λb' aU=>?_⟩,rfl⟩;rw[dm]at aU;cases aU;exact⟨ca,hi,g,cap,hg,by rw[ze]⟩
   .simp at h
  .simp at h
 |ip ls=>
  obtain⟨g,o,cs,hu,ha,hl⟩:=hx;simp only[p9]at h;split at h
  .rename_i f hf;simp at h;subst h;refine⟨_,fin g o f hu hf,⟨g,o+f.1,cs.drop f.1,rfl,ha.drop f.1,λj v hv=>?_⟩,rfl⟩;rw[Ö]at hv;have:=hl _ v hv;rwa[<-ze]at this
  .simp at h
 |_=>simp[p9]at h
theorem wi{i:Ä}{n:H}:inR i n=U↔0<=i/\i<n:=by simp[inR]
theorem G8{P:Á}{T:H->F TyI}(hT:cJ P T){t:È}{ti:TyI}(ht:T t=D ti){a':Ty}{k:Î}{i:Ä}{len cap g o:H}(bG:ti.ty=D (.list a'))(hi:0<=i/\i<len) :
  (Ò t (.slice (D ⟨g,o,B⟩) len cap) (.int k i)).run P w = .ok (.pointer (D ⟨g,o+i.toNat*a'.size,B⟩)) w:=by
 obtain⟨hd,_,te,dy,cR⟩:=nN hT ht bG;have hs:=mG hT dy cR;simp only[Ò,asIntOf,Z,Â,W,run_underlying hd,Ø,if_pos hi,jJ hT dy,hs,Í]
theorem Ug{P:Á}{T:H->F TyI}(hT:cJ P T){t:È}{ti:TyI}(ht:T t=D ti){n:H}{a':Ty}{k:Î}{i:Ä}{g o:H}(bG:ti.ty=D (.arr n a'))(hi:0<=i/\i<n) :
  (Ò t (.pointer (D ⟨g,o,B⟩)) (.int k i)).run P w = .ok (.pointer (D ⟨g,o+i.toNat*a'.size,B⟩)) w:=by
 obtain⟨hd,_,te,dy,cR⟩:=Bi hT ht bG;have hs:=mG hT dy cR;simp only[Ò,asIntOf,Z,Â,W,run_underlying hd,Ô,Ø,if_pos hi,jJ hT dy,hs,Í]
theorem LD{t:F Ty}(h:oF t=U):∃a,t=D (.list a):=by
 unfold oF at h;split at h
 .exact⟨_,rfl⟩
 .simp at h
theorem ŀ{P:Á}{E:Env}(hT:cJ P E.T)(hR:Rel N np S0 w0 refs σ a w S γ){rd:H->BS}(aZ:RdOk σ rd){t:È}{ti:TyI}(ht:E.T t=D ti)
  {x y l:Leaf}{u v:O}(h:tR rd ti x y=D (U,l))(hx:bF S w γ σ.bx x u)(hy:bF S w γ σ.bx y v) :
  ∃z,(Ò t u v).run P w = .ok z w/\bF S w γ σ.bx l z/\One z:=by
 unfold tR at h;split at h
 .rename_i k kd i;have hv:v = .int kd i:=pq (S:=S) (w:=w) hy;subst hv;split at h
  .rename_i e el xs frz hk;split at h
   .rename_i bG;simp only[j5,j9]at h;obtain⟨hi,rfl⟩:=h;have bY:=wi.1 hi;have ca:=aZ.nm hk;have hk:=aZ.live hk;have hu:=hx.2.2 _ hk;obtain⟨css,aQ,_⟩:=iY ca (hR.box k _ hk);rcases aQ.2 with⟨_,hz⟩|⟨g,cap,cur,hg,_,hh,_⟩
    .omega
    .rw[hu,hg];refine⟨_,G8 hT ht bG bY,⟨hx.1,rfl,λb hb=>?_⟩,rfl⟩;rw[hk]at hb;cases hb;exact⟨ca,aa,g,cap,hg,ae⟩
   .simp at h
  .rename_i e el n ls hk;split at h
   .rename_i bG;simp only[j5,j9]at h;obtain⟨hi,rfl⟩:=h;have bY:=wi.1 hi;have hk:=aZ.live hk;have hu:=hx.2.2 _ hk;obtain⟨ca,⟨cs,aQ,_,_⟩,_⟩:=hR.box k _ hk;rcases aQ.2 with⟨_,hz⟩|⟨g,cap,cur,hg,_,hh,_⟩
    .omega
    .have hj:cond (à n 1) 0 (Ã i)=i.toNat:=by
      cases hb:à n 1 with
      |true=>have:=Nat.eq_of_beq_eq_true hb;simp only[j6];omega
      |false=>rfl
     rw[hu,hg,hj];refine⟨_,G8 hT ht bG bY,⟨hx.1,rfl,λb hb=>?_⟩,rfl⟩;rw[hk]at hb;cases hb;exact⟨ca,aa,g,cap,hg,ae⟩
   .simp at h
  .simp at h
 .rename_i el xs kd i;have hv:v = .int kd i:=pq (S:=S) (w:=w) hy;subst hv;split at h
  .rename_i bG;simp only[j5,j9]at h;obtain⟨hi,rfl⟩:=h;have bY:=wi.1 hi;obtain⟨ad,cap,hu,hle,iK,hn,hb⟩:=hx;simp at hu;subst hu;cases ad with
   |none=>have:=hn rfl;omega
   |some b=>obtain⟨dE,css,ha,hl⟩:=hb b rfl;obtain⟨g,o,sp⟩:=b;have dE:=dE (λe=>by rw[e]at bY;simp at bY;omega);simp at dE;subst dE;refine⟨_,G8 hT ht bG bY,?_,rfl⟩;obtain⟨c,h1,h2,h3⟩:=xS (λx c hx=>Rep.length el x c hx) ha i.toNat el.dflt aa;exact⟨g,_,c,rfl,pr el _ c h2,λj v hv=>by rw[ze];exact hl _ v (h3 j v hv)⟩
  .simp at h
 .rename_i k kd i;have hv:v = .int kd i:=pq (S:=S) (w:=w) hy;subst hv;split at h
  .rename_i n el xs hk;split at h
   .rename_i bG;simp only[j5,j9]at h;obtain⟨hi,rfl⟩:=h;have bY:=wi.1 hi;have hk:=aZ.live hk;obtain⟨g,hg,hu⟩:=hx.2.2 _ hk;subst hu;refine⟨_,Ug hT ht bG bY,⟨hx.1,rfl,λb hb=>?_⟩,rfl⟩;rw[hk]at hb;cases hb;exact⟨aa,g,hg,ae⟩
   .simp at h
  .rename_i ls frz hk;split at h
   .rename_i n el bG;split at h
    .rename_i gS;simp only[j5,j9]at h;obtain⟨hi,rfl⟩:=h;have bY:=wi.1 hi;have hk:=aZ.live hk;obtain⟨g,hg,hu⟩:=hx.2.2 _ hk;subst hu;obtain⟨a',qC⟩:=LD gS;cases qC;refine⟨_,Ug hT ht bG bY,⟨hx.1,rfl,λb hb=>?_⟩,rfl⟩;exact⟨g,hg,by simp[Ty.size]⟩
    .simp at h
   .simp at h
  .simp at h
 .rename_i k j kd i;have hv:v = .int kd i:=pq (S:=S) (w:=w) hy;subst hv;split at h
  .rename_i e el xs frz hk;split at h
   .rename_i bG;simp only[j5,j9]at h;obtain⟨hi,rfl⟩:=h;have bY:=wi.1 hi;have ca:=aZ.nm hk;have hk:=aZ.live hk;obtain⟨_,hj,ad,ik,aC,hu⟩:=hx.2.2 _ hk;obtain⟨css,aQ,_⟩:=iY ca (hR.box k _ hk);rcases aQ.2 with⟨_,hz⟩|⟨g,cap,cur,hg,_,hh,kJ,_⟩
    .omega
    .rw[hg]at aC;simp only[Value.slice.injEq,q7]at aC;obtain⟨rfl,rfl⟩:=aC;rw[if_neg (show¬cap=j by omega)]at hu;simp only[kn,Í,kb]at hu;subst hu;refine⟨_,G8 hT ht bG bY,⟨hx.1,rfl,λb hb=>?_⟩,rfl⟩;rw[hk]at hb;cases hb;refine⟨ca,aa,g,cap,hg,?_⟩;simp[ï]
   .simp at h
  .simp at h
 .simp at h
theorem LF{P:Á}{T:H->F TyI}(hT:cJ P T){n:H}{ti:TyI}(hn:T n=D ti)(ht:ti.ty=D .str):P.underlying n=D .string:=by
 obtain⟨i,d,hi,hd,hs,_,ha,_,h⟩:=nu hT hn;have:=(h _ ht).2.2;cases d<;>simp_all[lN,Ty.agg]
theorem Ł{P:Á}{E:Env}(hT:cJ P E.T){t:H}{ti:TyI}(ht:E.T t=D ti)(bG:ti.ty=D .str)(s:Ë)(kd:Î)(j:Ä)(hj:inR j s.size=U) :
  (â t (.string s) (.int kd j)).run P w = .ok (.int .u8 (dY s j)) w:=by
 have hd:=LF hT ht bG;have hi:=wi.1 hj;have aq:j.toNat<s.size:=aa;have fv:j.toNat<s.data.size:=aq;have hg:s[j.toNat]? = D s[j.toNat]:=by simp[aq]
 simp only[â,Z,asIntOf,Â,W,run_underlying hd];rw[if_pos hi.1,hg];simp only[Â];congr 2;unfold dY;have:s.data.getD j.toNat 0=s.data[j.toNat]:=by rw[vi,jt fv];rfl
 rw[this];rfl
theorem ł{P:Á}{E:Env}(hT:cJ P E.T){bx:H->BS}{t:È}{ti:TyI}(ht:E.T t=D ti)
  {c c':Cel}{y:Leaf}{u v:O}(h:idxV ti c y=D (U,c'))(hc:bQ S w γ bx c u)(hy:bF S w γ bx y v) :
  ∃z,(â t u v).run P w = .ok z w/\bQ S w γ bx c' z:=by
 unfold idxV at h;split at h
 .rename_i n el xs kd i;have hv:v = .int kd i:=pq (S:=S) (w:=w) hy;subst hv;split at h
  .rename_i bG;simp only[j5,j9]at h;obtain⟨hi,rfl⟩:=h;have bY:=wi.1 hi;obtain⟨cs,rfl,hn,css,ha,he⟩:=hc;obtain⟨hd,bK,te,dy,cR⟩:=Bi hT ht bG;have cm:=mG hT dy cR;obtain⟨c,h1,h2,h3⟩:=xS (λx c hx=>Rep.length el x c hx) ha i.toNat el.dflt aa;have dR:=Rep.length el _ c h2
   have hex:∀j,j<te.size->cs.toList[i.toNat*el.size+j]? = c[j]? := by
    intro j hj;rw[he];have:c[j]? = D c[j]:=jo aa;rw[this];exact h3 j _ this
   obtain⟨ii,dd,Uh,nP,_,_,nO,_,h9⟩:=nu hT dy
   have rj:∃z,(part ti.elem cs (i.toNat*te.size)).run P w = .ok z w/\bQ S w γ bx (pb el (xs.getD i.toNat el.dflt)) z:=by
    have fe:=(h9 _ cR).2.2;rw[<-cm];by_cases nQ:te.agg=U
    .refine⟨.agg (cs.extract (i.toNat*el.size) (i.toNat*el.size+te.size)),?_,?_⟩
     .simp only[part,Z,Bh hT dy,nQ,W,if_true,jJ hT dy,Â]
     .have kC:(cs.extract (i.toNat*el.size) (i.toNat*el.size+te.size))=c.toArray:=by
       apply vf;simp only[Array.toList_extract,List.extract_eq_take_drop];apply vu;intro j;rw[qp];split
       .rename_i hj;rw[Ö];exact hex j aa
       .rename_i hj;exact(qf aa).symm
      rw[kC];refine LB el _ c _ h2 (λ_=>rfl) (λhf Ń=>?_);exfalso;rw[nQ]at nO;cases dd with
      |struct fs=>simp[lN]at fe;rw[fe]at hf;simp at hf
      |array m e=>cases el<;>simp[lN]at fe;exact Ń _ _ rfl
      |_=>simp[aggD]at nO
    .have hf:te.agg=false:=by simpa using nQ
     have gp:el.agg=J/\∀n a,el ≠ .arr n a:=by
      rw[hf]at nO;cases dd with
      |struct fs=>simp[aggD]at nO
      |array m e=>simp[aggD]at nO
      |int k=>simp[lN]at fe;subst fe;exact⟨rfl,ae⟩
      |bool=>simp[lN]at fe;subst fe;exact⟨rfl,ae⟩
      |string=>simp[lN]at fe;subst fe;exact⟨rfl,ae⟩
      |slice e=>cases el<;>simp[lN]at fe;exact⟨rfl,ae⟩
      |_=>simp[lN]at fe
     have cZ:∃z,c=[z]:=by
      have:el.size=1:=by cases el<;>first|rfl|(exfalso;simp[Ty.agg]at gp)
      rw[this]at dR;exact List.length_eq_one_iff.1 dR
     obtain⟨z,rfl⟩:=cZ;have hz:cs[i.toNat*el.size]? = D z:=by have:=hex 0 aa;simpa using this
     refine⟨z,?_,LB el _ [z] z h2 (λho=>?_) (λ_ _=>rfl)⟩
     .simp only[part,Z,Bh hT dy,hf,W,ku,qz,hz,Â]
     .rcases ho with ho|⟨n,a,ho⟩
      .rw[gp.1]at ho;simp at ho
      .exact absurd ho (gp.2 _ _)
   obtain⟨z,hz,iL⟩:=rj;refine⟨z,?_,iL⟩;simp only[â,asIntOf,Z,Â,W,run_underlying hd,Ø,if_pos bY,jJ hT dy,hz]
  .simp at h
 .rename_i s kd i;have hv:v = .int kd i:=pq (S:=S) (w:=w) hy;subst hv;split at h
  .rename_i bG;simp only[j5,j9]at h;obtain⟨hi,rfl⟩:=h;have hu:u = .string s:=Dm (S:=S) (w:=w) hc.1;subst hu;exact⟨_,Ł hT ht bG s kd i hi,rfl,λ_=>rfl⟩
  .simp at h
 .simp at h
theorem ń{P:Á}{E:Env}(hT:cJ P E.T)(hR:Rel N np S0 w0 refs σ a w S γ){rd:H->BS}(aZ:RdOk σ rd){t ty:È}{ti:TyI}(ht:E.T t=D ti){x l:Leaf}{u:O}
  (h:lenC rd ti.ty x=D l)(hx:bF S w γ σ.bx x u):∃z,(ß #[t] ty #[u]).run P w = .ok z w/\bF S w γ σ.bx l z/\One z:=by
 have sl:∀(ad:F Addr)(n c:H),oF ti.ty=U->(ß #[t] ty #[.slice ad n c]).run P w = .ok (.int .i64 n) w:=by intro ad n c hl;obtain⟨a',bG⟩:=LD hl;obtain⟨hd,_⟩:=nN hT ht bG;simp[ß,run_underlying hd,goInt]
 unfold lenC at h;split at h
 .split at h
  .rename_i hl;simp at h;subst h;have hu:u = .slice B 0 0:=hx;subst hu;exact⟨_,sl B 0 0 hl,rfl,rfl⟩
  .simp at h
 .rename_i k;split at h
  .rename_i e el xs frz hk;split at h
   .rename_i hl;simp at h;subst h;have ca:=aZ.nm hk;have hk:=aZ.live hk;have hu:=hx.2.2 _ hk;obtain⟨css,aQ,_⟩:=iY ca (hR.box k _ hk);rcases aQ.2 with⟨hg,hz⟩|⟨g,cap,cur,hg,_⟩
    .rw[hu,hg,hz];exact⟨_,sl _ _ _ hl,rfl,rfl⟩
    .rw[hu,hg];exact⟨_,sl _ _ _ hl,rfl,rfl⟩
   .simp at h
  .rename_i e el n ls hk;split at h
   .rename_i hl;simp at h;subst h;have hk:=aZ.live hk;have hu:=hx.2.2 _ hk;obtain⟨ca,⟨cs,aQ,_,_⟩,_⟩:=hR.box k _ hk;rcases aQ.2 with⟨hg,hz⟩|⟨g,cap,cur,hg,_⟩
    .rw[hu,hg,hz];exact⟨_,sl _ _ _ hl,rfl,rfl⟩
    .rw[hu,hg];exact⟨_,sl _ _ _ hl,rfl,rfl⟩
   .simp at h
  .simp at h
 .rename_i el xs;split at h
  .rename_i hl;simp at h;subst h;obtain⟨ad,cap,hu,_⟩:=hx;simp at hu;subst hu;exact⟨_,sl _ _ _ hl,rfl,rfl⟩
  .simp at h
 .rename_i s;split at h
  .rename_i bG;simp at h;subst h;have hu:u = .string s:=Dm (S:=S) (w:=w) hx;subst hu;have hd:=LF hT ht bG;exact⟨_,by simp[ß,run_underlying hd,goInt],rfl,rfl⟩
  .simp at h
 .rename_i k j;split at h
  .rename_i e el xs frz hk;split at h
   .rename_i hl;simp at h;subst h;have hk:=aZ.live hk;obtain⟨_,hj,ad,ik,aC,hu⟩:=hx.2.2 _ hk;rw[hu];refine⟨_,sl _ _ _ hl,?_,rfl⟩;show [Value.int .i64 _]=[Value.int .i64 _];congr 2
   .simp at h
  .simp at h
 .rename_i k j;split at h
  .rename_i e el xs frz hk;split at h
   .rename_i hl;simp at h;subst h;have hk:=aZ.live hk;obtain⟨_,hj,ad,ik,aC,hu⟩:=hx.2.2 _ hk;rw[hu];exact⟨_,sl _ _ _ hl,rfl,rfl⟩
   .simp at h
  .simp at h
 .simp at h
end
section
variable{N:NT}{np:H}{S0:aY}{w0:À}{refs:Refs}{σ:St}{a:Ý}{w:À}{S:aY}{γ:H->O}
theorem Rel.step(hR:Rel N np S0 w0 refs σ a w S γ){bx':H->BS}{w':À}{S':aY}{γ':H->O}(hk:dH S w S' w')(hb:BxLe γ σ.bx γ' bx')
   (box:∀k b,bx' k = .live b->eZ S' w' γ' bx' k b)(own:∀k b g,bx' k = .live b->blk (γ' k)=D g->Own w0 refs g\/(g∈refs/\parK np k=U))
   (apart:∀k k' b b' g,k≠k'->bx' k = .live b->bx' k' = .live b'->blk (γ' k)=D g->blk (γ' k')≠D g)
   (new:∀g o,S' g o->S0 g o\/Own w0 refs g)(here:∀g o,S' g o->g<w'.heap.size)(below:∀g,g<w0.heap.size->g∉refs->w'.heap[g]? = w0.heap[g]?)
   (grow:w0.heap.size<=w'.heap.size)(os:w'.os=w0.os)(tape:w'.tape=w0.tape)(output:w'.output=w0.output)
   (kept:∀g,g<w.heap.size->refs.kw g≠B->(∀k b,σ.bx k = .live b->blk (γ k)≠D g)->w'.heap[g]? = w.heap[g]? /\ ∀k b,bx' k = .live b->blk (γ' k)≠D g) :
   Rel N np S0 w0 refs { σ with bx:=bx' } a w' S' γ':=
 ⟨hR.size,hR.defers,λi=>iA.keep hk hb (hR.slot i),box,own,apart,λg o h=>(hk g o (hR.ext g o h)).1,new,here,below,grow,os,tape,output,λk v h=>⟨(hR.par k v h).1,(hb k (hR.par k v h).2.1).1,(hb k (hR.par k v h).2.1).2.1.trans (hR.par k v h).2.2⟩,
  λg o h=>by
   obtain⟨h1,h2⟩:=hR.kept g o h;obtain⟨h3,h4⟩:=kept g (jh.1 h1).1 (by rw[h];simp) h2;exact⟨h3.trans h1,h4⟩,hR.fix⟩
theorem eZ.keep{S':aY}{w':À}{γ':H->O}{bx bx':H->BS}(hk:dH S w S' w')(hb:BxLe γ bx γ' bx'){k:H}{b:Bx}(hg:γ' k=γ k)
  (hblk:∀g,blk (γ k)=D g->w'.heap[g]? = w.heap[g]? /\ ∀o,S' g o↔S g o)(h:eZ S w γ bx k b):eZ S' w' γ' bx' k b:=by
 cases b with
 |cell ls frz=>obtain⟨g,cur,e,h1,h2,h3,h4,h5,h6⟩:=h;obtain⟨e1,e2⟩:=hblk g (by rw[h1];rfl);exact⟨g,cur,e,hg.trans h1,e1.trans h2,h3.mono (λx u hx=>bF.keep hk hb hx),h4,λhf o hs=>h5 hf o ((e2 o).1 hs),λhf o ho=>(e2 o).2 (h6 hf o ho)⟩
 |lst e t xs frz=>
  obtain⟨h1,h3⟩:=h;refine⟨?_,λg aC=>?_⟩
  .rw[hg];exact h1.keep hk λg aC=>(hblk g aC).1
  .rw[hg]at aC;obtain⟨e1,e2⟩:=hblk g aC;obtain⟨h4,h5⟩:=h3 g aC;exact⟨λhf o hs=>h4 hf o ((e2 o).1 hs),λhf o=>(e2 o).trans (h5 hf o)⟩
 |arr n t xs=>obtain⟨g,cur,e,h1,h2,h3,h4⟩:=h;obtain⟨e1,e2⟩:=hblk g (by rw[h1];rfl);exact⟨g,cur,e,hg.trans h1,e1.trans h2,Rep.keep hk _ _ _ h3,λo hs=>h4 o ((e2 o).1 hs)⟩
 |row e t n ls=>
  obtain⟨hm,⟨cs,h1,h2,h3⟩,h4⟩:=h;refine⟨hm,⟨cs,⟨h1.1,?_⟩,h2.mono (λx u hx=>bF.keep hk hb hx),h3⟩,λg aC o hs=>?_⟩
  .rw[hg];rcases h1.2 with hn|⟨g,cap,cur,hv,fA,hh,rest⟩
   .exact .inl hn
   .exact .inr ⟨g,cap,cur,hv,fA,(hblk g (by rw[hv];rfl)).1.trans hh,rest⟩
  .rw[hg]at aC;exact h4 g aC o (((hblk g aC).2 o).1 hs)
theorem fD(σ:St)(k:H)(b:BS):(σ.setB k b).bx k=b:=by simp[St.setB]
theorem cE(σ:St){k k':H}(b:BS)(h:k'≠k):(σ.setB k b).bx k'=σ.bx k':=by simp[St.setB,h]
theorem Ņ(hR:Rel N np S0 w0 refs σ a w S γ){k e:H}{t:Ty}{xs:I t.den}{f:X}(hm:isM e=J)(hk:σ.bx k = .live (.lst e t xs f)){S':aY}{w':À}(aV:dH S w S' w')
  (hs:∀g o,blk (γ k)=D g->o<xs.length*t.size->S' g o/\w'.cell? ⟨g,o,B⟩=w.cell? ⟨g,o,B⟩):Rep S' w' (.list t) xs [γ k]:=by
 obtain⟨css,aQ,ha,_⟩:=iY hm (hR.box k _ hk);rcases aQ.2 with⟨hg,hz⟩|⟨g,cap,cur,hg,_,hh,hle,iK,c9,dS⟩
 .refine⟨B,0,?_,?_,?_,λ_=>rfl,λb hb=>by simp at hb⟩
  .rw[hg];show [Value.slice B 0 0]=[Value.slice B (Å xs) 0];rw[show Å xs=0 from hz]
  .show Å xs<=0;rw[show Å xs=0 from hz];exact jq _
  .simp[maxLen]
 .refine⟨D ⟨g,0,B⟩,cap,by rw[hg],hle,iK,ae,λb hb=>?_⟩;simp at hb;subst hb;refine⟨λ_=>rfl,css,ha.mono (λx c hx=>Rep.keep aV _ _ _ hx),λj v hv=>?_⟩;have hlen:=All2.flatten_length (λx c hx=>Rep.length t x c hx) ha;have hj:j<xs.length*t.size:=by rw[<-hlen];exact(List.getElem?_eq_some_iff.1 hv).1
  obtain⟨h1,h2⟩:=hs g j (by rw[hg];rfl) hj;simp only[kb];refine⟨h1,h2.trans ?_⟩;have:=aQ.cells (g:=g) (by rw[hg];rfl) j v hv;rwa[Í,kb]at this
theorem LG(hR:Rel N np S0 w0 refs σ a w S γ){k e:H}{t:Ty}{xs:I t.den}{f:X}(hm:isM e=J)(hk:σ.bx k = .live (.lst e t xs f))(hp:parK np k=J) :
  ∃S',Rel N np S0 w0 refs (σ.setB k (.live (.lst e t xs U))) a w S' γ/\dH S w S' w/\Rep S' w (.list t) xs [γ k]:=by
 let S':aY:=λg o=>S g o\/(blk (γ k)=D g/\o<xs.length*t.size)
 have aV:dH S w S' w:=λg o h=>⟨.inl h,rfl⟩;have rk:Rep S' w (.list t) xs [γ k]:=Ņ hR hm hk aV (λg o hb ho=>⟨.inr ⟨hb,ho⟩,rfl⟩)
 have Dp:BxLe γ σ.bx γ (σ.setB k (.live (.lst e t xs U))).bx:=by
  intro k' bn;by_cases cg:k'=k
  .subst cg;rw[fD];exact⟨ae,rfl,λb hb=>by simp at hb;subst hb;exact⟨_,hk,rfl,rfl,λ_=>rfl⟩⟩
  .rw[cE σ _ cg];exact⟨bn,rfl,λb hb=>⟨b,hb,.refl b⟩⟩
 have bS:∀k' b,(σ.setB k (.live (.lst e t xs U))).bx k' = .live b->∃b',σ.bx k' = .live b':=by
  intro k' b hb;by_cases cg:k'=k
  .subst cg;exact⟨_,hk⟩
  .rw[cE σ _ cg]at hb;exact⟨b,hb⟩
 refine⟨S',?_,aV,rk⟩
 have dn:∀k' b,(σ.setB k (.live (.lst e t xs U))).bx k' = .live b->eZ S' w γ (σ.setB k (.live (.lst e t xs U))).bx k' b:=by
  intro k' b hb;by_cases cg:k'=k
  .subst cg;rw[fD]at hb;simp at hb;subst hb;obtain⟨css,aQ,ha,hS⟩:=iY hm (hR.box k' _ hk);refine Bf hm ⟨css,aQ,ha.mono (λx c hx=>Rep.keep aV _ _ _ hx),λg hg=>⟨ae,λ_ o=>?_⟩⟩;obtain⟨h1,h2⟩:=hS g hg;constructor
   .intro hs;rcases hs with hs|hs
    .cases f with
     |false=>exact absurd hs (h1 rfl o)
     |true=>exact(h2 rfl o).1 hs
    .exact hs.2
   .exactλho=> .inr ⟨hg,ho⟩
  .rw[cE σ _ cg]at hb;refine eZ.keep aV Dp rfl (λg hg=>⟨rfl,λo=>⟨λhs=>?_,.inl⟩⟩) (hR.box k' b hb);rcases hs with hs|hs
   .exact hs
   .exact absurd hs.1 (hR.apart k' k b _ g cg hb hk hg)
 refine Rel.step hR aV Dp dn ?_ ?_ ?_ ?_ hR.below hR.grow hR.os hR.tape hR.output (λg _ _ h=>⟨rfl,λk' b' aU=>by obtain⟨b2,eI⟩:=bS k' b' aU;exact h k' b2 eI⟩)
 .intro k' b g hb hg;obtain⟨b',aU⟩:=bS k' b hb;exact hR.own k' b' g aU hg
 .intro k1 k2 b1 b2 g br h1 h2 hg;obtain⟨ud,nw⟩:=bS k1 b1 h1;obtain⟨ue,lP⟩:=bS k2 b2 h2;exact hR.apart k1 k2 ud ue g br nw lP hg
 .intro g o hs;rcases hs with hs|hs
  .exact hR.new g o hs
  .rcases hR.own k _ g hk hs.1 with h|h
   .exact .inr h
   .rw[hp]at h;simp at h
 .intro g o hs;rcases hs with hs|hs
  .exact hR.here g o hs
  .obtain⟨css,aQ,_⟩:=iY hm (hR.box k _ hk);rcases aQ.2 with⟨hn,_⟩|⟨g',cap,cur,hg,_,hh,_⟩
   .rw[hn]at hs;simp[blk]at hs
   .rw[hg]at hs;simp[blk]at hs;rw[<-hs.1];exact(jh.1 hh).1
def FrzL(np:H)(bx:H->BS)(u:Ups):Prop:=
 ∀x∈u,parK np x.1=J/\∃e t xs f,bx x.1 = .live (.lst e t xs f)/\x.2 = .live (.lst e t xs U)/\isM e=J
def Froz(bx:H->BS)(γ:H->O)(S:aY)(w:À)(u:Ups):Prop:=
 ∀x∈u,∀e t xs f,bx x.1 = .live (.lst e t xs f)->Rep S w (.list t) xs [γ x.1]
theorem FrzL.app{bx:H->BS}{u v:Ups}:FrzL np bx (u++v)↔FrzL np bx u/\FrzL np bx v:=by
 simp only[FrzL,jm];exact⟨λh=>⟨λx hx=>h x (.inl hx),λx hx=>h x (.inr hx)⟩,λh x hx=>hx.elim (h.1 x) (h.2 x)⟩
theorem Froz.app{bx:H->BS}{u v:Ups}:Froz bx γ S w (u++v)↔Froz bx γ S w u/\Froz bx γ S w v:=by
 simp only[Froz,jm];exact⟨λh=>⟨λx hx=>h x (.inl hx),λx hx=>h x (.inr hx)⟩,λh x hx=>hx.elim (h.1 x) (h.2 x)⟩
theorem FrzL.nil{bx:H->BS}:FrzL np bx []:=λ_ h=>by simp at h
theorem Froz.nil{bx:H->BS}:Froz bx γ S w []:=λ_ h=>by simp at h
theorem Froz.keep{bx:H->BS}{u:Ups}{S':aY}{w':À}(hk:dH S w S' w')(h:Froz bx γ S w u):Froz bx γ S' w' u:=
 λx hx e t xs f hb=>Rep.keep hk _ _ _ (h x hx e t xs f hb)
def mo(bx bx':H->BS):Prop:=
 ∀k,bx' k=bx k\/∃e t xs f f',bx k = .live (.lst e t xs f)/\bx' k = .live (.lst e t xs f')
theorem mo.refl(bx:H->BS):mo bx bx:=λ_=> .inl rfl
theorem mo.trans{b1 b2 b3:H->BS}(h:mo b1 b2)(h':mo b2 b3):mo b1 b3:=by
 intro k;rcases h k with e|⟨e,t,xs,f,f',h1,h2⟩
 .rcases h' k with e'|⟨e2,t,xs,f,f',h1,h2⟩
  .exact .inl (e'.trans e)
  .exact .inr ⟨e2,t,xs,f,f',e▸h1,h2⟩
 .rcases h' k with e'|⟨e2,t2,Ui,f2,ņ,h3,h4⟩
  .exact .inr ⟨e,t,xs,f,f',h1,e'.trans h2⟩
  .rw[h2]at h3;cases h3;exact .inr ⟨e,t,xs,f,ņ,h1,h4⟩
theorem mo.free{b1 b2:H->BS}(h:mo b1 b2){k:H}(hk:b1 k = .free):b2 k = .free:=by
 rcases h k with e|⟨e,t,xs,f,f',h1,h2⟩
 .rw[e,hk]
 .rw[h1]at hk;simp at hk
theorem mo.cell{b1 b2:H->BS}(h:mo b1 b2){k:H}{ls:I Leaf}{f:X}(hk:b1 k = .live (.cell ls f)):b2 k = .live (.cell ls f):=by
 rcases h k with e|⟨e,t,xs,f,f',h1,h2⟩
 .rw[e,hk]
 .rw[h1]at hk;simp at hk
theorem mo.arr{b1 b2:H->BS}(h:mo b1 b2){k n:H}{t:Ty}{xs:I t.den}(hk:b1 k = .live (.arr n t xs)):b2 k = .live (.arr n t xs):=by
 rcases h k with e|⟨e,t,xs,f,f',h1,h2⟩
 .rw[e,hk]
 .rw[h1]at hk;simp at hk
theorem mo.lst{b1 b2:H->BS}(h:mo b1 b2){k e:H}{t:Ty}{xs:I t.den}{f:X}(hk:b1 k = .live (.lst e t xs f)):∃f',b2 k = .live (.lst e t xs f'):=by
 rcases h k with e|⟨e,t,xs,f,f',h1,h2⟩
 .exact⟨f,by rw[e,hk]⟩
 .rw[h1]at hk;cases hk;exact⟨f',h2⟩
theorem mo.le{b1 b2:H->BS}(h:mo b1 b2):BxLe γ b1 γ b2:=by
 intro k hk;rcases h k with e|⟨e,t,xs,f,f',h1,h2⟩
 .rw[e];exact⟨hk,rfl,λb hb=>⟨b,hb,.refl b⟩⟩
 .rw[h2];exact⟨ae,rfl,λb hb=>by simp at hb;subst hb;exact⟨_,h1,rfl,rfl,λ_=>rfl⟩⟩
theorem uf:∀(u:Ups)(σ:St),(σ.upd u).sl=σ.sl
 |[],_=>rfl
 |e::u,σ=>uf u (σ.setB e.1 e.2)
theorem jK:∀(u v:Ups)(σ:St),σ.upd (u++v)=(σ.upd u).upd v
 |[],_,_=>rfl
 |e::u,v,σ=>jK u v (σ.setB e.1 e.2)
theorem nR:∀(u:Ups)(σ:St)(S:aY),Rel N np S0 w0 refs σ a w S γ->FrzL np σ.bx u->
  ∃S',Rel N np S0 w0 refs (σ.upd u) a w S' γ/\dH S w S' w/\Froz σ.bx γ S' w u/\mo σ.bx (σ.upd u).bx
 |[],σ,S,hR,_=>⟨S,hR,.refl S w,.nil,.refl _⟩
 |x::u,σ,S,hR,hf=>by
  obtain⟨hp,e,t,xs,f,hb,hx,hm⟩:=hf x ae;obtain⟨S1,bu,cS,qD⟩:=LG hR hm hb hp;rw[<-hx]at bu
  have lb:mo σ.bx (σ.setB x.1 x.2).bx:=by
   intro k;by_cases hk:k=x.1
   .subst hk;exact .inr ⟨e,t,xs,f,U,hb,by rw[fD,hx]⟩
   .exact .inl (cE σ _ hk)
  have nS:FrzL np (σ.setB x.1 x.2).bx u:=by intro y hy;obtain⟨G9,e',t',du,f',aU,Bl⟩:=hf y (by simp[hy]);obtain⟨f2,h2⟩:=lb.lst aU;exact⟨G9,e',t',du,f2,h2,Bl⟩
  obtain⟨S2,cI,dp,iC,mq⟩:=nR u _ S1 bu nS;refine⟨S2,cI,cS.trans dp,λy hy e' t' du f' aU=>?_,lb.trans mq⟩;rcases je.1 hy with rfl|hy
  .rw[hb]at aU;cases aU;exact Rep.keep dp _ _ _ qD
  .obtain⟨f2,h2⟩:=lb.lst aU;exact iC y hy e' t' du f2 h2
def RdF(np:H)(σ:St)(rd:H->BS):Prop:=(∀k,(rd k=σ.bx k/\parK np k=J)\/rd k = .gone)/\NoM rd
theorem RdF.ok{rd:H->BS}(h:RdF np σ rd):RdOk σ rd:=⟨λk=>(h.1 k).imp (·.1) id,h.2⟩
theorem RdF.par{rd:H->BS}(h:RdF np σ rd){k:H}{b:Bx}(hk:rd k = .live b):parK np k=false:=by
 rcases h.1 k with h|h
 .exact h.2
 .rw[h]at hk;simp at hk
def wj(S:aY)(w:À)(γ:H->O)(bx:H->BS):Prop:=∀k b,bx k = .live b->eZ S w γ bx k b
theorem Ň{rd:H->BS}(aZ:RdF np σ rd)(hB:wj S w γ σ.bx){t:Ty}{l:Leaf}{v:t.den}{u:Ups}{z:O}(h:kY rd t l=D (v,u))(hl:bF S w γ σ.bx l z) :
  FrzL np σ.bx u/\∀S' w',dH S w S' w'->Froz σ.bx γ S' w' u->Rep S' w' t v [z]:=by
 unfold kY at h;split at h
 .split at h
  .rename_i t' v' v'' iD;simp only[j5,j9]at h;obtain⟨rfl,rfl⟩:=h;have:=nv iD;cases this;exact⟨.nil,λS' w' hk _=>Rep.keep hk _ _ _ hl⟩
  .simp at h
 .split at h
  .simp only[j5,j9]at h;obtain⟨rfl,rfl⟩:=h;have hz:z = .slice B 0 0:=hl;subst hz;exact⟨.nil,λS' w' _ _=>⟨B,0,rfl,jq _,by simp[maxLen],λ_=>rfl,λb hb=>by simp at hb⟩⟩
  .simp at h
 .rename_i k;split at h
  .rename_i e el xs f hk;split at h
   .rename_i v' iD;simp only[j5,j9]at h;obtain⟨rfl,rfl⟩:=h;have:=nv iD;cases this;have bn:=aZ.ok.live hk;refine⟨λx hx=>?_,λS' w' _ hf=>?_⟩
    .have ny:=ki.1 hx;subst ny;exact⟨aZ.par hk,e,el,xs,f,bn,rfl,aZ.ok.nm hk⟩
    .have:=hf (k,_) (ki.2 rfl) e el xs f bn;rw[hl.2.2 _ bn];exact this
   .simp at h
  .simp at h
 .simp at h
theorem Dq{n cap:H}{ad:F Addr}(h1:n<=cap)(h2:cap<=maxLen)(h3:ad=B->cap=0)(h4:∀b,ad=D b->n≠0->b.spot=B){t:Ty}{v:t.den}(hv:hdr t n=D v):Rep S w t v [.slice ad n cap]:=by
 unfold hdr at hv;split at hv
 .simp only[j5]at hv;subst hv;have hl:(Ç n ()).length=n:=zi ..;refine⟨ad,cap,by rw[hl],by rw[hl];exact h1,h2,h3,λb hb=>⟨λbr=>h4 b hb (λh0=>br (by rw[h0];rfl)),Ç n [],?_,?_⟩⟩
  .clear hl h1 h4;induction n with
   |zero=>trivial
   |succ n ih=>exact⟨rfl,ih⟩
  .have:(Ç n ([]:I O)).flatten=[]:=by
    clear hl h1 h4;induction n with
    |zero=>rfl
    |succ n ih=>rw[List.replicate_succ,kq,ih];rfl
   rw[this];intro j v hj;simp at hj
 .simp at hv
theorem ň{rd:H->BS}(aZ:RdF np σ rd)(hB:wj S w γ σ.bx){t:Ty}{l:Leaf}{v:t.den}{z:O}(h:mn rd t l=D v)(hl:bF S w γ σ.bx l z):∀S' w',Rep S' w' t v [z]:=by
 intro S' w';unfold mn at h;split at h
 case h_2=>simp at h
 rename_i n hn;unfold lenL at hn;split at hn
 .simp at hn
 .simp only[j5]at hn;subst hn;obtain⟨ad,cap,hz,h1,h2,h3,h4⟩:=hl;cases hz;exact Dq h1 h2 h3 (λb hb br=>(h4 b hb).1 (λh0=>br (by rw[h0];rfl))) h
 .split at hn
  .rename_i k _ e a xs f hk;simp only[j5]at hn;subst hn;have bn:=aZ.ok.live hk;obtain⟨css,aQ,_,_⟩:=iY (aZ.ok.nm hk) (hB k _ bn);have hz:z=γ k:=hl.2.2 _ bn;rw[hz];rcases aQ.2 with⟨hs,iE⟩|⟨g,cap,cur,hs,_,hh,hle,iK,_⟩
   .rw[hs];rw[iE]at h;exact Dq (jq _) (by simp[maxLen]) (λ_=>rfl) (λb hb=>by simp at hb) h
   .rw[hs];exact Dq hle iK (λh0=>by simp at h0) (λb hb _=>by simp at hb;subst hb;rfl) h
  .rename_i k _ e a n' ls hk;simp only[j5]at hn;subst hn;have bn:=aZ.ok.live hk;obtain⟨_,⟨cs,aQ,_,_⟩,_⟩:=hB k _ bn;have hz:z=γ k:=hl.2.2 _ bn;rw[hz];rcases aQ.2 with⟨hs,iE⟩|⟨g,cap,cur,hs,_,hh,hle,iK,_⟩
   .rw[hs];rw[iE]at h;exact Dq (jq _) (by simp[maxLen]) (λ_=>rfl) (λb hb=>by simp at hb) h
   .rw[hs];exact Dq hle iK (λh0=>by simp at h0) (λb hb _=>by simp at hb;subst hb;rfl) h
  .simp at hn
 .simp at hn
theorem wk{rd:H->BS}(aZ:RdF np σ rd)(hB:wj S w γ σ.bx){t:Ty}{l:Leaf}{v:t.den}{u:Ups}{z:O}(h:kG rd t l=D (v,u))(hl:bF S w γ σ.bx l z) :
  FrzL np σ.bx u/\∀S' w',dH S w S' w'->Froz σ.bx γ S' w' u->Rep S' w' t v [z]:=by
 unfold kG at h;split at h
 .rename_i v' hv;simp only[j5,j9]at h;obtain⟨rfl,rfl⟩:=h;exact⟨.nil,λS' w' _ _=>ň aZ hB hv hl S' w'⟩
 .exact Ň aZ hB h hl
theorem wm{rd:H->BS}(aZ:RdF np σ rd)(hB:wj S w γ σ.bx):∀(t:Ty){ls r:I Leaf}{v:t.den}{u:Ups}{zs:I O},gath rd t ls=D (v,r,u)->All2 (bF S w γ σ.bx) ls zs->
  FrzL np σ.bx u/\r=ls.drop t.size/\∀S' w',dH S w S' w'->Froz σ.bx γ S' w' u->Rep S' w' t v (zs.take t.size)
 |.unit,ls,r,v,u,zs,h,ha=>by
  simp only[gath,j5,j9]at h;obtain⟨_,rfl,rfl⟩:=h;exact⟨.nil,rfl,λS' w' _ _=>rfl⟩
 |.wrap b,ls,r,v,u,zs,h,ha=>by
  simp only[gath]at h;split at h
  .rename_i x r' u' hx;simp only[j5,j9]at h;obtain⟨rfl,rfl,rfl⟩:=h;exact wm aZ hB b hx ha
  .simp at h
 |.pair b c,ls,r,v,u,zs,h,ha=>by
  simp only[gath]at h;split at h
  .rename_i x r1 u1 hx;split at h
   .rename_i y r2 u2 hy;simp only[j5,j9]at h;obtain⟨rfl,rfl,rfl⟩:=h;obtain⟨f1,e1,p1⟩:=wm aZ hB b hx ha;have sY:All2 (bF S w γ σ.bx) r1 (zs.drop b.size):=by rw[e1];exact ha.drop _
    obtain⟨f2,e2,p2⟩:=wm aZ hB c hy sY;refine⟨FrzL.app.2 ⟨f1,f2⟩,?_,λS' w' hk hf=>?_⟩
    .rw[e2,e1,ã];rfl
    .obtain⟨nS,rm⟩:=Froz.app.1 hf;refine⟨zs.take b.size,(zs.drop b.size).take c.size,?_,p1 S' w' hk nS,p2 S' w' hk rm⟩;show zs.take (b.size+c.size)=_;rw[List.take_add]
   .simp at h
  .simp at h
 |.arr _ _,_,_,_,_,_,h,_=>by simp[gath]at h
 |.int k,l::ls,r,v,u,z::zs,h,ha=>by
  simp only[gath]at h;split at h
  .rename_i v' u' hv;simp only[j5,j9]at h;obtain⟨rfl,rfl,rfl⟩:=h;obtain⟨f,p⟩:=wk aZ hB hv ha.1;exact⟨f,rfl,p⟩
  .simp at h
 |.bool,l::ls,r,v,u,z::zs,h,ha=>by
  simp only[gath]at h;split at h
  .rename_i v' u' hv;simp only[j5,j9]at h;obtain⟨rfl,rfl,rfl⟩:=h;obtain⟨f,p⟩:=wk aZ hB hv ha.1;exact⟨f,rfl,p⟩
  .simp at h
 |.str,l::ls,r,v,u,z::zs,h,ha=>by
  simp only[gath]at h;split at h
  .rename_i v' u' hv;simp only[j5,j9]at h;obtain⟨rfl,rfl,rfl⟩:=h;obtain⟨f,p⟩:=wk aZ hB hv ha.1;exact⟨f,rfl,p⟩
  .simp at h
 |.list b,l::ls,r,v,u,z::zs,h,ha=>by
  simp only[gath]at h;split at h
  .rename_i v' u' hv;simp only[j5,j9]at h;obtain⟨rfl,rfl,rfl⟩:=h;obtain⟨f,p⟩:=wk aZ hB hv ha.1;exact⟨f,rfl,p⟩
  .simp at h
 |.int _,[],_,_,_,_,h,_=>by simp[gath]at h
 |.bool,[],_,_,_,_,h,_=>by simp[gath]at h
 |.str,[],_,_,_,_,h,_=>by simp[gath]at h
 |.list _,[],_,_,_,_,h,_=>by simp[gath]at h
 |.int _,_::_,_,_,_,[],_,ha=>ha.elim
 |.bool,_::_,_,_,_,[],_,ha=>ha.elim
 |.str,_::_,_,_,_,[],_,ha=>ha.elim
 |.list _,_::_,_,_,_,[],_,ha=>ha.elim
def cellsOf(u:O):I Value:=u.cells.toList
theorem Bm{u:O}(h:One u):u.cells.toList=[u]:=by
 cases u<;>first|rfl|simp[One,Value.oneCell']at h
theorem Uj(rd:H->BS):∀(t:Ty){ls r:I Leaf}{v:t.den}{u:Ups},gath rd t ls=D (v,r,u)->r.length+t.size=ls.length:=by
 intro t;induction t with
 |unit=>intro ls r v u h;simp only[gath,j5,j9]at h;rw[<-h.2.1];rfl
 |wrap a ih=>
  intro ls r v u h;simp only[gath]at h;split at h
  .rename_i x r' u' hx;simp only[j5,j9]at h;rw[<-h.2.1];exact ih hx
  .simp at h
 |pair a b sZ s9=>
  intro ls r v u h;simp only[gath]at h;split at h
  .rename_i x r1 u1 hx;split at h
   .rename_i y r2 u2 hy;simp only[j5,j9]at h;rw[<-h.2.1];have e1:=sZ hx;have e2:=s9 hy;simp only[Ty.size];omega
   .simp at h
  .simp at h
 |arr n a _=>intro ls r v u h;simp[gath]at h
 |int k=>
  intro ls r v u h;cases ls<;>simp only[gath]at h
  .simp at h
  .split at h
   .simp only[j5,j9]at h;rw[<-h.2.1];simp[Ty.size]
   .simp at h
 |bool=>
  intro ls r v u h;cases ls<;>simp only[gath]at h
  .simp at h
  .split at h
   .simp only[j5,j9]at h;rw[<-h.2.1];simp[Ty.size]
   .simp at h
 |str=>
  intro ls r v u h;cases ls<;>simp only[gath]at h
  .simp at h
  .split at h
   .simp only[j5,j9]at h;rw[<-h.2.1];simp[Ty.size]
   .simp at h
 |list a _=>
  intro ls r v u h;cases ls<;>simp only[gath]at h
  .simp at h
  .split at h
   .simp only[j5,j9]at h;rw[<-h.2.1];simp[Ty.size]
   .simp at h
theorem ŉ(rd:H->BS):∀(t:Ty){ls r:I Leaf}{v:t.den}{u:Ups},gath rd t (.dead::ls)=D (v,r,u)->r = .dead::ls:=by
 intro t;induction t with
 |unit=>intro ls r v u h;simp only[gath,j5,j9]at h;exact h.2.1.symm
 |wrap a ih=>
  intro ls r v u h;simp only[gath]at h;split at h
  .rename_i x r' u' hx;simp only[j5,j9]at h;rw[<-h.2.1];exact ih hx
  .simp at h
 |pair a b sZ s9=>
  intro ls r v u h;simp only[gath]at h;split at h
  .rename_i x r1 u1 hx;have h1:=sZ hx;subst h1;split at h
   .rename_i y r2 u2 hy;simp only[j5,j9]at h;rw[<-h.2.1];exact s9 hy
   .simp at h
  .simp at h
 |arr n a _=>intro ls r v u h;simp[gath]at h
 |int k=>intro ls r v u h;simp[gath,kG,mn,lenL,kY]at h
 |bool=>intro ls r v u h;simp[gath,kG,mn,lenL,kY]at h
 |str=>intro ls r v u h;simp[gath,kG,mn,lenL,kY]at h
 |list a _=>intro ls r v u h;simp[gath,kG,mn,lenL,kY]at h
theorem Ŋ{t:Ty}(h:t.agg=U):kI t=true:=by
 revert h;cases t<;>simp[kI,Ty.agg]
theorem Bn{rd:H->BS}(aZ:RdF np σ rd)(hB:wj S w γ σ.bx){t:Ty}{c:Cel}{v:t.den}{u:Ups}{z:O}(h:oE rd t c=D (v,u))(hc:bQ S w γ σ.bx c z) :
  FrzL np σ.bx u/\(∀S' w',dH S w S' w'->Froz σ.bx γ S' w' u->VRep S' w' ⟨t,v⟩ z)/\z.cells.toList.length=t.size:=by
 unfold oE at h;split at h
 .rename_i l;split at h
  .simp at h
  rename_i nO;split at h
  .rename_i v' u' hv;simp only[j5,j9]at h;obtain⟨rfl,rfl⟩:=h;obtain⟨f,e,p⟩:=wm aZ hB t hv (zs:=[z]) ⟨hc.1,trivial⟩;have hlen:=Uj rd t hv;simp at hlen;have hd:l ≠ .dead:=by intro hl;subst hl;have:=ŉ rd t hv;simp at this
   have h1:=Bm (hc.2 hd);refine⟨f,λS' w' hk hf=>⟨?_,λhm=>?_,λ_=>hc.2 hd⟩,by simp[h1,hlen]⟩
   .have:=p S' w' hk hf;rw[hlen]at this;rw[h1];exact this
   .exfalso;cases t<;>simp[kI,Ty.agg]at hm nO;simp[gath]at hv
  .simp at h
 .rename_i ls;split at h
  .rename_i nO;split at h
   .rename_i v' u' hv;simp only[j5,j9]at h;obtain⟨rfl,rfl⟩:=h;obtain⟨cs,rfl,ha,h1⟩:=hc;obtain⟨f,e,p⟩:=wm aZ hB t hv ha;have hlen:=Uj rd t hv;have hl:=ha.length;simp at hlen;have c9:cs.toList.length=t.size:=aa;refine⟨f,λS' w' hk hf=>⟨?_,λ_=>⟨cs,rfl⟩,λhm=>?_⟩,c9⟩
    .have:=p S' w' hk hf;rwa[List.take_of_length_le aa]at this
    .rw[Ŋ nO]at hm;simp at hm
   .simp at h
  .simp at h
 .split at h
  .rename_i v' iD;simp only[j5,j9]at h;obtain⟨rfl,rfl⟩:=h;have:=nv iD;cases this;obtain⟨cs,rfl,hr⟩:=hc;exact⟨.nil,λS' w' hk _=>⟨Rep.keep hk _ _ _ hr,λ_=>⟨cs,rfl⟩,by simp[kI]⟩,Rep.length _ _ _ hr⟩
  .simp at h
end
end Go.Lft
