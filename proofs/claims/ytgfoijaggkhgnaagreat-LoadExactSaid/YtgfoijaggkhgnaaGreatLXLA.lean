/- A typed qA of the Ic code, on plain data: wM. -/
import Derived.WalkKit
import Derived.Orders
import Derived.MapKept
open Option renaming none->B,some->D
open _root_ renaming Option->F,Nat->H,List->I,Bool->Y,Int->Ä,Array->È,ByteArray->É,False->ß,DecidableEq->æ
open Bool renaming false->J,true->W
open Go renaming Value->O,World->À,Program->Á,Oper->Æ,TypeId->Ç,Operand->Ì,IntKind->Ï,Code->Õ,TypeDesc->Ù,Act->Ü,BinOp->å,ResultVar->ê,TypeInfo->î
open Go.Result renaming andThen_ok->U
open Decidable renaming decide->X
open Go.Sem renaming run_bind->Z,run_pure->Â,run_ite->Ø
open Int renaming toNat->Ã,ofNat->ä,fdiv->í
open List renaming length->Å,getD->Ê,replicate->Ë,take->Ñ,range->Ó,getElem?_drop->Ö,drop->Ú,drop_drop->â,set->ý
open Go.Addr renaming add_lit->Í
open Nat renaming add_assoc->Î,beq->Ð,blt->é,add_mul->ð
open Go.Instr renaming indexAt->Ò,sureAddr->Ô,loadAt->Ý,index->á,fieldAt->ã
open Go.Op renaming intCmp->Û,intArith->à,unary->ï,eqFields->ñ,maxDepth->ò,stringOp->ó,equalIn->ö,intDiv->ù,equal->ÿ
open Go.Builtin renaming len_->Þ,min_->ë,max_->ì
theorem j4{α β:Type _}(a:α)(f:α->F β):(D a).bind f=f a:=rfl
theorem j5{α:Type _}(a b:α):(D a=D b)=(a=b):=Option.some.injEq a b
theorem j6{α:Sort _}{a b:α}:cond W a b=a:=rfl
theorem j7{α:Sort _}{a b:α}:cond J a b=b:=rfl
theorem j8(n:H):Ã (n:Ä)=n:=rfl
theorem j9{α β:Type _}(a:α)(b:β)(c:α)(d:β):((a,b)=(c,d))=(a=c/\b=d):=Prod.mk.injEq a b c d
theorem ja{a b:Prop}(h:a)(g:b):a/\b:=And.intro h g
abbrev jb:=@List.drop_eq_getElem_cons
abbrev jc:=@List.drop_of_length_le
abbrev jd:=@Bool.and_eq_true
abbrev je:=@List.mem_cons
abbrev jf:=@List.length_append
abbrev jg:=@List.getElem_mem
abbrev jh:=@bne_self_eq_false
abbrev ji:=@Array.getElem?_eq_some_iff
abbrev jj:=@List.append_assoc
abbrev jk:=@List.length_cons
abbrev jl:=@Bool.not_true
abbrev jm:=@List.drop_zero
abbrev jn:=@List.mem_append
abbrev jo:=@decide_eq_true_eq
abbrev jp:=@List.getElem?_eq_getElem
abbrev jq:=@List.mem_append_right
abbrev jr:=@List.mem_map
abbrev js:=@congrArg
abbrev jt:=@Classical.byContradiction
abbrev ju:=@List.mem_append_left
abbrev jv:=@Nat.le_refl
abbrev jw:=@List.nil_append
abbrev jx:=@Array.getElem?_eq_getElem
abbrev jy:=@List.getElem?_eq_some_iff
abbrev jz:=@List.all_eq_true
abbrev k7:=@Int.le_refl
abbrev k9:=@Nat.mul_le_mul_right
abbrev ka:=@Bool.not_false
abbrev kb:=@List.pairwise_cons
abbrev kc:=@List.eq_nil_of_length_eq_zero
abbrev ke:=@List.map_cons
abbrev kf:=@List.length_singleton
abbrev kg:=@List.mem_of_getElem?
abbrev ki:=@Nat.zero_add
abbrev kj:=@List.length_map
abbrev kn:=@Nat.zero_le
abbrev ko:=@List.getElem?_append_right
abbrev kp:=@List.mem_singleton
abbrev kq:=@beq_self_eq_true
abbrev kr:=@Nat.le_trans
abbrev ku:=@decide_eq_false_iff_not
abbrev kx:=@List.length_nil
abbrev kz:=@Bool.not_eq_true'
abbrev q7:=@of_decide_eq_true
abbrev q8:=@List.take_add_one
abbrev q9:=@List.pairwise_iff_getElem
abbrev qa:=@Option.map_some
abbrev qb:=@List.mem_of_mem_take
abbrev qc:=@List.map_append
abbrev qd:=@List.flatten_cons
abbrev qe:=@Bool.false_eq_true
abbrev qf:=@Array.getElem?_toList
abbrev qg:=@List.length_eq_zero_iff
abbrev qh:=@List.nodup_cons
abbrev qi:=@Nat.mul_le_mul
abbrev qj:=@List.take_succ_eq_append_getElem
abbrev qk:=@List.contains_eq_mem
abbrev ql:=@List.append_nil
abbrev qm:=@Array.length_toList
abbrev qn:=@List.filterMap_cons
abbrev qo:=@List.length_take
abbrev qp:=@List.getElem?_map
abbrev qq:=@List.take_append_of_le_length
abbrev qr:=@true_and
abbrev qs:=@Array.ext'
abbrev qt:=@List.mem_cons_of_mem
abbrev qu:=@Bool.false_or
abbrev qv:=@List.mem_flatMap
abbrev qw:=@List.getElem?_eq_none
abbrev qx:=@List.take_append_drop
abbrev qy:=@Nat.le_of_ble_eq_true
abbrev qz:=@List.any_eq_false
abbrev z6:=@List.mem_of_mem_drop
abbrev z7:=@List.cons_append
abbrev z8:=@Bool.eq_false_iff
abbrev za:=@if_false
abbrev zb:=@Int.le_trans
abbrev zd:=@Bool.true_or
abbrev ze:=@Int.add_zero
abbrev zf:=@List.mem_filter
abbrev zg:=@List.getElem?_take
abbrev zh:=@Nat.lt_of_lt_of_le
abbrev zi:=@beq_iff_eq
abbrev zj:=@List.any_eq_true
abbrev zk:=@List.pairwise_append
abbrev zm:=@Nat.lt_or_ge
abbrev zp:=@Int.tdiv_eq_ediv_of_nonneg
abbrev zq:=@Int.mul_nonneg
abbrev zr:=@List.flatMap_cons
abbrev zt:=@beq_eq_false_iff_ne
abbrev zu:=@List.map_congr_left
abbrev zv:=@Bool.or_eq_true
abbrev zw:=@Int.mul_le_mul_of_nonneg_right
abbrev v6:=@List.mem_iff_getElem?
abbrev v7:=@Option.getD_some
abbrev v8:=@List.mem_filterMap
abbrev va:=@Option.isSome_some
abbrev vb:=@Bool.and_self
abbrev vc:=@List.nodup_nil
abbrev vd:=@Array.toList_eq_nil_iff
abbrev ve:=@List.ext_getElem?
abbrev vf:=@List.pairwise_map
abbrev vg:=@Array.getD_eq_getD_getElem?
abbrev vi:=@List.length_drop
abbrev vj:=@List.range'_succ
abbrev vk:=@List.not_mem_nil
abbrev vp:=@List.set_append_right
abbrev vq:=@List.mapM_cons
abbrev vr:=@List.mem_cons_self
abbrev vu:=@Option.isSome_none
abbrev vv:=@List.length_filter_le
abbrev vw:=@List.eq_nil_or_concat
abbrev vz:=@List.concat_eq_append
abbrev y8:=@List.length_set
abbrev y9:=@List.getElem?_take_of_lt
abbrev ya:=@Bool.eq_iff_iff
abbrev yb:=@List.size_toArray
abbrev yc:=@List.any_cons
abbrev yd:=@List.getLast?_singleton
abbrev ye:=@List.getElem_of_mem
abbrev yf:=@List.filter_append
abbrev yg:=@Nat.lt_trichotomy
abbrev yh:=@Bool.or_eq_false_iff
abbrev yi:=@List.dropLast_concat
abbrev yj:=@List.getLast?_append
abbrev yk:=@List.take_take
abbrev yl:=@decide_eq_true
abbrev ym:=@List.drop_left
abbrev yn:=@Int.mul_le_mul
abbrev yo:=@Nat.succ_mul
abbrev yp:=@Int.ediv_le_self
abbrev yq:=@List.flatten_append
abbrev yt:=@List.getElem?_cons_succ
abbrev yu:=@List.pairwise_singleton
abbrev yw:=@Nat.mul_div_cancel
abbrev yx:=@Int.tmod_lt_of_pos
abbrev yy:=@Int.ediv_nonneg
abbrev yz:=@List.drop_eq_nil_of_le
set_option linter.unusedVariables false
namespace Go.Lft
theorem aa{p:Prop}(h:p:=by omega):p:=h
theorem ae{p:Prop}(h:p:=by simp):p:=h
theorem ax{p:Prop}(h:p:=by (simp;omega)):p:=h
theorem mV{α:Type}(l:I α):ä l.length=(l.length:Ä):=rfl
inductive Ty where
 |int (k:Ï)
 |bool
 |str
 |unit
 |wrap (a:Ty)
 |pair (a b:Ty)
 |list (a:Ty)
 |arr (n:H) (a:Ty)
 deriving æ
@[reducible] def Ty.den:Ty->Type
 |.int _=>Ä
 |.bool=>Y
 |.str=>É
 |.unit=>Unit
 |.wrap a=>a.den
 |.pair a b=>a.den×b.den
 |.list a=>I a.den
 |.arr _ a=>I a.den
def Ty.dflt:(t:Ty)->t.den
 |.int _=>(0:Ä)
 |.bool=>J
 |.str=>ByteArray.empty
 |.unit=>()
 |.wrap a=>a.dflt
 |.pair a b=>(a.dflt,b.dflt)
 |.list _=>[]
 |.arr n a=>Ë n a.dflt
def Ty.size:Ty->H
 |.int _|.bool|.str|.list _=>1
 |.unit=>0
 |.wrap a=>a.size
 |.pair a b=>a.size+b.size
 |.arr n a=>n*a.size
def Ty.flat:Ty->Y
 |.int _|.bool|.str|.unit=>W
 |.wrap a=>a.flat
 |.pair a b=>a.flat&&b.flat
 |.list _=>J
 |.arr _ a=>a.flat
def Ty.leafy:Ty->Y
 |.int _|.bool|.str|.list _=>W
 |_=>J
structure TV where
 t:Ty
 v:t.den
def TV.to(t:Ty)(x:TV):F t.den:=if h:x.t=t then D (h▸x.v) else B
inductive Cap where
 |v (x:TV)
 |p (ls:I TV)
inductive Leaf where
 |dead
 |nil
 |d (t:Ty) (v:t.den)
 |ol (k:H)
 |bp (k:H) (c:H)
 |ep (k:H) (i:H) (c:H)
 |tl (k:H) (i:H)
 |hd (k:H) (i:H)
 |ip (ls:I TV)
 |clo (f:H) (bT:I Cap)
inductive Cel where
 |one (x:Leaf)
 |st (ls:I Leaf)
 |av (n:H) (a:Ty) (xs:I a.den)
inductive Slot where
 |one (c:Cel)
 |tup (l:I Cel)
 |cnd (s:H) (want:Y) (c:Cel)
 |und
def ej{α β:Type}[BEq α](xs:I (α×β))(k:α):Bool:=xs.any λx=>k==x.1
def di{α β:Type}[BEq α](d:β):I (α×β)->α->β
 |[],_=>d
 |x::r,k=>cond (k==x.1) x.2 (di d r k)
def eD{α β:Type}[BEq α]:I (α×β)->α->β->I (α×β)
 |[],k,v=>[(k,v)]
 |x::r,k,v=>cond (k==x.1) ((k,v)::r) (x::eD r k v)
@[reducible] def Ty.keq:(t:Ty)->BEq t.den
 |.int _=>⟨λ(a b:Ä)=>a==b⟩
 |.str=>⟨λ(a b:É)=>a==b⟩
 |_=>⟨λ_ _=>J⟩
def Ty.isKey:Ty->Y
 |.int _|.str=>W
 |_=>J
def dG(s:É)(i:Ä):Int:=(s.data.getD i.toNat 0).toNat
def isM(e:H):Bool:=Nat.ble 4294967296 e
inductive Bx where
 |cell (ls:I Leaf) (frz:Y)
 |lst (e:H) (a:Ty) (xs:I a.den) (frz:Y)
 |arr (n:H) (a:Ty) (xs:I a.den)
inductive BS where
 |free|gone|live (b:Bx)
def mskM(rd:H->BS)(k:H):BS:=match rd k with
 |.live (.lst e a xs f)=>if isM e then .gone else .live (.lst e a xs f)
 |b=>b
structure St where
 sl:H->Slot
 bx:H->BS
def St.setS(σ:St)(i:H)(s:Slot):St:={ σ with sl:=λj=>if j=i then s else σ.sl j }
def St.setB(σ:St)(k:H)(b:BS):St:={ σ with bx:=λj=>if j=k then b else σ.bx j }
inductive Item where
 |s (c:Cel)
 |b (x:BS)
abbrev Snap:=I Item
inductive Arg where
 |v (x:TV)
 |ref (ls:I TV)
 |rl (e:H) (x:TV)
 |ip (ls:I TV)
 |clo (f:H) (bT:I Cap)
 |mv (e:H) (x:TV)
inductive RV where
 |v (x:TV)
 |own (e:H) (x:TV)
 |box (ls:I TV)
 |hd (n:H)
 |vn (x:TV) (ns:I H)
 |clo (f:H) (bT:I Cap)
inductive Out where
 |ref (ls:I TV)
 |rl (x:TV)
structure Ret where
 vals:I RV
 outs:I Out
inductive Ex where
 |normal|exit (id:H)|ret
 deriving æ
inductive Loc where
 |slot (i:H)
 |cell (k c:H)
 deriving æ
structure qB where
 name:H
 e:H
 a:Ty
 locs:I Loc
 frz:Y
structure Keep where
 slots:I H
 boxes:I H
 lists:I qB
 datas:I (Loc×Ty):=[]
structure TyI where
 size:H
 agg:Y
 ty:F Ty
 flds:I (H×H)
 elem:H
 cmp:I Ty:=[]
 mp:F (H×H):=B
def parK(np k:H):Bool:=X (k%64=0)&&X (k/64<np)
structure NT where
 n:H
 pin:H->Y
instance(n:H):OfNat NT n:=⟨⟨n,λ_=>J⟩⟩
def NT.ok(N:NT)(d:H):Prop:=d<N.n/\N.pin d=J
structure Env where
 N:NT
 np:H
 T:H->F TyI
 C:H->I Arg->(R:Type)->(Ret->F R)->F R
 modes:H->I Y
 L:H->Snap->(R:Type)->(Ex->Snap->F R)->F R
 keep:H->Keep
 keepX:H->Ex->Keep
 ro:I Y
 dw:H->I (I H):=λ_=>[]
 nz:Bool:=J
 hd:Bool:=J
 ns:I Nat:=[]
 bw:H->F (Y×Ty):=λ_=>B
 ks:H->Bool:=λ_=>J
 mvf:H->Bool:=λ_=>J
 mr:H->F (H×H):=λ_=>B
 M:H->Snap->(R:Type)->(Snap->F R)->F R:=λ_ _ _ _=>B
def insI(x:Ä):I Ä->I Ä
 |[]=>[x]
 |y::ys=>cond (X (x<=y)) (x::y::ys) (y::insI x ys)
def ow:I Ä->I Ä
 |[]=>[]
 |x::xs=>insI x (ow xs)
def Dt{β:Type}(xs:I (Ä×β)):Bool:=Nat.ble xs.length 1000000&&xs.all λx=>X (-9223372036854775808<=x.1)&&X (x.1<=9223372036854775807)
def lh{β:Type}(xs:I (Ä×β)):I Int:=ow (xs.map λx=>x.1)
def UW:(a:Ty)->I a.den->F (Y×I Ä)
 |.pair (.int .i64) _,xs=>D (Dt xs,lh xs)
 |_,_=>B
def L7:O->Leaf
 |.int k n=> .d (.int k) n
 |.bool b=> .d .bool b
 |.string s=> .d .str s
 |.slice B 0 0=> .nil
 |_=> .dead
def St.ev(σ:St):Ì->Slot
 |.tmp t=>σ.sl t
 |.const v=> .one (.one (L7 v))
 |.func f=> .one (.one (.clo f []))
 |.global _=> .one (.one .dead)
def qC(ops:È Æ)(o:Æ):F (H×Y):=
 match o.guard with
 |none=>B
 |some (j,w)=>match ops[j]? with
  |some oj=>match oj.dst with
   |some s=>D (s,w)
   |none=>B
  |none=>B
def St.chain(σ:St):H->H×Y->I (H×Y)
 |0,g=>[g]
 |n+1,g=>match σ.sl g.1 with
  |.cnd s w _=>g::σ.chain n (s,w)
  |_=>[g]
def Slot.cel(act:I (H×Y)):Slot->Cel
 |.one c=>c
 |.tup _=> .one .dead
 |.und=> .one .dead
 |.cnd s w c=>if act.contains (s,w) then c else .one .dead
abbrev Ups:=I (H×BS)
def scat:(t:Ty)->t.den->I TV
 |.unit,_=>[]
 |.wrap a,v=>scat a v
 |.pair a b,v=>scat a v.1++scat b v.2
 |.arr n a,v=>(Ó n).flatMap λi=>scat a (Ê v i a.dflt)
 |t,v=>[⟨t,v⟩]
def TV.leaf(x:TV):Leaf:= .d x.t x.v
def pB:Ty->I Leaf
 |.unit=>[]
 |.wrap a=>pB a
 |.pair a b=>pB a++pB b
 |.arr n a=>(Ó n).flatMap λ_=>pB a
 |.list _=>[.nil]
 |t=>[.d t t.dflt]
def lj(rd:H->BS)(t:Ty):Leaf->F (t.den×Ups)
 |.d t' v=>match (TV.mk t' v).to t with
  |some v'=>D (v',[])
  |none=>B
 |.nil=>match t with
  |.list _=>D ([],[])
  |_=>B
 |.ol k=>match rd k with
  |.live (.lst e a xs _)=>match (TV.mk (.list a) xs).to t with
   |some v'=>D (v',[(k,.live (.lst e a xs W))])
   |none=>B
  |_=>B
 |_=>B
def gath(rd:H->BS):(t:Ty)->I Leaf->F (t.den×I Leaf×Ups)
 |.unit,ls=>D ((),ls,[])
 |.wrap a,ls=>match gath rd a ls with
  |some (x,r,u)=>D (x,r,u)
  |none=>B
 |.pair a b,ls=>match gath rd a ls with
  |some (x,r,u)=>match gath rd b r with
   |some (y,r',u')=>D ((x,y),r',u++u')
   |none=>B
  |none=>B
 |.arr _ _,_=>B
 |t,l::ls=>match lj rd t l with
  |some (v,u)=>D (v,ls,u)
  |none=>B
 |_,[]=>B
def Ty.agg:Ty->Y
 |.unit|.wrap _|.pair _ _=>W
 |_=>J
def rv(rd:H->BS)(t:Ty):Cel->F (t.den×Ups)
 |.one l=>if t.agg then B else match gath rd t [l]with
  |some (v,[],u)=>D (v,u)
  |_=>B
 |.st ls=>if t.agg then match gath rd t ls with
  |some (v,[],u)=>D (v,u)
  |_=>B
  else B
 |.av n a xs=>match (TV.mk (.arr n a) xs).to t with
  |some v=>D (v,[])
  |none=>B
def pD:(t:Ty)->t.den->Cel
 |.arr n a,v=> .av n a v
 |t,v=>if t.agg then .st ((scat t v).map TV.leaf) else .one (.d t v)
def Cel.leaves:Cel->F (I Leaf)
 |.one .dead=>B
 |.one l=>D [l]
 |.st ls=>D ls
 |.av n (.list b) ys=>D ((Ó n).map λi=> .d (.list b) (Ê ys i []))
 |.av _ _ _=>B
def cmpI(op:å)(x y:Ä):F Bool:=
 match op with
 |.eql=>D (x==y)
 |.neq=>D (x != y)
 |.lss=>D (X (x<y))
 |.leq=>D (X (x<=y))
 |.gtr=>D (X (x>y))
 |.geq=>D (X (x>=y))
 |_=>B
def eqT:TV->TV->F Y
 |⟨.int k,x⟩,⟨.int k',y⟩=>if k=k' then D ((show Ä from x)==(show Ä from y)) else B
 |⟨.bool,x⟩,⟨.bool,y⟩=>D ((show Y from x)==(show Y from y))
 |⟨.str,x⟩,⟨.str,y⟩=>D ((show É from x).toList==(show É from y).toList)
 |_,_=>B
def eqL:I Ty->I Leaf->I Leaf->F Y
 |[],[],[]=>D W
 |k::ks,.d t x::l,.d t' y::l'=>if t=k/\t'=k then match eqT ⟨t,x⟩ ⟨t',y⟩with
  |some b=>match ks with
   |[]=>match l,l' with
    |[],[]=>D b
    |_,_=>B
   |ks=>match eqL ks l l' with
    |some b'=>D (b&&b')
    |none=>B
  |none=>B
  else B
 |_,_,_=>B
def binI(op:å)(k:Ï)(x y:Ä):F (Y×Leaf):=
 match op with
 |.add=>D (W,.d (.int k) (k.wrap (x+y)))
 |.sub=>D (W,.d (.int k) (k.wrap (x-y)))
 |.mul=>D (W,.d (.int k) (k.wrap (x*y)))
 |.quo=>D (!(y==0),.d (.int k) (k.wrap (x.tdiv y)))
 |.rem=>D (!(y==0),.d (.int k) (x.tmod y))
 |.shr=>if X ((0:Ä)<=y) then D (W,.d (.int k) (í x (2^min (Ã y) k.bits))) else B
 |.and|.or|.xor|.andNot|.shl=>B
 |op=>match cmpI op x y with
  |some b=>D (W,.d .bool b)
  |none=>B
def UX(ti:F TyI):Bool:=match ti with
 |some t=>X (t.ty=D .bool)
 |none=>J
def wN(ti:F TyI):I Ty:=match ti with
 |some t=>t.cmp
 |none=>[]
def binC(ti:F TyI)(op:å):Cel->Cel->F (Y×Leaf)
 |.one (.d (.int k) x),.one (.d (.int k') y)=>if k=k' then binI op k x y else
  match op with
  |.shr=>if X ((0:Ä)<=y) then D (W,.d (.int k) (í x (2^min (Ã y) k.bits))) else B
  |_=>B
 |.one (.d .bool x),.one (.d .bool y)=>if UX ti then match op with
  |.eql=>D (W,.d .bool ((show Y from x)==(show Y from y)))
  |.neq=>D (W,.d .bool (!((show Y from x)==(show Y from y))))
  |_=>B
  else B
 |.one (.d .str x),.one (.d .str y)=>match op with
  |.eql=>D (W,.d .bool ((show É from x).toList==(show É from y).toList))
  |.neq=>D (W,.d .bool (!((show É from x).toList==(show É from y).toList)))
  |_=>B
 |.st l,.st l'=>if (wN ti).isEmpty then B else match op with
  |.eql=>match eqL (wN ti) l l' with
   |some b=>D (W,.d .bool b)
   |none=>B
  |.neq=>match eqL (wN ti) l l' with
   |some b=>D (W,.d .bool (!b))
   |none=>B
  |_=>B
 |_,_=>B
def unC(op:UnOp):Cel->F Leaf
 |.one (.d .bool x)=>match op with
  |.not=>D (.d .bool (!(show Y from x)))
  |_=>B
 |.one (.d (.int k) x)=>match op with
  |.neg=>D (.d (.int k) (k.wrap (0-(show Ä from x))))
  |_=>B
 |_=>B
def uN(ti:TyI)(ls:I Leaf):F Cel:=
 if ti.agg then (if ls.length=ti.size then D (.st ls) else B)
 else match ls with
  |[l]=>D (.one l)
  |_=>B
def qD(rd:H->BS)(ti:TyI):Leaf->F Cel
 |.bp k c=>match rd k with
  |.live (.cell ls _)=>uN ti ((ls.drop c).take ti.size)
  |.live (.arr n a xs)=>if c=0/\ti.ty=D (.arr n a) then D (.av n a xs) else B
  |_=>B
 |.ep k i c=>match rd k with
  |.live (.lst e a xs _)=>uN ti ((((scat a (Ê xs i a.dflt)).map TV.leaf).drop c).take ti.size)
  |.live (.arr _ a xs)=>uN ti ((((scat a (Ê xs i a.dflt)).map TV.leaf).drop c).take ti.size)
  |_=>B
 |.ip ls=>uN ti ((ls.map TV.leaf).take ti.size)
 |_=>B
def si(ls:I Leaf)(c:H)(new:I Leaf):I Leaf:=ls.take c++new++ls.drop (c+new.length)
def wO(rd rdf:H->BS)(sz:H)(val:Cel):Leaf->F Ups
 |.bp k c=>match rd k with
  |.live (.cell ls J)=>match val.leaves with
   |some new=>if new.length=sz/\c+new.length<=ls.length then D [(k,.live (.cell (si ls c new) J))] else B
   |none=>B
  |.live (.arr n a _)=>if c=0 then match val with
    |.av n' a' ys=>match (TV.mk (.arr n' a') ys).to (.arr n a) with
     |some L8=>if sz=n*a.size then D [(k,.live (.arr n a L8))] else B
     |none=>B
    |_=>B
   else B
  |_=>B
 |.ep k i c=>match rd k with
  |.live (.lst el a xs J)=>match val.leaves with
   |some new=>if new.length=sz/\c+new.length<=a.size then match gath rdf a (si ((scat a (Ê xs i a.dflt)).map TV.leaf) c new) with
    |some (e,[],u)=>if u.any (λy=>y.1==k) then B else D (u++[(k,.live (.lst el a (ý xs i e) J))])
    |_=>B
    else B
   |none=>B
  |.live (.arr n a xs)=>match val.leaves with
   |some new=>if new.length=sz/\c+new.length<=a.size then match gath rdf a (si ((scat a (Ê xs i a.dflt)).map TV.leaf) c new) with
    |some (e,[],u)=>if u.any (λy=>y.1==k) then B else D (u++[(k,.live (.arr n a (ý xs i e)))])
    |_=>B
    else B
   |none=>B
  |_=>B
 |_=>B
def isLive:BS->Y
 |.live _=>W
 |_=>J
def ry(rd:H->BS)(ti:TyI)(i:H):Leaf->F Leaf
 |.bp k c=>match ti.flds[i]? with
  |some f=>if isLive (rd k) then D (.bp k (c+f.1)) else B
  |none=>B
 |.ep k j c=>match ti.flds[i]? with
  |some f=>if isLive (rd k) then D (.ep k j (c+f.1)) else B
  |none=>B
 |.ip ls=>match ti.flds[i]? with
  |some f=>D (.ip (ls.drop f.1))
  |none=>B
 |_=>B
def qE(t:F Ty):Bool:=match t with
 |some (.list _)=>W
 |_=>J
def uO(rd:H->BS)(a:Ty):I Leaf->F (I a.den×Ups)
 |[]=>D ([],[])
 |l::ls=>match lj rd a l,uO rd a ls with
  |some (x,u),D (xs,v)=>D (x::xs,u++v)
  |_,_=>B
def uP(rd:H->BS)(t:F Ty):Leaf->F (H×Ty×I Leaf)
 |.bp k 0=>match t with
  |some (.arr m a)=>if qE (D a) then match rd k with
   |.live (.cell ls J)=>D (m,a,ls)
   |_=>B
   else B
  |_=>B
 |_=>B
def inR(i:Ä)(n:H):Bool:=X (0<=i)&&X (i<(n:Ä))
def uQ(rd:H->BS)(ti:TyI):Leaf->Leaf->F (Y×Leaf)
 |.ol k,.d (.int _) i=>match rd k with
  |.live (.lst e a xs _)=>if ti.ty=D (.list a) then D (inR i xs.length,.ep k (Ã i) 0) else B
  |_=>B
 |.d (.list a) xs,.d (.int _) i=>if ti.ty=D (.list a) then D (inR i (Å xs),.ip (scat a (Ê xs (Ã i) a.dflt))) else B
 |.bp k 0,.d (.int _) i=>match rd k with
  |.live (.arr n a _)=>if ti.ty=D (.arr n a) then D (inR i n,.ep k (Ã i) 0) else B
  |.live (.cell _ _)=>match ti.ty with
   |some (.arr n a)=>if qE (D a) then D (inR i n,.bp k (Ã i)) else B
   |_=>B
  |_=>B
 |.tl k j,.d (.int _) i=>match rd k with
  |.live (.lst e a xs _)=>if ti.ty=D (.list a) then D (inR i (xs.length-j),.ep k (j+Ã i) 0) else B
  |_=>B
 |_,_=>B
def idxV(ti:TyI):Cel->Leaf->F (Y×Cel)
 |.av n a xs,.d (.int _) i=>if ti.ty=D (.arr n a) then D (inR i n,pD a (Ê xs (Ã i) a.dflt)) else B
 |.one (.d .str s),.d (.int _) i=>if ti.ty=D .str then D (inR i s.size,.one (.d (.int .u8) (dG s i))) else B
 |_,_=>B
def BO(ti:TyI)(sz:H->F H):I Leaf->I (H×Cel)->F (I Leaf)
 |ls,[]=>D ls
 |ls,(i,c)::r=>match ti.flds[i]? with
  |some f=>match c.leaves with
   |some new=>if sz f.2=D new.length/\f.1+new.length<=ls.length then BO ti sz (si ls f.1 new) r else B
   |none=>B
  |none=>B
def lu(rd:H->BS)(a:Ty):I a.den->Ups->I (H×Cel)->F (I a.den×Ups)
 |xs,u,[]=>D (xs,u)
 |xs,u,(i,c)::r=>match rv rd a c with
  |some (x,u')=>if i<xs.length then lu rd a (xs.set i x) (u++u') r else B
  |none=>B
def lenC(rd:H->BS)(t:F Ty):Leaf->F Leaf
 |.nil=>if qE t then D (.d (.int .i64) (0:Ä)) else B
 |.ol k=>match rd k with
  |.live (.lst _ _ xs _)=>if qE t then D (.d (.int .i64) (xs.length:Ä)) else B
  |_=>B
 |.d (.list _) xs=>if qE t then D (.d (.int .i64) ((Å xs:H):Ä)) else B
 |.d .str s=>if t=D .str then D (.d (.int .i64) ((ByteArray.size s:H):Ä)) else B
 |.tl k j=>match rd k with
  |.live (.lst _ _ xs _)=>if qE t then D (.d (.int .i64) ((xs.length-j:H):Ä)) else B
  |_=>B
 |.hd k i=>match rd k with
  |.live (.lst _ _ _ _)=>if qE t then D (.d (.int .i64) (i:Ä)) else B
  |_=>B
 |_=>B
def minC:I Cel->F Leaf
 |[.one (.d (.int k) x),.one (.d (.int k') y)]=>if k=k' then D (.d (.int k) (if (show Ä from y)<x then y else x:Ä)) else B
 |_=>B
def maxC:I Cel->F Leaf
 |[.one (.d (.int k) x),.one (.d (.int k') y)]=>if k=k' then D (.d (.int k) (if (show Ä from y)>x then y else x:Ä)) else B
 |_=>B
def jK:BS->Y
 |.free=>W
 |_=>J
def aM:Nat:=4294967296
def appS(rd:H->BS)(e:H)(a:Ty):Leaf->F (I a.den×Y×Ups)
 |.ol k=>match rd k with
  |.live (.lst e' a' xs frz)=>match (TV.mk (.list a') xs).to (.list a) with
   |some dD=>if e'=e then D (dD,frz,[(k,.gone)]) else B
   |none=>B
  |_=>B
 |.nil=>D ([],J,[])
 |_=>B
def appX(rd:H->BS)(a:Ty):Leaf->F (I a.den)
 |.ol k=>match rd k with
  |.live (.lst _ a' xs _)=>(TV.mk (.list a') xs).to (.list a)
  |_=>B
 |.d t xs=>(TV.mk t xs).to (.list a)
 |.nil=>D []
 |.tl k j=>match rd k with
  |.live (.lst _ a' xs _)=>match (TV.mk (.list a') xs).to (.list a) with
   |some dD=>D (Ú j dD)
   |none=>B
  |_=>B
 |_=>B
def bnd(d:H):F Leaf->F Ä
 |none=>D d
 |some (.d (.int _) i)=>D i
 |some _=>B
def BP(par:H->Y)(rd:H->BS)(ti:TyI)(n:H)(x:Leaf)(lo hi:F Leaf):F (Y×Leaf×Ups):=
 match x with
 |.d (.list a) xs=>if ti.ty=D (.list a) then match bnd 0 lo,bnd (Å xs) hi with
  |some i,D j=>D (X (0<=i)&&(X (i<=j)&&X (j<=(Å xs:Ä))),.d (.list a) (Ú (Ã i) (Ñ (Ã j) xs)),[])
  |_,_=>B
  else B
 |.ol k=>match hi with
  |none=>match rd k with
   |.live (.lst _ a xs _)=>if ti.ty=D (.list a) then match bnd 0 lo with
    |some i=>D (X (0<=i)&&X (i<=(xs.length:Ä)),.tl k (Ã i),[])
    |none=>B
    else B
   |_=>B
  |some _=>match rd k with
   |.live (.lst e a xs f)=>if ti.ty=D (.list a) then match bnd 0 lo,bnd xs.length hi with
    |some i,D j=>if par k then
      (if lo.isNone then D (X (0<=j)&&X (j<=(xs.length:Ä)),.hd k (Ã j),[]) else B)
     else if lo.isNone && !f then
      (if jK (rd n) then D (X (0<=j)&&X (j<=(xs.length:Ä)),.ol n,[(k,.gone),(n,.live (.lst e a (Ñ (Ã j) xs) J))]) else B)
     else D (X (0<=i)&&(X (i<=j)&&X (j<=(xs.length:Ä))),.d (.list a) (Ú (Ã i) (Ñ (Ã j) xs)),[(k,.live (.lst e a xs W))])
    |_,_=>B
    else B
   |_=>B
 |.hd k _=>match rd k with
  |.live (.lst _ a xs _)=>if ti.ty=D (.list a)/\hi.isSome=W then match bnd 0 lo,bnd 0 hi with
   |some i,D j=>D (X (0<=i)&&(X (i<=j)&&X (j=(xs.length:Ä))),.tl k (Ã i),[])
   |_,_=>B
   else B
  |_=>B
 |_=>B
def BQ(rd:H->BS)(ti:TyI)(x:Leaf)(lo hi:F Leaf)(mx:Leaf):F Bool:=
 match x,lo,hi,mx with
 |.ol k,D (.d (.int _) i),D (.d (.int _) j),.d (.int _) m=>match rd k with
  |.live (.lst _ a xs _)=>if ti.ty=D (.list a) then D (X ((0:Ä)<=i)&&(X ((show Ä from i)<=j)&&(X ((show Ä from j)<=m)&&X (m<=(xs.length:Ä))))) else B
  |_=>B
 |_,_,_,_=>B
def appH(rd:H->BS)(el:H)(a:Ty)(s x:Leaf):F (Y×Leaf×Ups):=
 match s,x with
 |.hd k i,.tl k' j=>if k=k' then match rd k with
  |.live (.lst e b xs J)=>if b=a/\e=el then D (X (i<=j),.hd k (i+(xs.length-j)),[(k,.live (.lst e b (Ñ i xs++(Ú j xs++Ú (i+(xs.length-j)) xs)) J))]) else B
  |_=>B
  else B
 |_,_=>B
def Ie:Leaf->F (H×H)
 |.ol k=>D (k,0)
 |.tl k i=>D (k,i)
 |_=>B
def over{α:Type}(xs:I α)(i:H)(ys:I α):I α:=Ñ i xs++(Ñ (xs.length-i) ys++Ú (i+ys.length) xs)
def BR(rd:H->BS)(t:F Ty)(x y:Leaf):F (Leaf×Ups):=
 match Ie x with
 |some (k,i)=>match rd k with
  |.live (.lst e a xs J)=>if t=D (.list a) then match appX rd a y with
   |some ys=>D (.d (.int .i64) ((min ys.length (xs.length-i):H):Ä),[(k,.live (.lst e a (over xs i ys) J))])
   |none=>B
   else B
  |_=>B
 |none=>B
def BT(rd:H->BS)(t:F Ty)(x:Leaf):F Ups:=
 match Ie x with
 |some (k,i)=>match rd k with
  |.live (.lst e a xs J)=>if t=D (.list a) then D [(k,.live (.lst e a (Ñ i xs++Ë (xs.length-i) a.dflt) J))] else B
  |_=>B
 |none=>B
inductive Act where
 |val (lv:Y) (s:Slot) (ups:Ups)
 |call (f:H) (args:I Arg) (mk:Ret->F (Slot×Ups))
def Act.leaf(x:Leaf):Act:= .val W (.one (.one x)) []
def Act.cel(x:Cel):Act:= .val W (.one x) []
def ox(x:F Leaf):F Act:=match x with
 |some c=>D (.leaf c)
 |none=>B
def oCel(x:F Cel):F Act:=match x with
 |some c=>D (.cel c)
 |none=>B
def oChk(x:F (Y×Leaf)):F Act:=match x with
 |some (b,c)=>D (.val b (.one (.one c)) [])
 |none=>B
def tvs(rd:H->BS):I Leaf->F (I TV×Ups)
 |[]=>D ([],[])
 |l::ls=>match tvs rd ls with
  |some (xs,u)=>match l with
   |.d t v=>D (⟨t,v⟩::xs,u)
   |.ol k=>match rd k with
    |.live (.lst e a es _)=>D (⟨.list a,es⟩::xs,(k,.live (.lst e a es W))::u)
    |_=>B
   |_=>B
  |none=>B
def wP(rd:H->BS):I Cel->F (I Cap×Ups)
 |[]=>D ([],[])
 |c::r=>match wP rd r with
  |some (l,u)=>match c with
   |.one (.d t v)=>if t.leafy then D (.v ⟨t,v⟩::l,u) else B
   |.one (.bp k 0)=>match rd k with
    |.live (.cell ls _)=>match tvs rd ls with
     |some (xs,u')=>if (u++u').any (λy=>y.1==k) then B else D (.p xs::l,(u++u')++[(k,.live (.cell (xs.map TV.leaf) W))])
     |none=>B
    |_=>B
   |_=>B
  |none=>B
inductive Bk where
 |ref (k:H)
 |rl (k e:H) (a:Ty)
 |mv (k e:H) (a:Ty)
def Bk.name:Bk->H
 |.ref k=>k
 |.rl k _ _=>k
 |.mv k _ _=>k
def Bk.isMv:Bk->Y
 |.mv _ _ _=>W
 |_=>J
def wQ(rd rdf:H->BS)(t:F TyI)(mv rl:Y)(c:Cel):F (Arg×Ups×F Bk):=
 match c with
 |.one (.bp k 0)=>match rd k with
  |.live (.cell ls W)=>match tvs rdf ls with
   |some (xs,u)=>D (.ip xs,u,B)
   |none=>B
  |.live (.cell ls J)=>match tvs rdf ls with
   |some (xs,u)=>D (.ref xs,u,D (.ref k))
   |none=>B
  |_=>B
 |.one (.ip ls)=>D (.ip ls,[],B)
 |.one (.clo f bT)=>D (.clo f bT,[],B)
 |.one (.ol k)=>match rl with
  |true=>cond mv (match rdf k with
   |.live (.lst e a xs J)=>D (.mv e ⟨.list a,xs⟩,[],D (.mv k e a))
   |_=>B) (match rd k with
   |.live (.lst e a xs J)=>D (.rl e ⟨.list a,xs⟩,[],D (.rl k e a))
   |_=>B)
  |false=>match rdf k with
   |.live (.lst e a xs _)=>D (.v ⟨.list a,xs⟩,[(k,.live (.lst e a xs W))],B)
   |_=>B
 |c=>match t with
  |some ti=>match ti.ty with
   |some ty=>match rv rdf ty c with
    |some (x,u)=>D (.v ⟨ty,x⟩,u,B)
    |none=>B
   |none=>B
  |none=>B
def rz(rd rdf:H->BS)(T:H->F TyI)(mv:Y):I H->I Y->I Cel->F (I Arg×Ups×I Bk)
 |_,_,[]=>D ([],[],[])
 |ts,ms,c::r=>match wQ rd rdf (ts.head?.bind T) mv (ms.headD J) c with
  |some (a,u,f)=>match rz rd rdf T mv ts.tail ms.tail r with
   |some (as,us,fs)=>D (a::as,u++us,f.toList++fs)
   |none=>B
  |none=>B
def qF:Cap->Arg
 |.v x=> .v x
 |.p ls=> .ip ls
def Ig:Bk->Out->F (H×BS)
 |.ref k,.ref ys=>D (k,.live (.cell (ys.map TV.leaf) J))
 |.rl k e a,.rl y=>match y.to (.list a) with
  |some ys=>D (k,.live (.lst e a ys J))
  |none=>B
 |_,_=>B
def mW:I Bk->I Out->F Ups
 |[],[]=>D []
 |.mv k _ _::fs,xs=>match mW fs xs with
  |some u=>D ((k,.gone)::u)
  |none=>B
 |f::fs,x::xs=>match Ig f x with
  |some y=>match mW fs xs with
   |some u=>D (y::u)
   |none=>B
  |none=>B
 |_,_=>B
def rA:I H->Y
 |[]=>W
 |x::xs=> !xs.contains x&&rA xs
def bkOk(us:Ups)(fs:I Bk):Bool:=rA (fs.map Bk.name)&&us.all λx=> !(fs.map Bk.name).contains x.1
def Ih(n:H):RV->F (Cel×Ups)
 |.v x=>D (pD x.t x.v,[])
 |.own e ⟨.list a,xs⟩=>D (.one (.ol n),[(n,.live (.lst e a xs J))])
 |.own _ _=>B
 |.box ls=>D (.one (.bp n 0),[(n,.live (.cell (ls.map TV.leaf) J))])
 |.hd _=>B
 |.vn x ns=>match pD x.t x.v with
  |.st ls=>D (.st (ls.zipIdx.map λy=>if ns.contains y.2 then .nil else y.1),[])
  |c=>D (c,[])
 |.clo f bT=>D (.one (.clo f bT),[])
def wR:H->I RV->F (I Cel×Ups)
 |_,[]=>D ([],[])
 |n,r::rs=>match Ih n r with
  |some (c,u)=>match wR (n+1) rs with
   |some (cs,us)=>D (c::cs,u++us)
   |none=>B
  |none=>B
def RV.flat:RV->Y
 |.v x=>x.t.flat
 |.own _ x=>match x.t with
  |.list a=>a.flat
  |_=>J
 |.box _=>J
 |.hd _=>J
 |.vn _ _=>J
 |.clo _ _=>J
def Out.flat:Out->Y
 |.ref ls=>ls.all λx=>x.t.flat
 |.rl x=>x.t.flat
def mkHd(rd rdf:H->BS)(n:H)(us:Ups)(fs:I Bk)(m:H)(os:I Out):F (Slot×Ups):=
 match fs,os with
 |.rl k e a::_,.rl y::_=>match mW fs os,y.to (.list a) with
  |some uo,D ys=>if jK (rd n)&&isLive (rdf k) then D (.one (.one (.ol n)),us++uo++[(k,.gone),(n,.live (.lst e a (Ñ m ys) J))]) else B
  |_,_=>B
 |_,_=>B
def UY:I Cel->Slot
 |[c]=> .one c
 |cs=> .tup cs
def yO(rd rdf:H->BS)(n:H)(us:Ups)(fs:I Bk)(r:Ret):F (Slot×Ups):=
 match r.vals with
 |[.hd m]=>mkHd rd rdf n us fs m r.outs
 |_=>match mW fs r.outs with
 |some uo=>match wR n r.vals with
  |some (cs,un)=>
   if un.all (λe=>jK (rd e.1)) then
    let u:=(if r.vals.all RV.flat&&r.outs.all Out.flat then [] else us)++uo++un
    match cs with
    |[c]=>D (.one c,u)
    |cs=>D (.tup cs,u)
   else B
  |none=>B
 |none=>B
def lf(c:Cel):Leaf:=match c with|.one y=>y|_=> .dead
def Ii(x:Ì)(b:Y)(act:I (H×Y)):I (H×Y):=match x with
 |.tmp s=>(s,b)::act
 |_=>act
def sj(T:H->F TyI)(t:H):F (Ty×Ty):=match T t with
 |some ti=>match ti.mp with
  |some (k,v)=>match T k,T v with
   |some tk,D tv=>match tk.ty,tv.ty with
    |some k,D v=>if k.isKey then D (k,v) else B
    |_,_=>B
   |_,_=>B
  |none=>B
 |none=>B
def mapC(rw:H->BS)(t:H)(k v:Ty)(x y:Leaf):F (H×I (k.den×v.den)×k.den):=match x,y with
 |.ol b,.d tk key=>match rw b with
  |.live (.lst e a xs J)=>if e=4294967296+t then match (TV.mk (.list a) xs).to (.list (.pair k v)),(TV.mk tk key).to k with
    |some ys,D q=>D (b,ys,q)
    |_,_=>B
   else B
  |_=>B
 |_,_=>B
def eF(E:Env)(ev:Ì->Slot)(rw:H->BS)(act:I (H×Y))(o:Æ):F Act:=
 let rd:=mskM rw
 let c (x:Ì):Cel:=(ev x).cel act
 let l (x:Ì):Leaf:=lf (c x)
 let n:=(o.dst.getD 0)*64
 let rdf (k:H):BS:=if parK E.np k then .gone else rd k
 match o.op with
 |.move x|.assign x=>match ev x with
  |.tup l=>D (.val W (.tup l) [])
  |s=>D (.cel (s.cel act))
 |.pick x a b=>match l x with
  |.d .bool v=>
   match (ev a).cel (Ii x W act),(ev b).cel (Ii x J act) with
   |.one (.d t p),.one (.d t' q)=>match (TV.mk t' q).to t with
    |some q'=>D (.leaf (.d t (cond v p q')))
    |none=>B
   |.one (.d t p),.one .dead=>D (.val v (.one (.one (.d t p))) [])
   |.one .dead,.one (.d t q)=>D (.val (!(show Y from v)) (.one (.one (.d t q))) [])
   |_,_=>B
  |_=>B
 |.alloc t=>match E.T t with
  |some ti=>if jK (rd n) then match ti.ty with
    |some (.arr k a)=>if qE (D a) then D (.val W (.one (.one (.bp n 0))) [(n,.live (.cell (pB (.arr k a)) J))]) else D (.val W (.one (.one (.bp n 0))) [(n,.live (.arr k a (Ë k a.dflt)))])
    |some ty=>D (.val W (.one (.one (.bp n 0))) [(n,.live (.cell (pB ty) J))])
    |none=>B
   else B
  |none=>B
 |.box _ x=>if jK (rd n) then match c x with
   |.av k a xs=>D (.val W (.one (.one (.bp n 0))) [(n,.live (.arr k a xs))])
   |v=>match v.leaves with
    |some ls=>D (.val W (.one (.one (.bp n 0))) [(n,.live (.cell ls J))])
    |none=>B
  else B
 |.build t ps=>match E.T t with
  |some ti=>match ti.ty with
   |some (.arr k a)=>if qE (D a)&&ps.toList.isEmpty then D (.cel (.st (pB (.arr k a)))) else match lu rdf a (Ë k a.dflt) [] (ps.toList.map λp=>(p.1,c p.2)) with
    |some (xs,u)=>D (.val W (.one (.av k a xs)) u)
    |none=>B
   |some ty=>if ty.agg then match BO ti (λt=>(E.T t).map (·.size)) (pB ty) (ps.toList.map λp=>(p.1,c p.2)) with
    |some ls=>D (.cel (.st ls))
    |none=>B
    else B
   |none=>B
  |none=>B
 |.buildSlice t len ps=>match E.T t with
  |some ti=>match ti.ty with
   |some (.list a)=>if 16777216<len*a.size then B else match lu rdf a (Ë len a.dflt) [] (ps.toList.map λp=>(p.1,c p.2)) with
    |some (xs,u)=>if jK (rd n) then D (.val W (.one (.one (.ol n))) (u++[(n,.live (.lst ti.elem a xs J))])) else B
    |none=>B
   |_=>B
  |none=>B
 |.load t x=>match E.T t with
  |some ti=>match uP rd ti.ty (l x) with
   |some (m,a,ls)=>match uO rdf a ls with
    |some (xs,u)=>if xs.length=m then D (.val W (.one (.av m a xs)) u) else B
    |none=>B
   |none=>oCel (qD rd ti (l x))
  |none=>B
 |.store t x y=>match E.T t with
  |some ti=>match wO rd rdf ti.size (c y) (l x) with
   |some u=>D (.val W (.one (.one .dead)) u)
   |none=>B
  |none=>B
 |.nilCheck x=>match l x with
  |.bp k p=>if isLive (rd k) then D (.leaf (.bp k p)) else B
  |.ep k i p=>if isLive (rd k) then D (.leaf (.ep k i p)) else B
  |.ip ls=>D (.leaf (.ip ls))
  |_=>B
 |.binOp op t x y _=>oChk (binC (E.T t) op (c x) (c y))
 |.unOp op _ x=>ox (unC op (c x))
 |.convert src dst x=>match E.T src,E.T dst with
  |some ts,D ti=>match l x,ts.ty,ti.ty with
   |.d (.int _) v,D (.int _),D (.int k)=>D (.leaf (.d (.int k) (k.wrap v)))
   |_,_,_=>B
  |_,_=>B
 |.makeFunc (.func f) first bT=>if first.isEmpty then (match wP rdf (bT.toList.map c) with
   |some (l,u)=>D (.val W (.one (.one (.clo f l))) u)
   |none=>B)
  else B
 |.fieldAddr t x i=>match E.T t with
  |some ti=>ox (ry rd ti i (l x))
  |none=>B
 |.field t x i=>match E.T t with
  |some ti=>match c x,ti.flds[i]? with
   |.st ls,D f=>match E.T f.2 with
    |some tf=>oCel (uN tf ((ls.drop f.1).take tf.size))
    |none=>B
   |_,_=>B
  |none=>B
 |.indexAddr t x i=>match E.T t with
  |some ti=>oChk (uQ rd ti (l x) (l i))
  |none=>B
 |.index t x i=>match E.T t with
  |some ti=>match idxV ti (c x) (l i) with
   |some (b,v)=>D (.val b (.one v) [])
   |none=>B
  |none=>B
 |.makeMap t B=>match sj E.T t with
  |some (k,v)=>if jK (rd n) then D (.val W (.one (.one (.ol n))) [(n,.live (.lst (4294967296+t) (.pair k v) [] J))]) else B
  |none=>B
 |.lookup t x i ok=>match sj E.T t with
  |some (k,v)=>match mapC rw t k v (l x) (l i) with
   |some (_,ys,q)=>match ok with
    |true=>D (.val W (.tup [pD v (@di _ _ k.keq v.dflt ys q),.one (.d .bool (@ej _ _ k.keq ys q))]) [])
    |false=>D (.cel (pD v (@di _ _ k.keq v.dflt ys q)))
   |none=>B
  |none=>B
 |.mapUpdate t x i y=>match sj E.T t with
  |some (k,v)=>match mapC rw t k v (l x) (l i),rv rdf v (c y) with
   |some (b,ys,q),D (z,u)=>D (.val W (.one (.one .dead)) (u++[(b,.live (.lst (4294967296+t) (.pair k v) (@eD _ _ k.keq ys q z) J))]))
   |_,_=>B
  |none=>B
 |.extract x i=>match ev x with
  |.tup l=>match l[i]? with
   |some c=>D (.cel c)
   |none=>B
  |_=>B
 |.call cl=>match cl.callee with
  |.builtin .len=>match cl.args.toList,cl.argTypes.toList with
   |[x],[t]=>match E.T t with
    |some ti=>ox (lenC rd ti.ty (l x))
    |none=>B
   |_,_=>B
  |.builtin .min=>ox (minC (cl.args.toList.map c))
  |.builtin .max=>ox (maxC (cl.args.toList.map c))
  |.builtin .append=>match cl.argTypes.toList,cl.args.toList with
   |[t,t'],[s,x]=>if t=t' then match E.T t with
     |some ti=>match ti.ty with
      |some (.list a)=>match appH rd ti.elem a (l s) (l x) with
       |some (b,v,u)=>D (.val b (.one (.one v)) u)
       |none=>match appS rdf ti.elem a (l s),appX rd a (l x) with
        |some (xs,frz,u),D ys=>
         if jK (rd n) then D (.val (X (xs.length+ys.length<=aM)) (.one (.one (.ol n))) (u++[(n,.live (.lst ti.elem a (xs++ys) frz))])) else B
        |_,_=>B
      |_=>B
     |none=>B
    else B
   |_,_=>B
  |.value f=>match l f with
   |.clo g bT=>match rz rw rdf E.T (E.mvf g) cl.argTypes.toList (E.modes g) (cl.args.toList.map c) with
    |some (as,us,fs)=>if bkOk us fs then D (.call g (as++bT.map qF) (yO rd rdf n us fs)) else B
    |none=>B
   |_=>B
  |.builtin .copy=>match cl.argTypes.toList,cl.args.toList with
   |[t,t'],[x,y]=>if t=t' then match E.T t with
     |some ti=>match BR rd ti.ty (l x) (l y) with
      |some (v,u)=>D (.val W (.one (.one v)) u)
      |none=>B
     |none=>B
    else B
   |_,_=>B
  |.builtin .clear=>match cl.argTypes.toList,cl.args.toList with
   |[t],[x]=>match E.T t with
    |some ti=>match BT rd ti.ty (l x) with
     |some u=>D (.val W (.one (.one .dead)) u)
     |none=>B
    |none=>B
   |_,_=>B
  |_=>B
 |.slice t x lo hi B=>match E.T t with
  |some ti=>match BP (parK E.np) rd ti n (l x) (lo.map l) (hi.map l) with
   |some (b,v,u)=>D (.val b (.one (.one v)) u)
   |none=>B
  |none=>B
 |.slice t x lo hi (D mx)=>match E.T t with
  |some ti=>match BQ rd ti (l x) (lo.map l) (hi.map l) (l mx) with
   |some b=>D (.val b (.one (.one .dead)) [])
   |none=>B
  |none=>B
 |_=>B
def St.upd(σ:St):Ups->St
 |[]=>σ
 |e::u=>(σ.setB e.1 e.2).upd u
def kill(d:H):Slot->Slot
 |.cnd s w c=>if s=d then .one (.one .dead) else .cnd s w c
 |x=>x
def St.put(σ:St)(d:F H)(s:Slot):St:=
 match d with
 |none=>σ
 |some d=>{ σ with sl:=λj=>kill d (if j=d then s else σ.sl j) }
def St.setD(σ:St)(d:F H)(s:Slot):St:=
 match d with
 |none=>σ
 |some d=>σ.setS d s
def ſ:Slot->Slot
 |.cnd _ _ _=> .one (.one .dead)
 |x=>x
def St.clear(σ:St):St:={ σ with sl:=λj=>ſ (σ.sl j) }
def mX(N:NT)(o:Æ):Bool:=
 match o.dst with
 |none=>W
 |some d=>X (d<N.n) && !N.pin d
noncomputable def yP{R:Type}(e:Y)(t f:F R):F R:=open Classical in cond e (if t=f then f else B) f
theorem juq{R:Type}(e:Y)(t:F R):yP e t t=t:=by cases e<;>simp[yP]
theorem jur{R:Type}{e:Y}{t f:F R}{r:R}(h:yP e t f=D r):f=D r/\(e=W->t=D r):=by
 cases e with
 |false=>exact⟨h,λh'=>by simp at h'⟩
 |true=>
  simp only[yP,j6]at h;split at h
  .rename_i he;exact⟨h,λ_=>he.trans h⟩
  .simp at h
def nilT(E:Env)(σ:St)(o:Æ):F Bool:=
 match o.op with
 |.binOp .eql t x y _=>match σ.ev x,σ.ev y,E.T t with
  |.one (.one (.d (.list _) xs)),.one (.one .nil),D ti=>if qE ti.ty then D (List.isEmpty xs) else B
  |_,_,_=>B
 |_=>B
noncomputable section
variable(E:Env){R:Type}
def run1(p:Y)(σ:St)(act:I (H×Y))(o:Æ)(k:St->F R):F R:=
 match cond E.nz (nilT E σ o) B with
 |some e=>yP e (k (cond p (σ.put o.dst (.one (.one (.d .bool W)))) (σ.setD o.dst (.one (.one (.d .bool W)))))) (k (cond p (σ.put o.dst (.one (.one (.d .bool J)))) (σ.setD o.dst (.one (.one (.d .bool J))))))
 |none=>
 match eF E σ.ev σ.bx act o with
 |none=>B
 |some (.val lv s u)=>cond lv (k (cond p ((σ.upd u).put o.dst s) ((σ.upd u).setD o.dst s))) B
 |some (.call f args mk)=>E.C f args R λret=>match mk ret with
  |some (s,u)=>k (cond p ((σ.upd u).put o.dst s) ((σ.upd u).setD o.dst s))
  |none=>B
def gval(σ:St)(s:H):F Bool:=
 match σ.sl s with
 |.one (.one (.d .bool v))=>D v
 |.cnd _ _ (.one (.d .bool v))=>D v
 |_=>B
def L9(r:I (H×Y))(σ:St)(s:H):F Bool:=
 match σ.sl s with
 |.one (.one (.d .bool v))=>D v
 |.cnd s' w' (.one (.d .bool v))=>if r.contains (s',w') then D v else B
 |_=>B
def actB(σ:St):I (H×Y)->F Y
 |[]=>D W
 |(s,w)::r=>match gval σ s with
  |some v=>match r with
   |[]=>D (cond w v (!v))
   |r=>match actB σ r with
    |some b=>D (b&&cond w v (!v))
    |none=>B
  |none=>B
def wS:I (H×Y)->St->(St->Y->F R)->F R
 |[],σ,k=>k σ W
 |(s,w)::r,σ,k=>wS r σ λσ1 a=>match a with
  |true=>match L9 r σ1 s with
   |some v=>cond v (k (σ1.setS s (.one (.one (.d .bool W)))) w) (k (σ1.setS s (.one (.one (.d .bool J)))) (!w))
   |none=>B
  |false=>k σ1 J
def Du(ops:È Æ)(σ:St)(o:Æ)(k:St->F R):F R:=
 match qC ops o with
 |none=>match o.guard with
  |none=>run1 E W σ [] o k
  |some _=>B
 |some g=>
  let ch:=σ.chain 40 g
  let sk:=wS ch σ λσ' a=>match a with
   |true=>run1 E W σ' ch o k
   |false=>k (σ'.put o.dst (.one (.one .dead)))
  match eF E σ.ev σ.bx ch o with
  |some (.val lv (.one c) [])=>match actB σ ch with
   |some ab=>cond (lv || !ab) (k (σ.put o.dst (.cnd g.1 g.2 c))) B
   |none=>sk
  |_=>sk
def nO:I Æ->St->(St->F R)->F R
 |[],σ,k=>k σ
 |o::os,σ,k=>if mX E.N o then run1 E J σ [] o λσ'=>nO os σ' k else B
def BU(ops:È Æ):I Æ->St->(St->F R)->F R
 |[],σ,k=>k σ.clear
 |o::os,σ,k=>if mX E.N o then Du E ops σ o λσ'=>BU ops os σ' k else B
def bare(ops:È Æ):Bool:=ops.toList.all λo=>o.guard.isNone
def rB(ops:È Æ)(σ:St)(k:St->F R):F R:=
 if bare ops then nO E ops.toList σ k else BU E ops ops.toList σ k
end
noncomputable section
variable(E:Env){R:Type}
def Ma(σ:St)(o o2:Æ):F (Y×St):=
 match o.op,o2.op with
 |.call c1,.call c2=>match c1.callee,c1.args.toList,c2.callee,c2.args.toList with
  |.value f1,[x],.value f2,[.tmp d]=>match σ.ev f1,σ.ev x,(σ.setD o.dst (.one (.one .dead))).ev f2 with
   |.one (.one (.clo fK [])),.one (.one (.ol b)),.one (.one (.clo fS []))=>match E.bw fS,σ.bx b with
    |some (W,.arr Mb (.arr e .bool)),.live (.lst em a xs _)=>match UW a xs with
     |some (c,ys)=>if Mb=fK/\o.dst=D d/\isM em=W/\isM e=J/\jK (σ.bx ((o2.dst.getD 0)*64))=W then
      D (c,((σ.setD o.dst (.one (.one .dead))).setB ((o2.dst.getD 0)*64) (.live (.lst e (.int .i64) ys J))).setD o2.dst (.one (.one (.ol ((o2.dst.getD 0)*64))))) else B
     |none=>B
    |_,_=>B
   |_,_,_=>B
  |_,_,_,_=>B
 |_,_=>B
def Mc(σ:St)(o:Æ):F (Y×St):=
 match o.op with
 |.call c1=>match c1.callee,c1.args.toList with
  |.value f1,[x,y]=>match σ.ev f1,σ.ev x,σ.ev y with
   |.one (.one (.clo fG [])),.one (.one .nil),.one (.one (.d (.int .i64) n))=>match E.bw fG,E.T o.type with
    |some (W,.arr e (.arr sz .unit)),D ti=>match ti.ty with
     |some (.list a)=>if a.size=sz/\isM e=J/\jK (σ.bx ((o.dst.getD 0)*64))=W then
      D (X (0<=n)&&X (n<=1000000),(σ.setB ((o.dst.getD 0)*64) (.live (.lst e a [] J))).setD o.dst (.one (.one (.ol ((o.dst.getD 0)*64))))) else B
     |_=>B
    |_,_=>B
   |_,_,_=>B
  |_,_=>B
 |_=>B
def runK(σ:St)(o:Æ)(k:St->F R):F R:=
 match Mc E σ o with
 |some (c,σ')=>cond c (k σ') B
 |none=>run1 E J σ [] o k
def uR:I Æ->St->(St->F R)->F R
 |[],σ,k=>k σ
 |[o],σ,k=>if mX E.N o then runK E σ o k else B
 |o::o2::os,σ,k=>if mX E.N o then match Ma E σ o o2 with
   |some (c,σ')=>if mX E.N o2 then cond c (uR os σ' k) B else B
   |none=>runK E σ o λσ'=>uR (o2::os) σ' k
  else B
def Dv(ops:È Æ)(σ:St)(k:St->F R):F R:=if bare ops then uR E ops.toList σ k else B
end
def qG(o:Æ):I Nat:=o.after.toList.filterMap λe=>if Region.binds .any e then D e.on else B
def sr(o:Æ):Bool:=match o.op with
 |.nilCheck _|.fieldAddr _ _ _|.indexAddr _ _ _=>W
 |_=>J
def uS(o:Æ):Bool:=match o.op with
 |.store _ _ _=>W
 |_=>J
def jGb(cls:I H)(o:Æ):Nat:=(qG o).foldl (λm j=>m|||(2^j|||cls.getD j 0)) 0
def Dw:I Æ->I H->I H
 |[],cls=>cls
 |o::os,cls=>Dw os (cls++[jGb cls o])
def Dx(cl:I H)(i j:H):Bool:=i==j||(cl.getD i 0).testBit j||(cl.getD j 0).testBit i
def jHZ(a b:I H):Bool:=a.all λk=> !b.contains k
def Ij(ops:È Æ)(cl:I H)(A:I (I H))(i:H)(oi:Æ)(j:H)(oj:Æ):Bool:=
 (match oj.dst with
 |some t=>i==j||(oi.dst != D t&&(!(oi.looksAt ops).contains t||Dx cl i j))
 |none=>W)&&(A.isEmpty||Dx cl i j||jHZ (A.getD i []) (A.getD j []))
def UZ(ops:È Æ)(cl:I H)(A:I (I H)):Bool:=
 ops.toList.zipIdx.all λx=>(qG x.1).all (λj=>X (j<x.2))&&(A.isEmpty || !sr x.1||(A.getD x.2 []).isEmpty)&&ops.toList.zipIdx.all λy=>Ij ops cl A x.2 x.1 y.2 y.1
def uT(ops:È Æ)(cl:I H)(A:I (I H))(i:H)(oi:Æ):I Nat:=
 if A.isEmpty then [] else ops.toList.zipIdx.flatMap λx=>if Dx cl i x.2||(sr oi&&uS x.1) then [] else A.getD x.2 []
def jY(M:I H)(rd:H->BS)(k:H):BS:=if M.contains k then .gone else rd k
noncomputable section
variable(E:Env){R:Type}
def runD(M Ai:I H)(σ:St)(o:Æ)(k:St->F R):F R:=
 match eF E σ.ev (jY M σ.bx) [] o with
 |none=>B
 |some (.val lv s u)=>if u.all (λe=>Ai.contains e.1) then cond lv (k ((σ.upd u).setD o.dst s)) B else B
 |some (.call f args mk)=>E.C f args R λret=>match mk ret with
  |some (s,u)=>if u.all (λe=>Ai.contains e.1) then k ((σ.upd u).setD o.dst s) else B
  |none=>B
def Md(σ:St)(o:Æ)(k:St->F R):F R:=k (σ.setD o.dst .und)
def Dy(ops:È Æ)(M Ai:I H)(σ:St)(o:Æ)(k:St->F R):F R:=
 match o.guard with
 |none=>runD E M Ai σ o k
 |some _=>match qC ops o with
  |some (s,wn)=>match σ.sl s with
   |.one (.one (.d .bool v))=>
    cond v (cond wn (runD E M Ai (σ.setS s (.one (.one (.d .bool W)))) o k) (Md (σ.setS s (.one (.one (.d .bool W)))) o k))
     (cond wn (Md (σ.setS s (.one (.one (.d .bool J)))) o k) (runD E M Ai (σ.setS s (.one (.one (.d .bool J)))) o k))
   |.und=>Md σ o k
   |_=>B
  |none=>B
def BV(ops:È Æ)(cl:I H)(A:I (I H)):I Æ->H->St->(St->F R)->F R
 |[],_,σ,k=>k σ
 |o::os,i,σ,k=>if mX E.N o then Dy E ops (uT ops cl A i o) (A.getD i []) σ o λσ'=>BV ops cl A os (i+1) σ' k else B
def Dz(ops:È Æ)(A:I (I H))(σ:St)(k:St->F R):F R:=
 if UZ ops (Dw ops.toList []) A then BV E ops (Dw ops.toList []) A ops.toList 0 σ k else B
end
def jZ(σ:St):Loc->Leaf
 |.slot i=>match σ.sl i with
  |.one (.one x)=>x
  |_=> .dead
 |.cell k c=>match σ.bx k with
  |.live (.cell ls J)=>ls.getD c .dead
  |_=> .dead
def DA(K:Keep)(l:Loc):F Nat:=(K.lists.find? λx=>x.locs.contains l).map (·.name)
def rC(K:Keep)(loc:F Loc):Leaf->Leaf
 |.dead=> .dead
 |.nil=>match loc.bind (DA K) with
  |some n=> .ol n
  |none=> .nil
 |.d t v=> .d t v
 |.ol k=>if K.boxes.contains k then .ol k else match loc.bind (DA K) with
  |some n=> .ol n
  |none=> .dead
 |.bp k c=>if K.boxes.contains k then .bp k c else .dead
 |.ep _ _ _=> .dead
 |.tl k i=>if K.boxes.contains k then .tl k i else .dead
 |.hd k i=>if K.boxes.contains k then .hd k i else .dead
 |.ip ls=> .ip ls
 |.clo f bT=> .clo f bT
def Ik(K:Keep)(i:H):Slot->Cel
 |.one (.one x)=> .one (rC K (D (.slot i)) x)
 |.one (.st ls)=> .st (ls.map (rC K B))
 |.one (.av n a xs)=> .av n a xs
 |_=> .one .dead
def wT(K:Keep)(k:H):BS->BS
 |.live (.cell ls frz)=> .live (.cell (ls.zipIdx.map λx=>rC K (if frz then B else D (.cell k x.2)) x.1) frz)
 |.live (.arr n a xs)=> .live (.arr n a xs)
 |.live (.lst e a xs frz)=> .live (.lst e a xs frz)
 |_=> .gone
def BW(σ:St)(e:H)(a:Ty)(l:Loc):F (F H×I a.den×Y):=
 match jZ σ l with
 |.nil=>if isM e then B else D (B,[],J)
 |.ol k=>match σ.bx k with
  |.live (.lst e' a' xs frz)=>match (TV.mk (.list a') xs).to (.list a) with
   |some dD=>if e'=e then D (D k,dD,frz) else B
   |none=>B
  |_=>B
 |_=>B
def yQ(σ:St)(e:H)(a:Ty):I Loc->F (F H×I a.den×Y)
 |[]=>B
 |[l]=>BW σ e a l
 |l::ls=>match BW σ e a l,yQ σ e a ls with
  |some (k,xs,f),D (k',_,_)=>if k=k' then D (k,xs,f) else B
  |_,_=>B
def BX(np:H)(σ:St)(bs:I H):I qB->F (I Item×I H)
 |[]=>D ([],[])
 |x::r=>match yQ σ x.e x.a x.locs,BX np σ bs r with
  |some (k,xs,f),D (is,ks)=>match k with
   |none=>D (.b (.live (.lst x.e x.a xs x.frz))::is,ks)
   |some k=>if ks.contains k||bs.contains k||parK np k then B else D (.b (.live (.lst x.e x.a xs f))::is,k::ks)
  |_,_=>B
def wU(np:H):I qB->St->F St
 |[],σ=>D σ
 |x::r,σ=>if x.frz then match x.locs with
   |l::_=>match jZ σ l with
    |.ol k=>match σ.bx k with
     |.live (.lst e a xs _)=>if parK np k||isM e then B else wU np r (σ.setB k (.live (.lst e a xs W)))
     |_=>B
    |_=>wU np r σ
   |[]=>wU np r σ
  else wU np r σ
def Keep.ok(np:H)(K:Keep):Bool:=rA (K.lists.map (·.name))&&K.lists.all λx=> !K.boxes.contains x.name && !parK np x.name
def yR(σ:St)(l:Loc)(x:Leaf):St:=
 match l with
 |.slot i=>match σ.sl i with
  |.one (.one _)=>σ.setS i (.one (.one x))
  |_=>σ
 |.cell k c=>match σ.bx k with
  |.live (.cell ls J)=>σ.setB k (.live (.cell (ls.set c x) J))
  |_=>σ
def DB(np:H):I (Loc×Ty)->St->F St
 |[],σ=>D σ
 |(l,t)::r,σ=>match lj (λk=>if parK np k then .gone else mskM σ.bx k) t (jZ σ l) with
  |some (v,u)=>DB np r (yR (σ.upd u) l (.d t v))
  |none=>B
def Me(np:H)(K:Keep)(σ:St):F Snap:=
 match BX np σ K.boxes K.lists with
 |some (is,_)=>if K.ok np then D ((K.slots.map λi=> .s (Ik K i (σ.sl i)))++((K.boxes.map λk=> .b (wT K k (σ.bx k)))++is)) else B
 |none=>B
def jL(np:H)(K:Keep)(σ:St):F Snap:=
 match DB np K.datas σ with
 |some σ1=>match wU np K.lists σ1 with
  |some σ2=>Me np K σ2
  |none=>B
 |none=>B
def yS:F Item->Slot
 |some (.s c)=> .one c
 |_=> .one (.one .dead)
def wV:F Item->BS
 |some (.b b)=>b
 |_=> .gone
def cX(np:H)(K:Keep)(s:Snap):St where
 sl:=λi=>match K.slots.idxOf? i with
  |some j=>yS s[j]?
  |none=> .one (.one .dead)
 bx:=λn=>match K.boxes.idxOf? n with
  |some j=>wV s[K.slots.length+j]?
  |none=>match (K.lists.map (·.name)).idxOf? n with
   |some j=>wV s[K.slots.length+K.boxes.length+j]?
   |none=>if parK np n then .gone else .free
def U0(o:Æ):Bool:=
 match o.op with
 |.defer _=>J
 |_=>W
def ea:Õ->Y
 |.skip=>W
 |.region _ ops _=>ops.toList.all U0
 |.seq x y=>ea x&&ea y
 |.cond _ x y=>ea x&&ea y
 |.block _ c=>ea c
 |.scope c=>ea c
 |.label _=>W
 |.exit _=>W
 |.ret=>W
 |_=>J
def wW:Õ->I H
 |.region _ ops _=>ops.toList.filterMap (·.dst)
 |.seq x y=>wW x++wW y
 |.cond _ x y=>wW x++wW y
 |.block _ c=>wW c
 |.scope c=>wW c
 |_=>[]
def BZ(ps:È H)(x y:Õ)(i:H):Bool:= !(ps.toList.contains i) && !((wW x++wW y).contains i)
def pinK(ps:È H)(x y:Õ)(K:Keep):Bool:=K.slots.all (BZ ps x y)
def Env.rnd(E:Env)(ps:È H)(x y:Õ):Env:={ E with N:=⟨E.N.n,BZ ps x y⟩ }
def isRf:Õ->Y
 |.rangeFunc .. => W
 |_=>J
def DC(kd:Y)(n:H):Int:=cond kd 1 (ä n)
def Mf(kd:Y)(n:H)(c:Ä):Bool:=cond kd (X (ä n<=c)) (X (c<=0))
def itOk(kd:Y)(n:H)(c:Ä):Bool:=cond kd (X (1<=c)) (X (c<=ä n))
def DD(kd:Y)(c:Ä):Int:=cond kd (c+1) (c-1)
def chgV:(t:Ty)->I t.den->Ä->I TV
 |.pair (.int .i64) (.pair (.int .i64) (.int .i64)),xs,c=>[⟨.pair (.int .i64) (.pair (.int .i64) (.int .i64)),
  ((Ê xs c.toNat ((0:Ä),((0:Ä),(0:Ä)))).1,((Ê xs (c-1).toNat ((0:Ä),((0:Ä),(0:Ä)))).2.2,(Ê xs c.toNat ((0:Ä),((0:Ä),(0:Ä)))).2.2))⟩]
 |_,_,_=>[]
def DE(kd:Y)(t:Ty)(xs:I t.den)(c:Ä):I TV:=cond kd (chgV t xs c) [⟨.int .i64,c-1⟩,⟨t,Ê xs (c-1).toNat t.dflt⟩]
def setL(l:I (H×TV))(σ:St):St:=l.foldl (λσ q=>σ.setS q.1 (.one (pD q.2.t q.2.v))) σ
def rE:I H->Y
 |[]=>W
 |x::r=> !(r.contains x)&&rE r
abbrev segT:Ty:= .pair (.int .i64) (.pair (.int .i64) (.int .i64))
def rfK(E:Env)(b f:H)(t:Ty)(ps:È H)(x y:Õ):F Bool:=match E.bw f with
 |some q=>cond (X (q.2=t)&&(cond q.1 (X (t=segT)) W&&(X (ps.toList.length=cond q.1 1 2)&&(rE ps.toList&&(ps.toList.all (λp=>X (p<E.N.n))&&(ea x&&(ea y&&pinK ps x y (E.keep b)))))))) (D q.1) B
 |none=>B
def rF{α β:Type}(G:α->β->F β):I (α×β)->F (I (α×β))
 |[]=>D []
 |x::r=>(G x.1 x.2).bind λz=>(rF G r).bind λr'=>D ((x.1,z)::r')
def ia(s:Snap)(em:H)(v:Ty)(zs:I (Ä×v.den)):Snap:=s.dropLast++[.b (.live (.lst em (.pair (.int .i64) v) zs J))]
def jmp(em:H)(v:Ty)(s:Snap):F (I (Ä×v.den)):=match s.getLast? with
 |some (.b (.live (.lst e a xs J)))=>if e=em then (TV.mk (.list a) xs).to (.list (.pair (.int .i64) v)) else B
 |_=>B
structure MrP where
 it:H
 d1:H
 c2:H
 d3:H
 b6:H
 ops:È Æ
 rest:Õ
def U1(o:Æ):F (H×H):=match o.op,o.dst,o.guard with
 |.next (.tmp it) J,D d,B=>D (it,d)
 |_,_,_=>B
def fstO(o:Æ):F (H×H):=match o.op,o.dst,o.guard with
 |.extract (.tmp d) 0,D c,B=>D (d,c)
 |_,_,_=>B
def entO(o:Æ):F (H×H):=match o.op,o.dst,o.guard with
 |.entry (.tmp it),D d,B=>D (it,d)
 |_,_,_=>B
def mrP(b:H):Õ->F MrP
 |.seq (.region _ ops J) (.seq (.cond (.tmp c) .skip (.exit b')) (.block b6 (.seq (.region _ uU J) rest)))=>match ops.toList,uU.toList with
  |[o1,o2],o3::_=>match U1 o1,fstO o2,entO o3 with
   |some (it,d1),D (U2,c2),D (U3,d3)=>if U2=d1/\U3=it/\c=c2/\b'=b then D ⟨it,d1,c2,d3,b6,uU,rest⟩ else B
   |_,_,_=>B
  |_,_=>B
 |_=>B
def mrC(E:Env)(b:H)(p:MrP)(m:H):Bool:=
 bare p.ops&&(ea p.rest&&(!(Ð p.it p.d1)&&(!(Ð p.it p.c2)&&(!(Ð p.it p.d3)&&(!(Ð m p.it)&&(!(Ð m p.d1)&&(!(Ð m p.c2)&&(!(Ð m p.d3) &&
  (é p.it E.N.n&&(é p.d1 E.N.n&&(é p.c2 E.N.n&&(é p.d3 E.N.n&&(!(E.keep b).slots.contains p.it&&(!(E.keep b).slots.contains p.d1 && !(E.keep b).slots.contains p.c2))))))))))))))
def B0(E:Env):Õ->Õ->Y
 |.region _ _ J,.block b (.loop _)=>(E.mr b).isSome
 |_,_=>J
def Mg:BS->Y
 |.live (.lst e _ _ _)=>isM e
 |_=>J
def Env.mrE(E:Env)(it m:H):Env:={ E with N:=⟨E.N.n,λi=>Ð i it||Nat.beq i m⟩,mr:=λ_=>B }
noncomputable section
variable(E:Env){R:Type}
def mrGo(b m m1:H)(k:Ex->St->F R)(σ:St):F R:=match σ.sl m1,σ.sl m with
 |.one (.one (.ol n)),.one (.one (.ol n'))=>cond (Ð n n'&&Mg (σ.bx n)) (match jL E.np (E.keep b) σ with
  |some s=>E.M b s R λs'=>k .normal (cX E.np (E.keep b) s')
  |none=>B) B
 |_,_=>B
def DF(x y:Õ)(σ:St)(k:Ex->St->F R):F R:=match x,y with
 |.region _ ops J,.block b (.loop c)=>match E.mr b,mrP b c,ops.toList.getLast? with
  |some (m,_),D p,D o=>match o.op,o.dst with
   |.range t (.tmp m1),D it=>cond (bare ops&&(Ð it p.it&&(mrC E b p m&&(sj E.T t).isSome))) (nO E ops.toList.dropLast σ (mrGo E b m m1 k)) B
   |_,_=>B
  |_,_,_=>B
 |_,_=>B
end
noncomputable section
variable(E:Env){R:Type}
def gp:H->Õ->St->(Ex->St->F R)->F R
 |_,.skip,σ,k=>k .normal σ
 |_,.region id ops J,σ,k=>cond (E.ks id) (Dv E ops σ λσ'=>k .normal σ') (rB E ops σ λσ'=>k .normal σ')
 |_,.region id ops W,σ,k=>Dz E ops (E.dw id) σ λσ'=>k .normal σ'
 |b,.seq x y,σ,k=>cond (B0 E x y) (DF E x y σ k) (gp b x σ λe σ'=>match e with
  |.normal=>gp b y σ' k
  |e=>k e σ')
 |b,.cond c x y,σ,k=>match σ.ev c with
  |.one (.one (.d .bool v))=>cond v (gp b x σ k) (gp b y σ k)
  |_=>B
 |_,.block id c,σ,k=>gp id c σ λe σ'=>match e with
  |.exit i=>if i=id then k .normal σ' else k (.exit i) σ'
  |e=>k e σ'
 |b,.loop c,σ,k=>cond (isRf c) B (match jL E.np (E.keep b) σ with
  |some s=>E.L b s R λe s'=>k e (cX E.np (E.keepX b e) s')
  |none=>B)
 |b,.rangeFunc g ps x y,σ,k=>match σ.ev g with
  |.one (.one (.clo f [.p [⟨.list t,xs⟩]]))=>match rfK E b f t ps x y with
   |some kd=>match jL E.np (E.keep b) σ with
    |some s=>E.L b (.s (.one (.d (.int .i64) (DC kd (Å xs))))::s) R λe s'=>k e (cX E.np (E.keepX b e) s')
    |none=>B
   |none=>B
  |_=>B
 |b,.scope c,σ,k=>gp b c σ k
 |_,.label _,σ,k=>k .normal σ
 |_,.exit i,σ,k=>k (.exit i) σ
 |_,.ret,σ,k=>k .ret σ
 |_,_,_,_=>B
def yT(b:H)(c:Õ)(s:Snap):F (Snap ⊕ Ex×Snap):=
 gp E b c (cX E.np (E.keep b) s) λe σ=>match e with
  |.normal=>match jL E.np (E.keep b) σ with
   |some s'=>D (.inl s')
   |none=>B
  |e=>match jL E.np (E.keepX b e) σ with
   |some s'=>D (.inr (e,s'))
   |none=>B
def DG(b:H)(g:Ì)(ps:È H)(x y:Õ)(s:Snap)(K:F (I Item)->Ex->St->F R):F R:=
 match s with
 |.s (.one (.d (.int .i64) n))::s0=>match (cX E.np (E.keep b) s0).ev g with
  |.one (.one (.clo f [.p [⟨.list t,xs⟩]]))=>match rfK E b f t ps x y with
   |some kd=>cond (Mf kd (Å xs) n) (K B .normal (cX E.np (E.keep b) s0)) (cond (itOk kd (Å xs) n)
    (gp (E.rnd ps x y) 0 x (setL (ps.toList.zip (DE kd t xs n)) (cX E.np (E.keep b) s0)) λe σ=>match e with
     |.normal=>gp (E.rnd ps x y) 0 y σ (K (D [.s (.one (.d (.int .i64) (DD kd n)))]))
     |_=>B) B)
   |none=>B
  |_=>B
 |_=>B
def B1(b:H)(g:Ì)(ps:È H)(x y:Õ)(s:Snap):F (Snap ⊕ Ex×Snap):=
 DG E b g ps x y s λp e σ=>match p,e with
  |some q,.normal=>match jL E.np (E.keep b) σ with
   |some s'=>D (.inl (q++s'))
   |none=>B
  |_,e=>cond (pinK ps x y (E.keepX b e)) (match jL E.np (E.keepX b e) σ with
   |some s'=>D (.inr (e,s'))
   |none=>B) B
def mrNx(b6:H):Ex->Y
 |.normal=>W
 |.exit i=>Ð i b6
 |.ret=>J
def B2(b:H)(p:MrP)(m:H)(s:Snap)(v:Ty)(q:Ä)(z:v.den)(k:Snap->F R):F R:=
 nO (E.mrE p.it m) p.ops.toList.tail ((cX E.np (E.keep b) s).setD (D p.d3) (.tup [.one (.d (.int .i64) q),pD v z])) λσ1=>
  gp (E.mrE p.it m) p.b6 p.rest σ1 λe σ2=>cond (mrNx p.b6 e) (match jL E.np (E.keep b) σ2 with
   |some s'=>k s'
   |none=>B) B
def Mh(b:H):Õ->Snap->F (Snap ⊕ Ex×Snap)
 |.rangeFunc g ps x y,s=>B1 E b g ps x y s
 |c,s=>yT E b c s
end
def loopN{α β:Type}(f:α->F (α ⊕ β)):H->α->F β
 |0,_=>B
 |n+1,s=>match f s with
  |some (.inl s')=>loopN f n s'
  |some (.inr x)=>D x
  |none=>B
def Il(i:H):Arg->Cel
 |.v x=>pD x.t x.v
 |.ref _=> .one (.bp (i*64) 0)
 |.rl _ _=> .one (.ol (i*64))
 |.ip ls=> .one (.ip ls)
 |.clo f bT=> .one (.clo f bT)
 |.mv _ _=> .one (.ol (i*64+63))
def nP:F Arg->BS
 |some (.ref ls)=> .live (.cell (ls.map TV.leaf) J)
 |some (.rl e ⟨.list a,xs⟩)=> .live (.lst e a xs J)
 |_=> .free
def uV:F Arg->BS
 |some (.mv e ⟨.list a,xs⟩)=> .live (.lst e a xs J)
 |_=> .free
def St.init(args:I Arg):St where
 sl:=λi=>match args[i]? with
  |some a=> .one (Il i a)
  |none=> .one (.one .dead)
 bx:=λn=>if n%64=0 then nP args[n/64]? else if n%64=63 then uV args[n/64]? else .free
def rvOf(E:Env)(rd:H->BS)(own:Y)(t:H)(c:Cel):F (RV×I H×Ups):=
 match c with
 |.one (.bp k 0)=>match rd k with
  |.live (.cell ls J)=>match tvs rd ls with
   |some (xs,u)=>D (.box xs,[k],u)
   |none=>B
  |_=>B
 |.one (.clo f bT)=>D (.clo f bT,[],[])
 |c=>match E.T t with
  |some ti=>match ti.ty with
   |some ty=>match own with
    |true=>match c,ty with
     |.one .nil,.list a=>D (.own ti.elem ⟨.list a,[]⟩,[],[])
     |.one (.ol k),_=>match rd k with
      |.live (.lst e a xs J)=>D (.own e ⟨.list a,xs⟩,[k],[])
      |_=>B
     |_,_=>B
    |false=>match rv rd ty c with
     |some (x,u)=>D (.v ⟨ty,x⟩,[],u)
     |none=>B
   |none=>B
  |none=>B
def B3(E:Env)(σ:St):ê->F Cel
 |.tmp t=>match σ.sl t with
  |.one c=>D c
  |_=>B
 |.cell a t=>match E.T t,σ.sl a with
  |some ti,.one (.one x)=>qD (mskM σ.bx) ti x
  |_,_=>B
def uW(E:Env)(σ:St):I Y->I ê->I H->F (I RV×I H×Ups)
 |_,[],_=>D ([],[],[])
 |os,r::rs,ts=>match B3 E σ r with
  |some c=>match rvOf E (λk=>if parK E.np k then .gone else mskM σ.bx k) (os.headD J) (ts.headD 0) c with
   |some (v,ks,u)=>match uW E σ os.tail rs ts.tail with
    |some (vs,U4,u')=>D (v::vs,ks++U4,u++u')
    |none=>B
   |none=>B
  |none=>B
def outs(np:H)(σ:St):H->I Arg->F (I Out×Ups)
 |_,[]=>D ([],[])
 |i,a::as=>match outs np σ (i+1) as with
  |some (os,u)=>match a with
   |.ref _=>match σ.bx (i*64) with
    |.live (.cell ls J)=>match tvs (λk=>if parK np k then .gone else mskM σ.bx k) ls with
     |some (xs,u')=>D (.ref xs::os,u'++u)
     |none=>B
    |_=>B
   |.rl e x=>match σ.bx (i*64) with
    |.live (.lst e' a xs J)=>if e'=e/\x.t = .list a then D (.rl ⟨.list a,xs⟩::os,u) else B
    |_=>B
   |_=>D (os,u)
  |none=>B
def hdOf(σ:St):Leaf->F H
 |.ol 0=>match σ.bx 0 with
  |.live (.lst e _ xs J)=>if isM e then B else D xs.length
  |_=>B
 |.hd 0 i=>match σ.bx 0 with
  |.live (.lst _ _ _ J)=>D i
  |_=>B
 |_=>B
def U5(E:Env)(fn:Func)(args:I Arg)(σ:St):F Ret:=
 match args,fn.results.toList with
 |.rl _ _::_,[r]=>match B3 E σ r,outs E.np σ 0 args with
  |some (.one l),D (os,_)=>match hdOf σ l with
   |some m=>D ⟨[.hd m],os⟩
   |none=>B
  |_,_=>B
 |_,_=>B
def nilV(E:Env)(σ:St)(rs:I ê)(vs:I RV):F (I RV):=
 if E.ns.isEmpty then D vs else match rs,vs with
  |[r],[.v x]=>match B3 E σ r with
   |some (.st ls)=>if E.ns.all (λi=>match ls[i]? with|some .nil=>W|_=>J) then D [.vn x E.ns] else B
   |_=>B
  |_,_=>B
def yU(E:Env)(fn:Func)(args:I Arg)(σ:St):F Ret:=
 if E.hd then U5 E fn args σ else
 match uW E σ E.ro fn.results.toList fn.resultTypes.toList,outs E.np σ 0 args with
 |some (vs,ks,u),D (os,u')=>
  if rA ks&&(u++u').all (λe=> !ks.contains e.1) then match nilV E σ fn.results.toList vs with
   |some mG=>D ⟨mG,os⟩
   |none=>B
  else B
 |_,_=>B
noncomputable def uX(E:Env){R:Type}(fn:Func)(args:I Arg)(k:Ret->F R):F R:=
 if args.length=E.np then match fn.body with
 |some c=>gp E 0 c (St.init args) λe σ=>match e with
  |.exit _=>B
  |_=>match yU E fn args σ with
   |some r=>k r
   |none=>B
 |none=>B
 else B
def All2{α β:Type}(R:α->β->Prop):I α->I β->Prop
 |[],[]=>True
 |a::as,b::bs=>R a b/\All2 R as bs
 |_,_=>ß
section All2
variable{α β γ:Type}{R R':α->β->Prop}
theorem All2.length:∀{as:I α}{bs:I β},All2 R as bs->as.length=bs.length
 |[],[],_=>rfl
 |_::_,_::_,h=>by simp[All2.length h.2]
 |[],_::_,h=>h.elim
 |_::_,[],h=>h.elim
theorem All2.mono(hr:∀a b,R a b->R' a b):∀{as:I α}{bs:I β},All2 R as bs->All2 R' as bs
 |[],[],_=>trivial
 |_::_,_::_,h=>⟨hr _ _ h.1,All2.mono hr h.2⟩
 |[],_::_,h=>h.elim
 |_::_,[],h=>h.elim
theorem All2.get:∀{as:I α}{bs:I β},All2 R as bs->∀(i:H)(a:α),as[i]? = D a->∃b,bs[i]? = D b/\R a b
 |[],[],_,i,a,h=>by simp at h
 |a::as,b::bs,h,0,a',he=>by simp at he;subst he;exact⟨b,ae,h.1⟩
 |a::as,b::bs,h,i+1,a',he=>by
  obtain⟨b',hb,hr⟩:=All2.get h.2 i a' (by simpa using he);exact⟨b',by simpa using hb,hr⟩
 |[],_::_,h,_,_,_=>h.elim
 |_::_,[],h,_,_,_=>h.elim
theorem All2.append:∀{as:I α}{bs:I β}{Im:I α}{U6:I β},All2 R as bs->All2 R Im U6->All2 R (as++Im) (bs++U6)
 |[],[],_,_,_,h'=>h'
 |_::_,_::_,_,_,h,h'=>⟨h.1,All2.append h.2 h'⟩
 |[],_::_,_,_,h,_=>h.elim
 |_::_,[],_,_,h,_=>h.elim
theorem All2.take:∀{as:I α}{bs:I β},All2 R as bs->∀n,All2 R (as.take n) (bs.take n)
 |[],[],_,n=>by simp[All2]
 |_::_,_::_,_,0=>by simp[All2]
 |_::_,_::_,h,n+1=>⟨h.1,All2.take h.2 n⟩
 |[],_::_,h,_=>h.elim
 |_::_,[],h,_=>h.elim
theorem All2.drop:∀{as:I α}{bs:I β},All2 R as bs->∀n,All2 R (as.drop n) (bs.drop n)
 |[],[],_,n=>by simp[All2]
 |_::_,_::_,h,0=>h
 |_::_,_::_,h,n+1=>All2.drop h.2 n
 |[],_::_,h,_=>h.elim
 |_::_,[],h,_=>h.elim
theorem All2.set:∀{as:I α}{bs:I β},All2 R as bs->∀i a b,R a b->All2 R (as.set i a) (bs.set i b)
 |[],[],_,i,_,_,_=>by simp[All2]
 |_::_,_::_,h,0,_,_,hr=>⟨hr,h.2⟩
 |_::_,_::_,h,i+1,_,_,hr=>⟨h.1,All2.set h.2 i _ _ hr⟩
 |[],_::_,h,_,_,_,_=>h.elim
 |_::_,[],h,_,_,_,_=>h.elim
theorem All2.map_left{f:γ->α}:∀{cs:I γ}{bs:I β},All2 R (cs.map f) bs↔All2 (λc b=>R (f c) b) cs bs
 |[],[]=>Iff.rfl
 |_::_,_::_=>and_congr_right λ_=>All2.map_left
 |[],_::_=>Iff.rfl
 |_::_,[]=>Iff.rfl
theorem All2.mem_right:∀{as:I α}{bs:I β},All2 R as bs->∀b∈bs,∃a∈as,R a b
 |[],[],_,b,hb=>by simp at hb
 |a::as,b::bs,h,b',hb=>by
  rcases je.1 hb with rfl|hb
  .exact⟨a,ae,h.1⟩
  .obtain⟨a',ha,hr⟩:=All2.mem_right h.2 b' hb;exact⟨a',by simp[ha],hr⟩
 |[],_::_,h,_,_=>h.elim
 |_::_,[],h,_,_=>h.elim
end All2
theorem Io{α β γ:Type}{R:α->β->Prop}{R':γ->β->Prop}{ls:I α}{xs:I γ}{l:I β}(h:All2 R ls (l.take ls.length))(h':All2 R' xs (l.take ls.length)):xs.length=ls.length:=
 h'.length.trans h.length.symm
def One(u:O):Prop:=u.oneCell'=W
abbrev aU:=H->H->Prop
def Lies(S:aU)(w:À)(g o:H)(cs:I O):Prop:=
 ∀j v,cs[j]? = D v->S g (o+j)/\w.cell? ⟨g,o+j,B⟩=D v
def Rep(S:aU)(w:À):(t:Ty)->t.den->I O->Prop
 |.int k,n,cs=>cs=[.int k n]
 |.bool,b,cs=>cs=[.bool b]
 |.str,s,cs=>cs=[.string s]
 |.unit,_,cs=>cs=[]
 |.wrap a,v,cs=>Rep S w a v cs
 |.pair a b,v,cs=>∃c1 c2,cs=c1++c2/\Rep S w a v.1 c1/\Rep S w b v.2 c2
 |.list a,xs,cs=>∃ad cap,cs=[.slice ad (Å xs) cap]/\Å xs<=cap/\cap<=maxLen/\(ad=B->cap=0)/\
  ∀b,ad=D b->(xs≠[]->b.spot=B)/\∃css,All2 (λx c=>Rep S w a x c) xs css/\Lies S w b.block b.off css.flatten
 |.arr n a,xs,cs=>Å xs=n/\∃css,All2 (λx c=>Rep S w a x c) xs css/\cs=css.flatten
def ee(S:aU)(w:À)(S':aU)(w':À):Prop:=
 ∀g o,S g o->S' g o/\w'.cell? ⟨g,o,B⟩=w.cell? ⟨g,o,B⟩
theorem ee.refl(S:aU)(w:À):ee S w S w:=λ_ _ h=>⟨h,rfl⟩
theorem ee.trans{S S' U7:aU}{w w' yV:À}(h:ee S w S' w')(h':ee S' w' U7 yV):ee S w U7 yV:=
 λg o hs=>⟨(h' g o (h g o hs).1).1,((h' g o (h g o hs).1).2).trans (h g o hs).2⟩
theorem Lies.keep{S S':aU}{w w':À}(h:ee S w S' w'){g o:H}{cs:I O}(hl:Lies S w g o cs):Lies S' w' g o cs:=
 λj v hv=>let ⟨hs,hc⟩:=hl j v hv;⟨(h _ _ hs).1,(h _ _ hs).2.trans hc⟩
theorem Rep.keep{S S':aU}{w w':À}(h:ee S w S' w'):∀(t:Ty)(v:t.den)(cs:I O),Rep S w t v cs->Rep S' w' t v cs
 |.int _,_,_,hr=>hr
 |.bool,_,_,hr=>hr
 |.str,_,_,hr=>hr
 |.unit,_,_,hr=>hr
 |.wrap a,v,cs,hr=>Rep.keep h a v cs hr
 |.pair a b,_,_,⟨c1,c2,e,h1,h2⟩=>⟨c1,c2,e,Rep.keep h a _ _ h1,Rep.keep h b _ _ h2⟩
 |.list a,_,_,⟨ad,cap,e,h1,h2,h3,h4⟩=>⟨ad,cap,e,h1,h2,h3,λb hb=>by
  obtain⟨hs,css,ha,hl⟩:=h4 b hb;exact⟨hs,css,ha.mono (λx c hx=>Rep.keep h a x c hx),hl.keep h⟩⟩
 |.arr _ a,_,_,⟨hn,css,ha,e⟩=>⟨hn,css,ha.mono (λx c hx=>Rep.keep h a x c hx),e⟩
theorem All2.flatten_length{α:Type}{R:α->I O->Prop}{n:H}(hr:∀x c,R x c->c.length=n) :
  ∀{xs:I α}{css:I (I O)},All2 R xs css->css.flatten.length=xs.length*n
 |[],[],_=>ae
 |_::xs,c::css,h=>by
  have:=All2.flatten_length hr h.2;simp only[qd,jf,hr _ _ h.1,this,jk,ð];omega
 |[],_::_,h=>h.elim
 |_::_,[],h=>h.elim
theorem Rep.length{S:aU}{w:À}:∀(t:Ty)(v:t.den)(cs:I O),Rep S w t v cs->cs.length=t.size
 |.int _,_,_,hr=>by rw[hr];rfl
 |.bool,_,_,hr=>by rw[hr];rfl
 |.str,_,_,hr=>by rw[hr];rfl
 |.unit,_,_,hr=>by rw[hr];rfl
 |.wrap a,v,cs,hr=>Rep.length a v cs hr
 |.pair a b,_,_,⟨c1,c2,e,h1,h2⟩=>by rw[e,jf,Rep.length a _ _ h1,Rep.length b _ _ h2];rfl
 |.list _,_,_,⟨ad,cap,e,_⟩=>by rw[e];rfl
 |.arr n a,xs,cs,⟨hn,css,ha,e⟩=>by
  rw[e,All2.flatten_length (λx c hx=>Rep.length a x c hx) ha,hn];rfl
theorem Rep.one{S:aU}{w:À}:∀(t:Ty)(v:t.den)(cs:I O),Rep S w t v cs->∀u∈cs,One u
 |.int _,_,_,hr=>by rw[hr];intro u hu;simp at hu;subst hu;rfl
 |.bool,_,_,hr=>by rw[hr];intro u hu;simp at hu;subst hu;rfl
 |.str,_,_,hr=>by rw[hr];intro u hu;simp at hu;subst hu;rfl
 |.unit,_,_,hr=>by rw[hr];intro u hu;simp at hu
 |.wrap a,v,cs,hr=>Rep.one a v cs hr
 |.pair a b,_,_,⟨c1,c2,e,h1,h2⟩=>by
  rw[e];intro u hu;rcases jn.1 hu with hu|hu
  .exact Rep.one a _ _ h1 u hu
  .exact Rep.one b _ _ h2 u hu
 |.list _,_,_,⟨ad,cap,e,_⟩=>by rw[e];intro u hu;simp at hu;subst hu;rfl
 |.arr n a,xs,cs,⟨hn,css,ha,e⟩=>by
  rw[e];intro u hu;obtain⟨c,hc,yW⟩:=List.mem_flatten.1 hu;obtain⟨x,_,hx⟩:=ha.mem_right c hc;exact Rep.one a x c hx u yW
def kN(S:aU)(w:À):Cap->O->Prop
 |.v x,u=>x.t.leafy=W/\Rep S w x.t x.v [u]
 |.p ls,u=>∃g o cs,u = .pointer (D ⟨g,o,B⟩)/\All2 (λx z=>Rep S w x.t x.v [z]) ls cs/\Lies S w g o cs
def cA(S:aU)(w:À)(γ:H->O)(bx:H->BS):Leaf->O->Prop
 |.dead,_=>True
 |.nil,u=>u = .slice B 0 0
 |.d t v,u=>Rep S w t v [u]
 |.ol k,u=>bx k ≠ .free/\One u/\∀b,bx k = .live b->u=γ k
 |.bp k c,u=>bx k ≠ .free/\One u/\∀b,bx k = .live b->∃g,γ k = .pointer (D ⟨g,0,B⟩)/\u = .pointer (D ⟨g,c,B⟩)
 |.ep k i c,u=>bx k ≠ .free/\One u/\∀b,bx k = .live b->match b with
  |.lst e a xs _=>isM e=J/\i<xs.length/\∃g cap,γ k = .slice (D ⟨g,0,B⟩) xs.length cap/\u = .pointer (D ⟨g,i*a.size+c,B⟩)
  |.arr n a _=>i<n/\∃g,γ k = .pointer (D ⟨g,0,B⟩)/\u = .pointer (D ⟨g,i*a.size+c,B⟩)
  |.cell _ _=>ß
 |.tl k i,u=>bx k ≠ .free/\One u/\∀b,bx k = .live b->match b with
  |.lst e a xs _=>isM e=J/\i<=xs.length/\∃ad cap,γ k = .slice ad xs.length cap/\u = .slice (if cap=i then ad else ad.map (·.add (i*a.size))) (xs.length-i) (cap-i)
  |.arr _ _ _=>ß
  |.cell _ _=>ß
 |.hd k i,u=>bx k ≠ .free/\One u/\∀b,bx k = .live b->match b with
  |.lst e _ xs _=>isM e=J/\i<=xs.length/\∃ad cap,γ k = .slice ad xs.length cap/\u = .slice ad i cap
  |.arr _ _ _=>ß
  |.cell _ _=>ß
 |.ip ls,u=>∃g o cs,u = .pointer (D ⟨g,o,B⟩)/\All2 (λx z=>Rep S w x.t x.v [z]) ls cs/\Lies S w g o cs
 |.clo f bT,u=>∃cv:È O,u = .func (.func f) #[] cv/\All2 (kN S w) bT cv.toList
def cF(S:aU)(w:À)(γ:H->O)(bx:H->BS):Cel->O->Prop
 |.one x,u=>cA S w γ bx x u/\(x ≠ .dead->One u)
 |.st ls,u=>∃cs:È O,u = .agg cs/\All2 (cA S w γ bx) ls cs.toList/\∀x∈cs.toList,One x
 |.av n a xs,u=>∃cs:È O,u = .agg cs/\Rep S w (.arr n a) xs cs.toList
def jF(S:aU)(w:À)(γ:H->O)(bx:H->BS)(tm:H->O):Slot->O->Prop
 |.one c,u=>cF S w γ bx c u
 |.tup l,u=>∃vs:È O,u = .tuple vs/\All2 (cF S w γ bx) l vs.toList
 |.cnd s b c,u=>(tm s = .bool b/\cF S w γ bx c u)\/(tm s ≠ .bool b/\u=undef)
 |.und,u=>u=undef
def blk:O->F H
 |.pointer (D a)=>D a.block
 |.slice (D a) _ _=>D a.block
 |.map (D g)=>D g
 |_=>B
def jM:Ty->Y
 |.arr _ _=>W
 |t=>t.agg
def VRep(S:aU)(w:À)(x:TV)(u:O):Prop:=
 Rep S w x.t x.v u.cells.toList/\(jM x.t=W->∃cs,u = .agg cs)/\(jM x.t=J->One u)
theorem VRep.keep{S S':aU}{w w':À}(h:ee S w S' w'){x:TV}{u:O}(hv:VRep S w x u):VRep S' w' x u:=
 ⟨Rep.keep h _ _ _ hv.1,hv.2⟩
def wX(es:È MapEntry)(clock:H):Prop:=MapKept.Stamped es clock/\es.toList.map (·.born)=Ó clock
def DH(S:aU)(w:À):(a:Ty)->I a.den->O->Prop
 |.pair k b,xs,u=>∃g es clock,u = .map (D g)/\w.heap[g]? = D (.map es clock)/\All2 (λ(x:k.den×b.den)(e:MapEntry)=>Rep S w k x.1 [e.key]/\VRep S w ⟨b,x.2⟩ e.val) xs es.toList/\wX es clock
 |_,_,_=>ß
def su(S:aU)(w:À)(e:H)(a:Ty)(xs:I a.den)(u:O):Prop:=
 (isM e=J/\∃css,w.ownsRow 0 e a.size u xs.length css.flatten/\All2 (λx c=>Rep S w a x c) xs css)\/(isM e=W/\DH S w a xs u)
theorem DH.keep{S S':aU}{w w':À}(h:ee S w S' w'):∀{a:Ty}{xs:I a.den}{u:O},(∀g,blk u=D g->w'.heap[g]? = w.heap[g]?)->DH S w a xs u->DH S' w' a xs u
 |.pair k b,xs,u,hg,⟨g,es,clock,hu,hh,ha,hq⟩=>⟨g,es,clock,hu,(hg g (by rw[hu];rfl)).trans hh,ha.mono λx e hx=>⟨Rep.keep h _ _ _ hx.1,VRep.keep h hx.2⟩,hq⟩
theorem su.keep{S S':aU}{w w':À}(h:ee S w S' w'){e:H}{a:Ty}{xs:I a.den}{u:O}(hg:∀g,blk u=D g->w'.heap[g]? = w.heap[g]?)(hl:su S w e a xs u):su S' w' e a xs u:=by
 rcases hl with⟨hm,css,h1,h2⟩|⟨hm,h1⟩
 .refine .inl ⟨hm,css,⟨h1.1,?_⟩,h2.mono (λx c hx=>Rep.keep h _ _ _ hx)⟩;rcases h1.2 with hn|⟨g,cap,cur,hv,gq,hh,rest⟩
  .exact .inl hn
  .exact .inr ⟨g,cap,cur,hv,gq,(hg g (by rw[hv];rfl)).trans hh,rest⟩
 .exact .inr ⟨hm,h1.keep h hg⟩
theorem su.lt{S:aU}{w:À}{e:H}{a:Ty}{xs:I a.den}{u:O}(hl:su S w e a xs u){g:H}(hg:blk u=D g):g<w.heap.size:=by
 rcases hl with⟨hm,css,h1,h2⟩|⟨hm,h1⟩
 .rcases h1.2 with⟨hn,_⟩|⟨g',cap,cur,hv,gq,hh,rest⟩
  .rw[hn]at hg;simp[blk]at hg
  .rw[hv]at hg;simp[blk]at hg;subst hg;exact(ji.1 hh).1
 .revert h1
  cases a with
  |pair k b=>
   rintro⟨g',es,clock,hu,hh,ha⟩
   rw[hu]at hg;simp[blk]at hg;subst hg;exact(ji.1 hh).1
  |_=>exactλh=>h.elim
theorem su.one{S:aU}{w:À}{e:H}{a:Ty}{xs:I a.den}{u:O}(hl:su S w e a xs u):One u:=by
 rcases hl with⟨hm,css,h1,h2⟩|⟨hm,h1⟩
 .rcases h1.2 with⟨hn,_⟩|⟨g',cap,cur,hv,_⟩
  .rw[hn];rfl
  .rw[hv];rfl
 .revert h1
  cases a with
  |pair k b=>rintro⟨g',es,clock,hu,_⟩;rw[hu];rfl
  |_=>exactλh=>h.elim
def fM(S:aU)(w:À)(γ:H->O)(bx:H->BS)(k:H):Bx->Prop
 |.cell ls frz=>∃g cur e,γ k = .pointer (D ⟨g,0,B⟩)/\w.heap[g]? = D (.cells cur e (0,0))/\All2 (cA S w γ bx) ls (cur.toList.take ls.length)/\
  (∀u∈cur.toList.take ls.length,One u)/\(frz=J->∀o,¬S g o)/\(frz=W->∀o,o<cur.size->S g o)
 |.lst e a xs frz=>su S w e a xs (γ k)/\
  ∀g,blk (γ k)=D g->(frz=J->∀o,¬S g o)/\(frz=W->∀o,S g o↔o<xs.length*a.size)
 |.arr n a xs=>∃g cur e,γ k = .pointer (D ⟨g,0,B⟩)/\w.heap[g]? = D (.cells cur e (0,0))/\Rep S w (.arr n a) xs cur.toList/\∀o,¬S g o
theorem kA{S:aU}{w:À}{γ:H->O}{bx:H->BS}{k e:H}{a:Ty}{xs:I a.den}{frz:Y}(hm:isM e=J)(h:fM S w γ bx k (.lst e a xs frz)) :
  ∃css,w.ownsRow 0 e a.size (γ k) xs.length css.flatten/\All2 (λx c=>Rep S w a x c) xs css/\
   ∀g,blk (γ k)=D g->(frz=J->∀o,¬S g o)/\(frz=W->∀o,S g o↔o<xs.length*a.size):=by
 obtain⟨h1,h2⟩:=h;rcases h1 with⟨_,css,h3,h4⟩|⟨h3,_⟩
 .exact⟨css,h3,h4,h2⟩
 .rw[hm]at h3;simp at h3
theorem Ip{S:aU}{w:À}{γ:H->O}{bx:H->BS}{k e:H}{a:Ty}{xs:I a.den}{frz:Y}{ad:F Addr}{n c:H}(hs:γ k = .slice ad n c)(h:fM S w γ bx k (.lst e a xs frz)) :
  ∃css,w.ownsRow 0 e a.size (γ k) xs.length css.flatten/\All2 (λx c=>Rep S w a x c) xs css/\
   ∀g,blk (γ k)=D g->(frz=J->∀o,¬S g o)/\(frz=W->∀o,S g o↔o<xs.length*a.size):=by
 obtain⟨h1,h2⟩:=h;rcases h1 with⟨_,css,h3,h4⟩|⟨_,h3⟩
 .exact⟨css,h3,h4,h2⟩
 .revert h3
  rw[hs];cases a with
  |pair k b=>rintro⟨g',es,clock,hu,_⟩;simp at hu
  |_=>exactλh=>h.elim
theorem U8{S:aU}{w:À}{γ:H->O}{bx:H->BS}{k e:H}{a:Ty}{xs:I a.den}{frz:Y}{ad:F Addr}{n c:H}(hs:γ k = .slice ad n c)(h:fM S w γ bx k (.lst e a xs frz)):isM e=false:=by
 rcases h.1 with⟨h1,_⟩|⟨_,h3⟩
 .exact h1
 .revert h3
  rw[hs];cases a with
  |pair k b=>rintro⟨g',es,clock,hu,_⟩;simp at hu
  |_=>exactλh=>h.elim
theorem DI{S:aU}{w:À}{γ:H->O}{bx:H->BS}{k e:H}{a:Ty}{xs:I a.den}{frz:Y}(hm:isM e=J) (h:∃css,w.ownsRow 0 e a.size (γ k) xs.length css.flatten/\All2 (λx c=>Rep S w a x c) xs css/\
  ∀g,blk (γ k)=D g->(frz=J->∀o,¬S g o)/\(frz=W->∀o,S g o↔o<xs.length*a.size)):fM S w γ bx k (.lst e a xs frz):=by
 obtain⟨css,h1,h2,h3⟩:=h;exact⟨.inl ⟨hm,css,h1,h2⟩,h3⟩
def lx:Bx->Bx->Prop
 |.cell _ _,.cell _ _=>True
 |.lst e a xs _,.lst e' a' dD _=>e=e'/\a=a'/\(isM e=J->xs.length=dD.length)
 |.arr n a _,.arr n' a' _=>n=n'/\a=a'
 |_,_=>ß
theorem lx.refl(b:Bx):lx b b:=by cases b<;>simp[lx]
theorem lx.trans{a b c:Bx}(h:lx a b)(h':lx b c):lx a c:=by
 cases a<;>cases b<;>cases c<;>simp only[lx]at h h' ⊢ <;> first
  |exact h.elim
  |exact h'.elim
  |(obtain⟨rfl,rfl,h3⟩:=h;obtain⟨rfl,rfl,h4⟩:=h';exact⟨rfl,rfl,λhm=>(h3 hm).trans (h4 hm)⟩)
  |exact⟨h.1.trans h'.1,h.2.trans h'.2⟩
def BxLe(γ:H->O)(bx:H->BS)(γ':H->O)(bx':H->BS):Prop:=
 ∀k,bx k ≠ .free->bx' k ≠ .free/\γ' k=γ k/\∀b',bx' k = .live b'->∃b,bx k = .live b/\lx b b'
theorem BxLe.refl(γ:H->O)(bx:H->BS):BxLe γ bx γ bx:=λ_ h=>⟨h,rfl,λb hb=>⟨b,hb,.refl b⟩⟩
section keeps
variable{S S':aU}{w w':À}{γ γ':H->O}{bx bx':H->BS}(hk:ee S w S' w')(hb:BxLe γ bx γ' bx')
include hk
theorem kN.keep{x:Cap}{u:O}(h:kN S w x u):kN S' w' x u:=by
 cases x with
 |v x=>exact⟨h.1,Rep.keep hk _ _ _ h.2⟩
 |p ls=>obtain⟨g,o,cs,hu,ha,hl⟩:=h;exact⟨g,o,cs,hu,ha.mono (λx z hx=>Rep.keep hk _ _ _ hx),hl.keep hk⟩
include hb
theorem cA.keep{x:Leaf}{u:O}(h:cA S w γ bx x u):cA S' w' γ' bx' x u:=by
 cases x with
 |dead=>trivial
 |nil=>exact h
 |d t v=>exact Rep.keep hk _ _ _ h
 |ol k=>obtain⟨h1,h2,h3⟩:=h;obtain⟨b1,b2,b3⟩:=hb k h1;exact⟨b1,h2,λb aW=>by obtain⟨b0,gq,_⟩:=b3 b aW;rw[b2];exact h3 b0 gq⟩
 |bp k c=>obtain⟨h1,h2,h3⟩:=h;obtain⟨b1,b2,b3⟩:=hb k h1;exact⟨b1,h2,λb aW=>by obtain⟨b0,gq,_⟩:=b3 b aW;rw[b2];exact h3 b0 gq⟩
 |ep k i c=>
  obtain⟨h1,h2,h3⟩:=h;obtain⟨b1,b2,b3⟩:=hb k h1;refine⟨b1,h2,λb aW=>?_⟩;obtain⟨b0,gq,hs⟩:=b3 b aW;have h4:=h3 b0 gq;rw[b2]
  cases b0<;>cases b<;>simp only[lx]at hs<;>first
   |exact hs.elim
   |exact h4.elim
   |(obtain⟨rfl,rfl,hl⟩:=hs;simp only at h4 ⊢;obtain⟨hm,h4⟩:=h4;rw[<-hl hm];exact⟨hm,h4⟩)
   |(obtain⟨rfl,rfl⟩:=hs;exact h4)
 |tl k i=>
  obtain⟨h1,h2,h3⟩:=h;obtain⟨b1,b2,b3⟩:=hb k h1;refine⟨b1,h2,λb aW=>?_⟩;obtain⟨b0,gq,hs⟩:=b3 b aW;have h4:=h3 b0 gq;rw[b2]
  cases b0<;>cases b<;>simp only[lx]at hs<;>first
   |exact hs.elim
   |exact h4.elim
   |(obtain⟨rfl,rfl,hl⟩:=hs;simp only at h4 ⊢;obtain⟨hm,h4⟩:=h4;rw[<-hl hm];exact⟨hm,h4⟩)
 |hd k i=>
  obtain⟨h1,h2,h3⟩:=h;obtain⟨b1,b2,b3⟩:=hb k h1;refine⟨b1,h2,λb aW=>?_⟩;obtain⟨b0,gq,hs⟩:=b3 b aW;have h4:=h3 b0 gq;rw[b2]
  cases b0<;>cases b<;>simp only[lx]at hs<;>first
   |exact hs.elim
   |exact h4.elim
   |(obtain⟨rfl,rfl,hl⟩:=hs;simp only at h4 ⊢;obtain⟨hm,h4⟩:=h4;rw[<-hl hm];exact⟨hm,h4⟩)
 |ip ls=>obtain⟨g,o,cs,hu,ha,hl⟩:=h;exact⟨g,o,cs,hu,ha.mono (λx z hx=>Rep.keep hk _ _ _ hx),hl.keep hk⟩
 |clo f bT=>obtain⟨cv,hu,ha⟩:=h;exact⟨cv,hu,ha.mono (λx z hx=>kN.keep hk hx)⟩
theorem cF.keep{x:Cel}{u:O}(h:cF S w γ bx x u):cF S' w' γ' bx' x u:=by
 cases x with
 |one x=>exact⟨cA.keep hk hb h.1,h.2⟩
 |st ls=>obtain⟨cs,hu,ha,h1⟩:=h;exact⟨cs,hu,ha.mono (λx z hx=>cA.keep hk hb hx),h1⟩
 |av n a xs=>obtain⟨cs,hu,ha⟩:=h;exact⟨cs,hu,Rep.keep hk _ _ _ ha⟩
theorem jF.keep{tm:H->O}{x:Slot}{u:O}(h:jF S w γ bx tm x u):jF S' w' γ' bx' tm x u:=by
 cases x with
 |one c=>exact cF.keep hk hb h
 |tup l=>obtain⟨vs,hu,ha⟩:=h;exact⟨vs,hu,ha.mono (λx z hx=>cF.keep hk hb hx)⟩
 |cnd s b c=>exact h.imp (λh=>⟨h.1,cF.keep hk hb h.2⟩) id
 |und=>exact h
end keeps
structure Refs where
 blks:I H
 val:H->F O
 ds:I Deferred:=[]
 kw:H->F Obj:=λ_=>B
 fix:H->F Value:=λ_=>B
 mv:I Nat:=[]
instance:Membership H Refs:=⟨λr g=>g∈r.blks⟩
def Own(w0:À)(refs:Refs)(g:H):Prop:=w0.heap.size<=g\/(g∈refs.mv/\g∈refs)
theorem Own.nil{w0:À}{refs:Refs}{g:H}(h:Own w0 refs g)(hm:refs.mv=[]):w0.heap.size<=g:=h.elim id λh=>by rw[hm]at h;exact absurd h.1 ae
theorem Own.swap{w0:À}{refs refs':Refs}{g:H}(h:Own w0 refs g)(hb:refs'.blks=refs.blks)(hm:refs'.mv=refs.mv):Own w0 refs' g:=h.imp id λh=>⟨hm▸h.1,by show g∈refs'.blks;rw[hb];exact h.2⟩
theorem Own.no{w0:À}{refs:Refs}{g:H}(h:Own w0 refs g)(h1:g<w0.heap.size)(h2:g∉refs):False:=h.elim (λh=>aa) λh=>h2 h.2
structure Rel(N:NT)(np:H)(S0:aU)(w0:À)(refs:Refs)(σ:St)(a:Ü)(w:À)(S:aU)(γ:H->O):Prop where
 size:a.tmps.size=N.n
 defers:a.defers=refs.ds
 slot:∀i,jF S w γ σ.bx (λj=>a.tmps.getD j undef) (σ.sl i) (a.tmps.getD i undef)
 box:∀k b,σ.bx k = .live b->fM S w γ σ.bx k b
 own:∀k b g,σ.bx k = .live b->blk (γ k)=D g->Own w0 refs g\/(g∈refs/\parK np k=W)
 apart:∀k k' b b' g,k≠k'->σ.bx k = .live b->σ.bx k' = .live b'->blk (γ k)=D g->blk (γ k')≠D g
 ext:∀g o,S0 g o->S g o
 new:∀g o,S g o->S0 g o\/Own w0 refs g
 here:∀g o,S g o->g<w.heap.size
 below:∀g,g<w0.heap.size->g∉refs->w.heap[g]? = w0.heap[g]?
 grow:w0.heap.size<=w.heap.size
 os:w.os=w0.os
 tape:w.tape=w0.tape
 output:w.output=w0.output
 par:∀k v,refs.val k=D v->parK np k=W/\σ.bx k ≠ .free/\γ k=v
 kept:∀g o,refs.kw g=D o->w.heap[g]? = D o/\∀k b,σ.bx k = .live b->blk (γ k)≠D g
 fix:∀i v,refs.fix i=D v->N.pin i=W/\a.tmps.getD i undef=v
section
variable{N:NT}{np:H}{S0:aU}{w0:À}{refs:Refs}{σ:St}{a:Ü}{w:À}{S:aU}{γ:H->O}
theorem Rel.kw_live(hR:Rel N np S0 w0 refs σ a w S γ){k:H}{b:Bx}{g:H}(hk:σ.bx k = .live b)(hg:blk (γ k)=D g):refs.kw g=none:=by
 cases h:refs.kw g with
 |none=>rfl
 |some o=>exact absurd hg ((hR.kept g o h).2 k b hk)
theorem Rel.kw_new(hR:Rel N np S0 w0 refs σ a w S γ){g:H}(hg:w.heap.size<=g):refs.kw g=none:=by
 cases h:refs.kw g with
 |none=>rfl
 |some o=>have:=(ji.1 (hR.kept g o h).1).1;omega
end
def lD:Ty->I O
 |.int k=>[.int k 0]
 |.bool=>[.bool J]
 |.str=>[.string ByteArray.empty]
 |.unit=>[]
 |.wrap a=>lD a
 |.pair a b=>lD a++lD b
 |.list _=>[.slice B 0 0]
 |.arr n a=>(Ë n (lD a)).flatten
def Mi:O->O->Y
 |.int k n,.int k' n'=>X (k=k')&&X (n=n')
 |.bool b,.bool b'=>b==b'
 |.string s,.string s'=>X (s.data.toList=s'.data.toList)
 |.slice B 0 0,.slice B 0 0=>W
 |_,_=>J
def B4:I O->I O->Y
 |[],[]=>W
 |a::l,b::l'=>Mi a b&&B4 l l'
 |_,_=>J
theorem jCc{a b:O}(h:Mi a b=W):a=b:=by
 unfold Mi at h;split at h<;>simp_all;rename_i s s';cases s;cases s';simp_all
theorem U9:∀{l l':I O},B4 l l'=W->l=l'
 |[],[],_=>rfl
 |a::l,b::l',h=>by
  simp only[B4,jd]at h;rw[jCc h.1,U9 h.2]
 |[],_::_,h=>by simp[B4]at h
 |_::_,[],h=>by simp[B4]at h
def aggD:Ù->Y
 |.struct _|.array _ _=>W
 |_=>J
def Iq(T:H->F TyI)(e:H)(a:Ty):Bool:=
 match T e with
 |some te=>X (te.ty=D a)
 |none=>J
def lZ(T:H->F TyI)(ti:TyI)(t:Ty):Ù->Y
 |.int k=>X (t = .int k)
 |.bool=>X (t = .bool)
 |.string=>X (t = .str)
 |.slice e=>match t with
  |.list a=>X (e=ti.elem)&&Iq T e a&&X (0<a.size)
  |_=>J
 |.array n e=>match t with
  |.arr n' a=>X (n=n')&&X (e=ti.elem)&&Iq T e a&&X (0<a.size)
  |_=>J
 |.struct _=>t.agg
 |_=>J
def DJ(T:H->F TyI)(ti:TyI):Ù->Y
 |.struct fs=>X (fs.toList.map (λf=>(f.offset,f.type))=ti.flds)&&fs.toList.all (λf=>match T f.type with|some tf=>X (0<tf.size)|none=>J)
 |_=>ti.flds.isEmpty
def DK(P:Á)(f:Ç->F (I Ty)):H->I Field->F (I Ty)
 |_,[]=>D []
 | n, x :: xs => if x.name != "_" && X (x.offset = n) then
   match f x.type with
   |some ks=>if (P.info? x.type).map (·.size)=D ks.length then match DK P f (n+ks.length) xs with
     |some r=>D (ks++r)
     |none=>B
    else B
   |none=>B
  else B
def wY(P:Á):H->Ç->F (I Ty)
 |0,_=>B
 |d+1,t=>match P.underlying t with
  |some (.int k)=>D [.int k]
  |some .bool=>D [.bool]
  |some .string=>D [.str]
  |some (.struct fs)=>if P.stoodInHeld t then B else DK P (wY P d) 0 fs.toList
  |_=>B
def Mj(P:Á)(t:Ç)(ks:I Ty):Bool:=
 X (wY P 12 t=D ks) && !P.eqGuardType P.depth t&&(match P.underlying t with|some (.struct _)=>W|_=>J)
def mpOk(ti:TyI)(d:Ù):Bool:=match ti.mp with
 |none=>W
 |some (k,v)=>match d with
  |.map k' v'=>X (k=k')&&X (v=v')
  |_=>J
def zOk(i:î)(d:Ù):Bool:=match i.zero with
 |some (.agg _)=>aggD d
 |some (.tuple _)=>J
 |_=> !aggD d
def tyOk(P:Á)(T:H->F TyI)(n:H)(ti:TyI):Bool:=
 match P.info? n,P.underlying n with
 |some i,D d=>X (i.size=ti.size)&&X (i.bytes<=32768)&&X (ti.agg=aggD d)&&DJ T ti d&&(((ti.cmp.isEmpty||Mj P n ti.cmp)&&mpOk ti d)&&(zOk i d && !isM ti.elem)) &&
  match ti.ty with
  |none=>W
  |some t=>X (t.size=ti.size)&&(match i.zero with|some z=>B4 z.cells.toList (lD t)|none=>J)&&lZ T ti t d
 |_,_=>J
def cT(P:Á)(T:H->F TyI):Prop:=∀n ti,T n=D ti->tyOk P T n ti=W
def tab(l:I (F TyI))(n:H):F TyI:=l.getD n B
theorem jCd(P:Á)(l:I (F TyI))(h:(l.zipIdx.all λx=>match x.1 with|some ti=>tyOk P (tab l) x.2 ti|none=>W)=W):cT P (tab l):=by
 intro n ti hn;rw[jz]at h
 have hm:(D ti,n)∈l.zipIdx:=by
  rw[List.mem_zipIdx_iff_getElem?];unfold tab at hn;rw[List.getD_eq_getElem?_getD]at hn;cases hl:l[n]? with
  |none=>simp[hl]at hn
  |some x=>simp[hl]at hn;simp[hn]
 exact h _ hm
section
variable{P:Á}{T:H->F TyI}(hT:cT P T){n:H}{ti:TyI}(hn:T n=D ti)
include hT hn
theorem jES(hc:ti.cmp.isEmpty=J):Mj P n ti.cmp=true:=by
 have h:=hT n ti hn;unfold tyOk at h;split at h
 .simp only[jd,hc,qu]at h;exact h.1.2.1.1
 .simp at h
theorem jET{k v:H}(hm:ti.mp=D (k,v)):P.underlying n=D (.map k v):=by
 have h:=hT n ti hn;unfold tyOk at h;split at h
 .rename_i i d hi hd;simp only[jd]at h;have h2:=h.1.2.1.2;simp only[mpOk,hm]at h2;split at h2
  .simp only[jd,jo]at h2;rw[hd,h2.1,h2.2]
  .simp at h2
 .simp at h
theorem nQ:∃i d,P.info? n=D i/\P.underlying n=D d/\i.size=ti.size/\i.bytes<=32768/\ti.agg=aggD d/\DJ T ti d=W/\
  ∀t,ti.ty=D t->t.size=ti.size/\(∃z,i.zero=D z/\z.cells.toList=lD t)/\lZ T ti t d=true:=by
 have h:=hT n ti hn;unfold tyOk at h;split at h
 .rename_i i d hi hd;simp only[jd,jo]at h;obtain⟨⟨⟨⟨⟨h1,h2⟩,h3⟩,h4⟩,_⟩,h5⟩:=h;refine⟨i,d,hi,hd,h1,h2,h3,h4,λt ht=>?_⟩;simp only[ht,jd,jo]at h5;obtain⟨⟨h6,h7⟩,h8⟩:=h5;refine⟨h6,?_,h8⟩;split at h7
  .rename_i z hz;exact⟨z,hz,U9 h7⟩
  .simp at h7
 .simp at h
theorem kB(w:À):(sizeOf n).run P w = .ok ti.size w:=by
 obtain⟨i,d,hi,hd,hs,_⟩:=nQ hT hn;simp[sizeOf,typeInfo,hi,hs]
theorem B5(w:À):(isAgg n).run P w = .ok ti.agg w:=by
 obtain⟨i,d,hi,hd,hs,_,ha,_⟩:=nQ hT hn;simp only[isAgg,Z,run_underlying hd,U];rw[ha];cases d<;>rfl
theorem B6(w:À){t:Ty}(ht:ti.ty=D t):∃z,(zeroValue n).run P w = .ok z w/\z.cells.toList=lD t:=by
 obtain⟨i,d,hi,hd,hs,_,ha,_,h⟩:=nQ hT hn;obtain⟨_,⟨z,hz,hc⟩,_⟩:=h t ht;exact⟨z,by simp[zeroValue,typeInfo,hi,hz],hc⟩
theorem jCe{i:î}{d:Ù}(hi:P.info? n=D i)(hd:P.underlying n=D d):zOk i d=true:=by
 have h:=hT n ti hn;unfold tyOk at h;rw[hi,hd]at h;simp only[jd]at h;exact h.1.2.2.1
theorem Mk:isM ti.elem=false:=by
 have h:=hT n ti hn;unfold tyOk at h;split at h
 .simp only[jd]at h;simpa using h.1.2.2.2
 .simp at h
theorem nR{t:Ty}(ht:ti.ty=D t):t.size=ti.size:=by
 obtain⟨i,d,hi,hd,hs,_,ha,_,h⟩:=nQ hT hn;exact(h t ht).1
theorem Ml{k:Ï}(ht:ti.ty=D (.int k)):P.underlying n=D (.int k):=by
 obtain⟨i,d,hi,hd,hs,_,ha,_,h⟩:=nQ hT hn;have:=(h _ ht).2.2;cases d<;>simp_all[lZ,Ty.agg]
theorem pE{a:Ty}(ht:ti.ty=D (.list a)):P.underlying n=D (.slice ti.elem)/\0<a.size/\∃te,T ti.elem=D te/\te.ty=D a:=by
 obtain⟨i,d,hi,hd,hs,_,ha,_,h⟩:=nQ hT hn;have gU:=(h _ ht).2.2;cases d with
 |slice e=>
  simp only[lZ,jd,jo]at gU;obtain⟨⟨rfl,h2⟩,h3⟩:=gU;refine⟨hd,h3,?_⟩;unfold Iq at h2;split at h2
  .rename_i te dn;exact⟨te,dn,by simpa using h2⟩
  .simp at h2
 |_=>simp_all[lZ,Ty.agg]
theorem B7{m:H}{a:Ty}(ht:ti.ty=D (.arr m a)):P.underlying n=D (.array m ti.elem)/\0<a.size/\∃te,T ti.elem=D te/\te.ty=D a:=by
 obtain⟨i,d,hi,hd,hs,_,ha,_,h⟩:=nQ hT hn;have gU:=(h _ ht).2.2;cases d with
 |array m' e=>
  simp only[lZ,jd,jo]at gU;obtain⟨⟨⟨rfl,rfl⟩,h2⟩,h3⟩:=gU;refine⟨hd,h3,?_⟩;unfold Iq at h2;split at h2
  .rename_i te dn;exact⟨te,dn,by simpa using h2⟩
  .simp at h2
 |_=>simp_all[lZ,Ty.agg]
theorem Va{j:H}{f:H×H}(hf:ti.flds[j]? = D f) :
  ∃fs,P.underlying n=D (.struct fs)/\∃fl,fs[j]? = D fl/\fl.offset=f.1/\fl.type=f.2/\∃tf,T f.2=D tf/\0<tf.size:=by
 obtain⟨i,d,hi,hd,_,_,oy,fm,_⟩:=nQ hT hn;cases d with
 |struct fs=>
  simp only[DJ,jd,jo]at fm;obtain⟨h1,h2⟩:=fm;rw[<-h1]at hf;rw[qp]at hf;cases hq:fs.toList[j]? with
  |none=>simp[hq]at hf
  |some fl=>
   simp only[hq,qa,j5]at hf;subst hf;refine⟨fs,hd,fl,by simpa using hq,rfl,rfl,?_⟩;have:=jz.1 h2 fl (kg hq);split at this
   .rename_i tf sv;exact⟨tf,sv,by simpa using this⟩
   .simp at this
 |_=>
  have:ti.flds=[]:=by simpa[DJ]using fm
  simp[this]at hf
end
section
variable{N:NT}{np:H}{S0:aU}{w0:À}{refs:Refs}{σ:St}{a:Ü}{w:À}{S:aU}{γ:H->O}
def tm(a:Ü)(j:H):Value:=a.tmps.getD j undef
def jI0(P:Á)(o:Æ)(a:Ü)(w:À)(v:O)(w':À):Prop:=
 (execOp a.eval o).run P w = .ok (.value v) w'\/((execOp a.eval o).run P w = .ok .skip w'/\v=undef)
def Mm(P:Á)(N:NT)(np:H)(S0:aU)(w0:À)(refs:Refs)(o:Æ)(σ:St)(a:Ü)(w:À)(S:aU)(γ:H->O)(s:Slot)(u:Ups):Prop:=
 ∃v w' S' γ',jI0 P o a w v w'/\Rel N np S0 w0 refs (σ.upd u) a w' S' γ'/\jF S' w' γ' (σ.upd u).bx (tm a) s v
theorem l5{P:Á}{o:Æ}{s:Slot}{v:O}(hR:Rel N np S0 w0 refs σ a w S γ)(hr:(execOp a.eval o).run P w = .ok (.value v) w)
  (hs:jF S w γ σ.bx (tm a) s v):Mm P N np S0 w0 refs o σ a w S γ s []:=
 ⟨v,w,S,γ,.inl hr,hR,hs⟩
theorem juw(v:O)(bx:H->BS):cF S w γ bx (.one (L7 v)) v:=by
 unfold L7
 split<;>first
  |exact⟨rfl,λ_=>rfl⟩
  |exact⟨trivial,λh=>absurd rfl h⟩
theorem mY(hR:Rel N np S0 w0 refs σ a w S γ)(x:Ì):jF S w γ σ.bx (tm a) (σ.ev x) (a.eval x):=by
 cases x with
 |tmp t=>exact hR.slot t
 |const v=>exact juw v _
 |global g=>exact⟨trivial,λh=>absurd rfl h⟩
 |func f=>exact⟨⟨#[],rfl,trivial⟩,λ_=>rfl⟩
def sx(tm:H->O)(act:I (H×Y)):Prop:=∀g∈act,tm g.1 = .bool g.2
theorem Mn{bx:H->BS}{t:H->O}{act:I (H×Y)}(bg:sx t act){s:Slot}{u:O}(h:jF S w γ bx t s u):cF S w γ bx (s.cel act) u:=by
 cases s with
 |one c=>exact h
 |tup l=>exact⟨trivial,λh=>absurd rfl h⟩
 |und=>exact⟨trivial,λh=>absurd rfl h⟩
 |cnd s b c=>
  simp only[Slot.cel];split
  .rename_i hc;have hm:(s,b)∈act:=by simpa using hc
   have:=bg _ hm;rcases h with h|h
   .exact h.2
   .exact absurd this h.1
  .exact⟨trivial,λh=>absurd rfl h⟩
theorem fj(hR:Rel N np S0 w0 refs σ a w S γ){act:I (H×Y)}(bg:sx (tm a) act)(x:Ì) :
 cF S w γ σ.bx ((σ.ev x).cel act) (a.eval x):=Mn bg (mY hR x)
theorem jG{bx:H->BS}{c:Cel}{u:O}(h:cF S w γ bx c u):cA S w γ bx (lf c) u:=by
 cases c with
 |one x=>exact h.1
 |st ls=>trivial
 |av n a xs=>trivial
theorem qH{k:Ï}{n:(Ty.int k).den}{u:O}(h:Rep S w (.int k) n [u]):u = .int k n:=by simpa[Rep]using h
theorem Mo{n:Ty.bool.den}{u:O}(h:Rep S w .bool n [u]):u = .bool n:=by simpa[Rep]using h
theorem DL{n:Ty.str.den}{u:O}(h:Rep S w .str n [u]):u = .string n:=by simpa[Rep]using h
theorem nS{t:Ty}{x:TV}{v:t.den}(h:x.to t=D v):x=⟨t,v⟩:=by
 unfold TV.to at h;split at h
 .rename_i e;obtain⟨t',v'⟩:=x;subst e;simp at h;rw[h]
 .simp at h
theorem Vb{P:Á}(op:å)(t:Ç)(x y:Ì)(k k':Ï)(p q:Ä) :
  (eqGuard op t x y (.int k p) (.int k' q)).run P w = .ok () w:=by
 unfold eqGuard;cases op<;>simp
theorem Vc{P:Á}(op:å)(t:Ç)(x y:Ì)(p q:Y):(eqGuard op t x y (.bool p) (.bool q)).run P w = .ok () w:=by
 unfold eqGuard;cases op<;>simp
theorem Vd{P:Á}(op:å)(t:Ç)(x y:Ì)(p q:É):(eqGuard op t x y (.string p) (.string q)).run P w = .ok () w:=by
 unfold eqGuard;cases op<;>simp
theorem Ve{P:Á}(t:Ç){k k':Ï}{x y:Ä}(h:0<=y) :
  (binOp .shr t (.int k x) (.int k' y)).run P w = .ok (.int k (í x (2^min (Ã y) k.bits))) w:=by
 have h':¬y<0:=aa;simp[binOp,Op.shift,h']
theorem jCf{P:Á}{op:å}{k:Ï}{x y:Ä}{l:Leaf}{bx:H->BS}(t:Ç)(h:binI op k x y=D (W,l)) :
  ∃u,(binOp op t (.int k x) (.int k y)).run P w = .ok u w/\cA S w γ bx l u/\One u:=by
 cases op with
 |add=>simp[binI]at h;subst h;exact⟨_,by simp[binOp,à],rfl,rfl⟩
 |sub=>simp[binI]at h;subst h;exact⟨_,by simp[binOp,à],rfl,rfl⟩
 |mul=>simp[binI]at h;subst h;exact⟨_,by simp[binOp,à],rfl,rfl⟩
 |quo=>simp only[binI,j5,j9,kz,zt]at h;obtain⟨h0,rfl⟩:=h;exact⟨_,by simp[binOp,ù,h0],rfl,rfl⟩
 |rem=>simp only[binI,j5,j9,kz,zt]at h;obtain⟨h0,rfl⟩:=h;exact⟨_,by simp[binOp,ù,h0],rfl,rfl⟩
 |shr=>
  simp only[binI]at h;split at h
  .rename_i h0;simp only[j5,j9,qr]at h;subst h;exact⟨_,Ve t (by simpa using h0),rfl,rfl⟩
  .simp at h
 |and=>simp[binI]at h
 |or=>simp[binI]at h
 |xor=>simp[binI]at h
 |andNot=>simp[binI]at h
 |shl=>simp[binI]at h
 |eql=>simp[binI,cmpI]at h;subst h;exact⟨_,by simp[binOp,Û],rfl,rfl⟩
 |neq=>simp[binI,cmpI]at h;subst h;exact⟨_,by simp[binOp,Û],rfl,rfl⟩
 |lss=>simp[binI,cmpI]at h;subst h;exact⟨_,by simp[binOp,Û],rfl,rfl⟩
 |leq=>simp[binI,cmpI]at h;subst h;exact⟨_,by simp[binOp,Û],rfl,rfl⟩
 |gtr=>simp[binI,cmpI]at h;subst h;exact⟨_,by simp[binOp,Û],rfl,rfl⟩
 |geq=>simp[binI,cmpI]at h;subst h;exact⟨_,by simp[binOp,Û],rfl,rfl⟩
end
def Mp:Ty->O->O->Y->Prop
 |.int k,u,v,b=>∃x y:Ä,u = .int k x/\v = .int k y/\b=(x==y)
 |.bool,u,v,b=>∃x y:Y,u = .bool x/\v = .bool y/\b=(x==y)
 |.str,u,v,b=>∃x y:É,u = .string x/\v = .string y/\b=(x.toList==y.toList)
 |_,_,_,_=>ß
def iU:I Ty->I O->I O->Y->Prop
 |[],[],[],b=>b=W
 |k::ks,u::us,v::vs,b=>∃b1 b2,Mp k u v b1/\iU ks us vs b2/\b=(b1&&b2)
 |_,_,_,_=>ß
theorem iU.length:∀{ks:I Ty}{us vs:I O}{b:Y},iU ks us vs b->us.length=ks.length/\vs.length=ks.length
 |[],[],[],_,_=>⟨rfl,rfl⟩
 |_::_,_::_,_::_,_,⟨_,_,_,h,_⟩=>by have:=iU.length h;simp[this.1,this.2]
 |[],_::_,_,_,h=>by simp[iU]at h
 |[],[],_::_,_,h=>by simp[iU]at h
 |_::_,[],_,_,h=>by simp[iU]at h
 |_::_,_::_,[],_,h=>by simp[iU]at h
theorem iU.split:∀{k1 k2:I Ty}{us vs:I O}{b:Y},iU (k1++k2) us vs b->
  ∃b1 b2,iU k1 (us.take k1.length) (vs.take k1.length) b1/\iU k2 (us.drop k1.length) (vs.drop k1.length) b2/\b=(b1&&b2)
 |[],k2,us,vs,b,h=>⟨W,b,by simp[iU],by simpa using h,ae⟩
 |k::k1,k2,u::us,v::vs,b,⟨b1,b2,h1,h2,hb⟩=>by
  obtain⟨c1,c2,h3,h4,hc⟩:=iU.split h2;exact⟨b1&&c1,c2,⟨b1,c1,h1,h3,rfl⟩,h4,by rw[hb,hc,Bool.and_assoc]⟩
 |_::_,_,[],_,_,h=>by simp[iU]at h
 |_::_,_,_::_,[],_,h=>by simp[iU]at h
theorem iU.single{k:Ty}{us vs:I O}{b:Y}(h:iU [k] us vs b):∃u v,us=[u]/\vs=[v]/\Mp k u v b:=by
 have hl:=h.length;match us,vs,hl with
 |[u],[v],_=>obtain⟨b1,b2,h1,h2,hb⟩:=h;simp only[iU]at h2;subst h2;rw[Bool.and_true]at hb;exact⟨u,v,rfl,rfl,hb▸h1⟩
def rG(P:Á)(t:Ç)(us:I O):Value:=
 match P.underlying t with
 |some (.struct _)=> .agg us.toArray
 |_=>us.headD undef
theorem Vf{P:Á}{w:À}{t:Ç}{us:I O}{o n:H}{i:î}{d:Ù}(hi:P.info? t=D i)(hn:i.size=n)
  (hd:P.underlying t=D d)(hl:o+n<=us.length)(h1:(∃fs,d = .struct fs)\/((∀fs,d ≠ .struct fs)/\(∀m e,d ≠ .array m e)/\n=1)) :
  (part t us.toArray o).run P w = .ok (rG P t ((us.drop o).take n)) w:=by
 rcases h1 with⟨fs,rfl⟩|⟨h1,h2,rfl⟩
 .simp[part,isAgg,run_underlying hd,sizeOf,typeInfo,hi,hn,rG,hd,List.take_drop]
 .have hv:rG P t ((us.drop o).take 1)=us[o]:=by
   have:(us.drop o).take 1=[us[o]]:=by rw[jb aa];rfl
   unfold rG;rw[this,hd];cases d<;>first|rfl|exact absurd rfl (h1 _)
  have ha:(isAgg t).run P w = .ok J w:=by simp only[isAgg,Z,run_underlying hd,U];cases d<;>first|rfl|exact absurd rfl (h1 _)|exact absurd rfl (h2 _ _)
  rw[hv];simp only[part,Z,ha,U,qe,za];rw[show us.toArray[o]? = D us[o] by simp];rfl
theorem Vg(P:Á)(w:À):∀(k:H)(t:Ç)(ks:I Ty),wY P k t=D ks->∀d,k<=d->∀us vs b,iU ks us vs b->
  (ö d t (rG P t us) (rG P t vs)).run P w = .ok b w
 |0,_,_,h,_,_,_,_,_,_=>by simp[wY]at h
 |k+1,t,ks,h,d,hd,us,vs,b,he=>by
  obtain⟨d,rfl⟩:∃d',d=d'+1:=⟨d-1,aa⟩;unfold wY at h;split at h
  .rename_i kk hu;simp at h;subst h;obtain⟨u,v,rfl,rfl,hc⟩:=he.single;obtain⟨x,y,rfl,rfl,hb⟩:=hc;simp[rG,hu,run_equalIn_int w d t _ _ _ _ hu,hb]
  .rename_i hu;simp at h;subst h;obtain⟨u,v,rfl,rfl,hc⟩:=he.single;obtain⟨x,y,rfl,rfl,hb⟩:=hc;simp[rG,hu,run_equalIn_bool' w d t _ _ hu,hb]
  .rename_i hu;simp at h;subst h;obtain⟨u,v,rfl,rfl,hc⟩:=he.single;obtain⟨x,y,rfl,rfl,hb⟩:=hc;simp[rG,hu,run_equalIn_string w d t _ _ hu,hb]
  .rename_i fs hu;split at h
   .simp at h
   rename_i aQ;have hf:P.fieldsOf t=fs:=by simp[Program.fieldsOf,hu]
   have dJ:∀us:I O,rG P t us = .agg us.toArray:=λus=>by simp[rG,hu]
   rw[dJ,dJ,run_equalIn_agg w d t _ _ (by rw[hf];exact hu) (by simpa using aQ),hf]
   have key:∀(fl:I Field)(n:H)(ks:I Ty),DK P (wY P k) n fl=D ks->∀b,n<=us.length->n<=vs.length->iU ks (us.drop n) (vs.drop n) b->
     (ñ d us.toArray vs.toArray fl).run P w = .ok b w:=by
    intro fl;induction fl with
    |nil=>intro n ks hk b hnu hnv hc;simp[DK]at hk;subst hk;have hl:=hc.length;have:us.drop n=[]:=kc hl.1;have h':vs.drop n=[]:=kc hl.2;rw[this,h']at hc;simp[iU]at hc;subst hc;rfl
    |cons x fl ih=>
     intro n ks hk b hnu hnv hc;simp only[DK,jd,bne_iff_ne,ne_eq,jo]at hk;split at hk
     .rename_i hx;split at hk
      .rename_i k1 dW;split at hk
       .rename_i bU;split at hk
        .rename_i k2 gi;simp at hk;subst hk;obtain⟨b1,b2,eX,fA,hb⟩:=hc.split;have hlen:=hc.length;simp only[vi,jf]at hlen;cases hi:P.info? x.type with
         |none=>simp[hi]at bU
         |some i=>
          simp only[hi,qa,j5]at bU
          have yX:∃dd,P.underlying x.type=D dd/\((∃fs,dd = .struct fs)\/((∀fs,dd ≠ .struct fs)/\(∀m e,dd ≠ .array m e)/\k1.length=1)):=by
           cases k with
           |zero=>simp[wY]at dW
           |succ k=>
            unfold wY at dW;split at dW
            .rename_i eZ;simp at dW;subst dW;exact⟨_,eZ,.inr ⟨ae,ae,rfl⟩⟩
            .rename_i eZ;simp at dW;subst dW;exact⟨_,eZ,.inr ⟨ae,ae,rfl⟩⟩
            .rename_i eZ;simp at dW;subst dW;exact⟨_,eZ,.inr ⟨ae,ae,rfl⟩⟩
            .rename_i eZ;exact⟨_,eZ,.inl ⟨_,rfl⟩⟩
            .simp at dW
          obtain⟨dd,qI,pF⟩:=yX;have ub:=Vf (P:=P) (w:=w) (us:=us) (o:=n) hi bU qI aa pF;have yY:=Vf (P:=P) (w:=w) (us:=vs) (o:=n) hi bU qI aa pF;have gG:=Vg P w k x.type k1 dW d aa _ _ b1 eX;simp only[ñ];rw[if_pos hx.1];simp only[Z,hx.2,ub,U,yY,gG,Ø];cases b1
          .simp[hb]
          .simp only[jl,qe,za];rw[hb,Bool.true_and];refine ih (n+k1.length) k2 gi b2 aa aa ?_;rw[<-â,<-â];exact fA
        .simp at hk
       .simp at hk
      .simp at hk
     .simp at hk
   exact key fs.toList 0 ks h b aa aa (by simpa using he)
  .simp at h
termination_by k=>k
section
variable{S:aU}{w:À}{γ:H->O}{bx:H->BS}
theorem jEU{t t':Ty}{x:t.den}{y:t'.den}{b:Y}{u v:O}(h:eqT ⟨t,x⟩ ⟨t',y⟩=D b)(hx:Rep S w t x [u])(hy:Rep S w t' y [v])(ht:t'=t):Mp t u v b:=by
 subst ht;cases t' with
 |int k=>simp[eqT]at h;exact⟨x,y,qH hx,qH hy,h.symm⟩
 |bool=>simp[eqT]at h;exact⟨x,y,Mo hx,Mo hy,h.symm⟩
 |str=>simp[eqT]at h;exact⟨x,y,DL hx,DL hy,h.symm⟩
 |_=>simp[eqT]at h
theorem jEV(ks:I Ty):∀{l l':I Leaf}{b:Y}{us vs:I O},eqL ks l l'=D b->All2 (cA S w γ bx) l us->All2 (cA S w γ bx) l' vs->iU ks us vs b:=by
 induction ks with
 |nil=>
  intro l l' b us vs h h1 h2;cases l with
  |cons _ _=>simp[eqL]at h
  |nil=>
   cases l' with
   |cons _ _=>simp[eqL]at h
   |nil=>
    cases us with
    |cons _ _=>exact h1.elim
    |nil=>cases vs with
     |cons _ _=>exact h2.elim
     |nil=>simp[eqL]at h;simp[iU,h]
 |cons k ks ih=>
  intro l l' b us vs h h1 h2;cases l with
  |nil=>simp[eqL]at h
  |cons l0 l=>
   cases l' with
   |nil=>cases l0<;>simp[eqL]at h
   |cons m0 l'=>
    cases us with
    |nil=>exact h1.elim
    |cons u us=>
     cases vs with
     |nil=>exact h2.elim
     |cons v vs=>
      cases l0 with
      |d t x=>
       cases m0 with
       |d t' y=>
        simp only[eqL]at h;split at h
        .rename_i hk;obtain⟨rfl,rfl⟩:=hk;split at h
         .rename_i b1 fc;have hc:=jEU fc h1.1 h2.1 rfl;split at h
          .split at h
           .simp at h;subst h;cases us with
            |nil=>cases vs with
             |nil=>exact⟨b1,W,hc,by simp[iU],ae⟩
             |cons _ _=>exact h2.2.elim
            |cons _ _=>exact h1.2.elim
           .simp at h
          .split at h
           .rename_i b2 ib;simp at h;subst h;exact⟨b1,b2,hc,ih ib h1.2 h2.2,rfl⟩
           .simp at h
         .simp at h
        .simp at h
       |_=>simp[eqL]at h
      |_=>simp[eqL]at h
theorem Vh{P:Á}{T:H->F TyI}(hT:cT P T){t:Ç}{l l':I Leaf}{b:Y}{us vs:È O}
  (bA:(wN (T t)).isEmpty=J)(h:eqL (wN (T t)) l l'=D b)(h1:All2 (cA S w γ bx) l us.toList)(h2:All2 (cA S w γ bx) l' vs.toList) :
  P.eqGuardType P.depth t=J/\(ö 10000 t (.agg us) (.agg vs)).run P w = .ok b w:=by
 cases ht:T t with
 |none=>simp[wN,ht]at bA
 |some ti=>
  simp only[wN,ht]at bA h;have hc:=jES hT ht bA;simp only[Mj,jd,jo,kz]at hc;obtain⟨⟨hk,hg⟩,hs⟩:=hc;refine⟨hg,?_⟩;have he:=Vg P w 12 t _ hk 10000 aa us.toList vs.toList b (jEV _ h h1 h2);split at hs
  .rename_i fs hu;simpa[rG,hu]using he
  .simp at hs
end
section
variable{N:NT}{np:H}{S0:aU}{w0:À}{refs:Refs}{σ:St}{a:Ü}{w:À}{S:aU}{γ:H->O}{bx:H->BS}
theorem uY{k:Ï}{n:(Ty.int k).den}{u:O}(h:cF S w γ bx (.one (.d (.int k) n)) u):u = .int k n:=qH (S:=S) (w:=w) h.1
theorem uc{n:Ty.bool.den}{u:O}(h:cF S w γ bx (.one (.d .bool n)) u):u = .bool n:=Mo (S:=S) (w:=w) h.1
theorem Vi{n:Ty.str.den}{u:O}(h:cF S w γ bx (.one (.d .str n)) u):u = .string n:=DL (S:=S) (w:=w) h.1
theorem jCg{P:Á}{T:H->F TyI}(hT:cT P T){op:å}{t:Ç}{x y:Ì}{c c':Cel}{l:Leaf}{u v:O}
  (h:binC (T t) op c c'=D (W,l))(hc:cF S w γ bx c u)(dK:cF S w γ bx c' v) :
  ∃z,(do eqGuard op t x y u v;binOp op t u v:Sem O).run P w = .ok z w/\cA S w γ bx l z/\One z:=by
 unfold binC at h;split at h
 .rename_i k p k' q;have hu:=uY hc;have hv:=uY dK;subst hu hv;split at h
  .rename_i hk;subst hk;obtain⟨z,hz,hl,h1⟩:=jCf (P:=P) (w:=w) (S:=S) (γ:=γ) (bx:=bx) t h;exact⟨z,by simp only[Z,Vb,U,hz],hl,h1⟩
  .split at h
   .split at h
    .rename_i h0;simp only[j5,j9,qr]at h;subst h;exact⟨_,by simp only[Z,Vb,U,Ve t (by simpa using h0)],rfl,rfl⟩
    .simp at h
   .simp at h
 .rename_i p q;have hu:=uc hc;have hv:=uc dK;subst hu hv;split at h
  .rename_i hb
   have DM:P.underlying t=D .bool:=by
    unfold UX at hb;split at hb
    .rename_i ti wZ;obtain⟨i,d,hi,hd,_,_,_,_,hh⟩:=nQ hT wZ;have:=(hh _ (by simpa using hb)).2.2;cases d<;>simp_all[lZ,Ty.agg]
    .simp at hb
   split at h
   .simp only[j5,j9,qr]at h;subst h;refine⟨.bool (p==q),?_,rfl,rfl⟩;simp only[Z,Vc,U,binOp];simp only[ÿ,ò,run_equalIn_bool' w 9999 t p q DM,U,Â]
   .simp only[j5,j9,qr]at h;subst h;refine⟨.bool (!(p==q)),?_,rfl,rfl⟩;simp only[Z,Vc,U,binOp];simp only[ÿ,ò,run_equalIn_bool' w 9999 t p q DM,U,Â]
   .simp at h
  .simp at h
 .rename_i p q;have hu:=Vi hc;have hv:=Vi dK;subst hu hv;split at h
  .simp only[j5,j9,qr]at h;subst h;exact⟨_,by simp only[Z,Vd,U,binOp,ó,Â],rfl,rfl⟩
  .simp only[j5,j9,qr]at h;subst h;exact⟨_,by simp only[Z,Vd,U,binOp,ó,Â],rfl,rfl⟩
  .simp at h
 .rename_i p q;obtain⟨us,rfl,h1,_⟩:=hc;obtain⟨vs,rfl,h2,_⟩:=dK;split at h
  .simp at h
  rename_i bA;have bA:(wN (T t)).isEmpty=false:=by simpa using bA
  split at h
  .split at h
   .rename_i b hb;simp only[j5,j9,qr]at h;subst h;obtain⟨hg,he⟩:=Vh hT bA hb h1 h2;exact⟨_,by simp only[Z,run_eqGuard_agg w .eql t x y us vs hg,U,run_eql_struct,he],rfl,rfl⟩
   .simp at h
  .split at h
   .rename_i b hb;simp only[j5,j9,qr]at h;subst h;obtain⟨hg,he⟩:=Vh hT bA hb h1 h2;exact⟨_,by simp only[Z,run_eqGuard_agg w .neq t x y us vs hg,U,run_neq_struct,he],rfl,rfl⟩
   .simp at h
  .simp at h
 .simp at h
theorem jEW{P:Á}{op:UnOp}{c:Cel}{l:Leaf}{u:O}(h:unC op c=D l)(hc:cF S w γ bx c u) :
  ∃z,(ï op u).run P w = .ok z w/\cA S w γ bx l z/\One z:=by
 unfold unC at h;split at h
 .have hu:=uc hc;subst hu;split at h
  .simp at h;subst h;exact⟨_,by simp[ï],rfl,rfl⟩
  .simp at h
 .have hu:=uY hc;subst hu;split at h
  .simp at h;subst h;exact⟨_,by simp[ï,à],rfl,rfl⟩
  .simp at h
 .simp at h
theorem jEX{P:Á}{cs:I Cel}{l:Leaf}{us:I O}{ts:È Ç}{ty:Ç}(h:minC cs=D l)(hc:All2 (cF S w γ bx) cs us) :
  ∃z,(ë ts ty us.toArray).run P w = .ok z w/\cA S w γ bx l z/\One z:=by
 unfold minC at h;split at h
 .rename_i k p k' q;match us,hc with
  |[u,v],⟨h1,h2,_⟩=>
   have hu:=uY h1;have hv:=uY h2;subst hu hv;split at h
   .simp at h;subst h;exact⟨_,by simp[ë,Builtin.min2],rfl,rfl⟩
   .simp at h
 .simp at h
theorem jEY{P:Á}{cs:I Cel}{l:Leaf}{us:I O}{ts:È Ç}{ty:Ç}(h:maxC cs=D l)(hc:All2 (cF S w γ bx) cs us) :
  ∃z,(ì ts ty us.toArray).run P w = .ok z w/\cA S w γ bx l z/\One z:=by
 unfold maxC at h;split at h
 .rename_i k p k' q;match us,hc with
  |[u,v],⟨h1,h2,_⟩=>
   have hu:=uY h1;have hv:=uY h2;subst hu hv;split at h
   .simp at h;subst h;exact⟨_,by simp[ì,Builtin.max2],rfl,rfl⟩
   .simp at h
 .simp at h
theorem rH:∀(t:Ty)(v:t.den)(cs:I O),Rep S w t v cs->All2 (λx z=>Rep S w x.t x.v [z]) (scat t v) cs
 |.int k,v,cs,h=>by rw[h];exact⟨rfl,trivial⟩
 |.bool,v,cs,h=>by rw[h];exact⟨rfl,trivial⟩
 |.str,v,cs,h=>by rw[h];exact⟨rfl,trivial⟩
 |.unit,v,cs,h=>by rw[h];exact trivial
 |.wrap a,v,cs,h=>rH a v cs h
 |.pair a b,v,cs,⟨c1,c2,e,h1,h2⟩=>by rw[e];exact(rH a v.1 c1 h1).append (rH b v.2 c2 h2)
 |.list a,v,cs,h=>by
  obtain⟨ad,cap,e,h'⟩:=h;subst e;exact⟨⟨ad,cap,rfl,h'⟩,trivial⟩
 |.arr n a,v,cs,⟨hn,css,ha,e⟩=>by
  have key:∀(xs:I a.den)(css:I (I O)),All2 (λx c=>Rep S w a x c) xs css->
    All2 (λx z=>Rep S w x.t x.v [z]) (xs.flatMap (scat a)) css.flatten:=by
   intro xs;induction xs with
   |nil=>intro css h;cases css with|nil=>exact trivial|cons _ _=>exact h.elim
   |cons x xs ih=>
    intro css h;cases css with
    |nil=>exact h.elim
    |cons c css=>exact(rH a x c h.1).append (ih css h.2)
  have hw:∀l:I a.den,(Ó l.length).flatMap (λi=>scat a (l.getD i a.dflt))=l.flatMap (scat a):=by
   intro l;induction l with
   |nil=>rfl
   |cons x l ih=>rw[jk,List.range_succ_eq_map,zr,List.flatMap_map];simp only[zr];congr 1
  have hm:∀(l:I a.den)(m:H),l.length=m->(Ó m).flatMap (λi=>scat a (l.getD i a.dflt))=l.flatMap (scat a):=by intro l m hl;subst hl;exact hw l
  have he:scat (.arr n a) v=List.flatMap (scat a) v:=hm v n hn;rw[e,he];exact key v css ha
theorem ud:∀{xs:I TV}{cs:I O},All2 (λx z=>Rep S w x.t x.v [z]) xs cs->All2 (cA S w γ bx) (xs.map TV.leaf) cs:=
 λh=>All2.map_left.2 h
theorem Mq(t:Ty)(v:t.den)(cs:I O)(u:O)(h:Rep S w t v cs)(hu:(t.agg=W\/∃n a,t = .arr n a)->u = .agg cs.toArray)(eZ:t.agg=J->(∀n a,t ≠ .arr n a)->cs=[u]) :
  cF S w γ bx (pD t v) u:=by
 cases t with
 |int k=>have:=eZ rfl ae;subst this;exact⟨h,λ_=>Rep.one _ _ _ h u ae⟩
 |bool=>have:=eZ rfl ae;subst this;exact⟨h,λ_=>Rep.one _ _ _ h u ae⟩
 |str=>have:=eZ rfl ae;subst this;exact⟨h,λ_=>Rep.one _ _ _ h u ae⟩
 |list a=>have:=eZ rfl ae;subst this;exact⟨h,λ_=>Rep.one _ _ _ h u ae⟩
 |unit=>have:=hu (.inl rfl);subst this;exact⟨_,rfl,by simpa using ud (rH _ v cs h),by simpa using Rep.one _ _ _ h⟩
 |wrap a=>have:=hu (.inl rfl);subst this;exact⟨_,rfl,by simpa using ud (rH _ v cs h),by simpa using Rep.one _ _ _ h⟩
 |pair a b=>have:=hu (.inl rfl);subst this;exact⟨_,rfl,by simpa using ud (rH _ v cs h),by simpa using Rep.one _ _ _ h⟩
 |arr n a=>have:=hu (.inr ⟨n,a,rfl⟩);subst this;exact⟨_,rfl,by simpa using h⟩
theorem Vj{g o:H}{cs:I O}(h:∀j v,cs[j]? = D v->w.cell? ⟨g,o+j,B⟩=D v)(P:Á) :
  (loadCells ⟨g,o,B⟩ cs.length).run P w = .ok cs.toArray w:=
 run_loadCells_list (P:=P) w ⟨g,o,B⟩ cs (λj v hv=>by rw[Í];exact h j v hv)
theorem jxw{P:Á}{T:H->F TyI}(hT:cT P T){t:Ç}{ti:TyI}(ht:T t=D ti){ls:I Leaf}{c:Cel}(h:uN ti ls=D c)
  {g o:H}{cs:I O}(hr:All2 (cA S w γ bx) ls cs)(h1:∀u∈cs,One u)(hl:∀j v,cs[j]? = D v->w.cell? ⟨g,o+j,B⟩=D v) :
  ∃u,(loadVar t ⟨g,o,B⟩).run P w = .ok u w/\cF S w γ bx c u:=by
 unfold uN at h;split at h
 .rename_i ha;split at h
  .rename_i hlen;simp at h;subst h;refine⟨.agg cs.toArray,?_,cs.toArray,rfl,by simpa using hr,by simpa using h1⟩;have hs:=Vj (w:=w) hl P;rw[<-hr.length,hlen]at hs;simp only[loadVar,Z,B5 hT ht,ha,U,if_true,kB hT ht,hs,Â]
  .simp at h
 .rename_i ha;split at h
  .simp at h;subst h;match cs,hr with
   |[u],⟨hr,_⟩=>refine⟨u,?_,hr,λ_=>h1 u ae⟩;have dX:=hl 0 u rfl;simp only[loadVar,Z,B5 hT ht,U,if_neg ha,run_load];rw[Nat.add_zero]at dX;simp[dX]
  .simp at h
end
theorem yZ{α:Type}{R:α->I O->Prop}{m:H}(hm:∀x c,R x c->c.length=m) :
  ∀{xs:I α}{css:I (I O)},All2 R xs css->∀(i:H)(d:α),i<xs.length->
   ∃c,css[i]? = D c/\R (xs.getD i d) c/\∀(j:H)(v:O),c[j]? = D v->css.flatten[i*m+j]? = D v
 |[],_,_,i,d,hi=>by simp at hi
 |x::xs,c::css,h,0,d,_=>⟨c,ae,by simpa using h.1,λj v hv=>by
  have hj:j<c.length:=(jy.1 hv).1;simp[List.getElem?_append_left hj,hv]⟩
 |x::xs,c::css,h,i+1,d,hi=>by
  obtain⟨c',h1,h2,h3⟩:=yZ hm h.2 i d (by simpa using hi);refine⟨c',by simpa using h1,by simpa using h2,λj v hv=>?_⟩;have hl:=hm _ _ h.1;rw[qd,ko (by rw[hl,yo];omega),hl];have:(i+1)*m+j-m=i*m+j:=by rw[yo];omega
  rw[this];exact h3 j v hv
 |_::_,[],h,_,_,_=>h.elim
section
variable{N:NT}{np:H}{S0:aU}{w0:À}{refs:Refs}{σ:St}{a:Ü}{w:À}{S:aU}{γ:H->O}
def RdR(σ:St)(rd:H->BS):Prop:=∀k,rd k=σ.bx k\/rd k = .gone
theorem RdR.live{rd:H->BS}(h:RdR σ rd){k:H}{b:Bx}(hk:rd k = .live b):σ.bx k = .live b:=by
 rcases h k with h|h
 .rw[<-h,hk]
 .rw[h]at hk;simp at hk
theorem RdR.free{rd:H->BS}(h:RdR σ rd){k:H}(hk:jK (rd k)=W):σ.bx k = .free:=by
 rcases h k with h|h
 .rw[<-h];revert hk;cases rd k<;>simp[jK]
 .rw[h]at hk;simp[jK]at hk
def NoM(rd:H->BS):Prop:=∀(k e:H)(a:Ty)(xs:I a.den)(f:Y),rd k = .live (.lst e a xs f)->isM e=J
def RdOk(σ:St)(rd:H->BS):Prop:=RdR σ rd/\NoM rd
theorem RdOk.live{rd:H->BS}(h:RdOk σ rd){k:H}{b:Bx}(hk:rd k = .live b):σ.bx k = .live b:=h.1.live hk
theorem RdOk.free{rd:H->BS}(h:RdOk σ rd){k:H}(hk:jK (rd k)=W):σ.bx k = .free:=h.1.free hk
theorem RdOk.nm{rd:H->BS}(h:RdOk σ rd){k e:H}{a:Ty}{xs:I a.den}{f:Y}(hk:rd k = .live (.lst e a xs f)):isM e=false:=h.2 k e a xs f hk
theorem jz7{rd:H->BS}{k:H}{b:Bx}(h:mskM rd k = .live b):rd k = .live b/\∀(e:H)(a:Ty)(xs:I a.den)(f:Y),b = .lst e a xs f->isM e=false:=by
 unfold mskM at h;split at h
 .rename_i e a xs f hk;split at h
  .simp at h
  .rename_i hm;rw[hk,h];refine⟨rfl,λe' a' dD f' hb=>?_⟩;simp only[BS.live.injEq]at h;rw[<-h]at hb;cases hb;simpa using hm
 .rename_i bA;refine⟨h,λe a xs f hb=>?_⟩;subst hb;exact absurd h (bA e a xs f)
theorem Vk{rd:H->BS}(k:H):mskM rd k=rd k\/mskM rd k = .gone:=by
 unfold mskM;split
 .rename_i e a xs f hk;split
  .exact .inr rfl
  .exact .inl hk.symm
 .exact .inl rfl
theorem jEZ(rd:H->BS):NoM (mskM rd):=λk e a xs f h=>(jz7 h).2 e a xs f rfl
theorem RdR.msk{rd:H->BS}(h:RdR σ rd):RdOk σ (mskM rd):=
 ⟨λk=>(Vk (rd:=rd) k).elim (λe=>(h k).imp (e.trans ·) (e.trans ·)) .inr,jEZ rd⟩
theorem jCh(hR:Rel N np S0 w0 refs σ a w S γ){k e:H}{t:Ty}{xs:I t.den}{frz:Y}(hk:σ.bx k = .live (.lst e t xs frz))
  {g cap:H}(hg:γ k = .slice (D ⟨g,0,B⟩) xs.length cap){i:H}(hi:i<xs.length) :
  ∃cs,Rep S w t (xs.getD i t.dflt) cs/\∀(j:H)(v:O),cs[j]? = D v->w.cell? ⟨g,i*t.size+j,B⟩=D v:=by
 obtain⟨css,aZ,ha,_⟩:=Ip hg (hR.box k _ hk);obtain⟨c,h1,h2,h3⟩:=yZ (λx c hx=>Rep.length t x c hx) ha i t.dflt hi;refine⟨c,h2,λj v hv=>?_⟩;have:=aZ.cells (g:=g) (by rw[hg];rfl) (i*t.size+j) v (h3 j v hv);rwa[Í,ki]at this
theorem jCi(hR:Rel N np S0 w0 refs σ a w S γ){k n:H}{t:Ty}{xs:I t.den}(hk:σ.bx k = .live (.arr n t xs))
  {g:H}(hg:γ k = .pointer (D ⟨g,0,B⟩)){i:H}(hi:i<n) :
  ∃cs,Rep S w t (xs.getD i t.dflt) cs/\∀(j:H)(v:O),cs[j]? = D v->w.cell? ⟨g,i*t.size+j,B⟩=D v:=by
 obtain⟨g',cur,e,az,hh,⟨hn,css,ha,he⟩,_⟩:=hR.box k _ hk;rw[hg]at az;simp at az;subst az;obtain⟨c,h1,h2,h3⟩:=yZ (λx c hx=>Rep.length t x c hx) ha i t.dflt (by rw[hn];exact hi);refine⟨c,h2,λj v hv=>?_⟩;have:=h3 j v hv;rw[<-he]at this;rw[cell_of_row w g _ cur e (0,0) hh];simpa using this
theorem Ir{l:I O}{c n j:H}{v:O}(h:((l.drop c).take n)[j]? = D v):l[c+j]? = D v:=by
 rw[zg]at h;split at h
 .rwa[Ö]at h
 .simp at h
theorem Mr{l:I O}{c n:H}{P:O->Prop}(h:∀u∈l,P u):∀u∈(l.drop c).take n,P u:=
 λu hu=>h u (z6 (qb hu))
theorem Vl{P:Á}{E:Env}(hT:cT P E.T)(hR:Rel N np S0 w0 refs σ a w S γ){rd:H->BS}(bj:RdOk σ rd){t:Ç}{ti:TyI}(ht:E.T t=D ti)
  {x:Leaf}{c:Cel}{u:O}(h:qD rd ti x=D c)(hx:cA S w γ σ.bx x u) :
  ∃z,(Ý t u).run P w = .ok z w/\cF S w γ σ.bx c z:=by
 have fin:∀(g o:H)(ls:I Leaf)(cs:I O),u = .pointer (D ⟨g,o,B⟩)->uN ti ls=D c->All2 (cA S w γ σ.bx) ls cs->(∀u∈cs,One u)->
   (∀(j:H)(v:O),cs[j]? = D v->w.cell? ⟨g,o+j,B⟩=D v)->∃z,(Ý t u).run P w = .ok z w/\cF S w γ σ.bx c z:=by
  intro g o ls cs hu hm hr h1 hl;obtain⟨z,hz,hc⟩:=jxw (P:=P) hT ht hm hr h1 hl;exact⟨z,by subst hu;simp only[Ý,Z,Ô,Â,U,hz],hc⟩
 cases x with
 |bp k o=>
  obtain⟨_,_,hb⟩:=hx;simp only[qD]at h;split at h
  .rename_i ls frz hk;have hk:=bj.live hk;obtain⟨g,hg,hu⟩:=hb _ hk;obtain⟨g',cur,e,az,hh,ha,h1,_⟩:=hR.box k _ hk;rw[hg]at az;simp at az;subst az;refine fin g o _ (((cur.toList.take ls.length).drop o).take ti.size) hu h ((ha.drop o).take ti.size) (Mr h1) (λj v hv=>?_);rw[cell_of_row w g _ cur e (0,0) hh];have hv:=Ir hv;rw[zg]at hv;split at hv
   .simpa using hv
   .simp at hv
  .rename_i n el xs hk;split at h
   .rename_i hc;obtain⟨rfl,bM⟩:=hc;simp at h;subst h;have hk:=bj.live hk;obtain⟨g,hg,hu⟩:=hb _ hk;obtain⟨g',cur,e,az,hh,bV,_⟩:=hR.box k _ hk;rw[hg]at az;simp at az;subst az;obtain⟨Ms,_,_⟩:=B7 hT ht bM;obtain⟨i,d,hi,hd,hs,_,oy,_,Is⟩:=nQ hT ht;have bU:cur.size=ti.size:=by have:=Rep.length _ _ _ bV;rw[nR hT ht bM]at this;simpa using this
    refine⟨.agg cur,?_,cur,rfl,bV⟩;subst hu;have:=run_loadVar_row (P:=P) w g e t cur (0,0) d hh hd (by rw[Ms]at hd;cases hd;rfl) (by rw[hi];simp[hs,bU]);simp only[Ý,Z,Ô,Â,U,this]
   .simp at h
  .simp at h
 |ep k i o=>
  obtain⟨_,_,hb⟩:=hx;simp only[qD]at h;split at h
  .rename_i e el xs frz hk;have hk:=bj.live hk;obtain⟨_,hi,g,cap,hg,hu⟩:=hb _ hk;obtain⟨cs,bV,dX⟩:=jCh hR hk hg hi;refine fin g _ _ ((cs.drop o).take ti.size) hu h (((ud (rH el _ cs bV)).drop o).take ti.size) (Mr (Rep.one _ _ _ bV)) (λj v hv=>?_);rw[Î];exact dX _ v (Ir hv)
  .rename_i n el xs hk;have hk:=bj.live hk;obtain⟨hi,g,hg,hu⟩:=hb _ hk;obtain⟨cs,bV,dX⟩:=jCi hR hk hg hi;refine fin g _ _ ((cs.drop o).take ti.size) hu h (((ud (rH el _ cs bV)).drop o).take ti.size) (Mr (Rep.one _ _ _ bV)) (λj v hv=>?_);rw[Î];exact dX _ v (Ir hv)
  .simp at h
 |ip ls=>
  obtain⟨g,o,cs,hu,ha,hl⟩:=hx;simp only[qD]at h;refine fin g o _ (cs.take ti.size) hu h ((ud ha).take ti.size) (λu hu=>?_) (λj v hv=>?_)
  .obtain⟨x,_,hx⟩:=ha.mem_right u (qb hu);exact Rep.one _ _ _ hx u ae
  .rw[zg]at hv;split at hv
   .exact(hl j v hv).2
   .simp at hv
 |_=>simp[qD]at h
theorem jp2{P:Á}{T:H->F TyI}(hT:cT P T){f:Field}{tf:TyI}(hf:T f.type=D tf)(hs:0<tf.size)(g o:H) :
  (fieldPlace ⟨g,o,B⟩ f).run P w = .ok ⟨g,o+f.offset,B⟩ w:=by
 have h0:tf.size≠0:=aa;simp only[fieldPlace,Z,kB hT hf,U,Ø,if_neg h0,Â,Í]
theorem DN{rd:H->BS}{k:H}(h:isLive (rd k)=W):∃b,rd k = .live b:=by
 revert h
 cases rd k<;>simp[isLive]
theorem jxx{P:Á}{E:Env}(hT:cT P E.T){rd:H->BS}(bj:RdOk σ rd){t:Ç}{ti:TyI}(ht:E.T t=D ti){i:H}{x l:Leaf}{u:O}
  (h:ry rd ti i x=D l)(hx:cA S w γ σ.bx x u) :
  ∃z,(ã t u i).run P w = .ok z w/\cA S w γ σ.bx l z/\One z:=by
 have fin:∀(g o:H)(f:H×H),u = .pointer (D ⟨g,o,B⟩)->ti.flds[i]? = D f->
   (ã t u i).run P w = .ok (.pointer (D ⟨g,o+f.1,B⟩)) w:=by
  intro g o f hu hf;obtain⟨fs,hd,fl,fm,uZ,bM,tf,sv,hs⟩:=Va hT ht hf;subst hu;simp only[ã,Z,run_underlying hd,U,fm,Ô,Â,jp2 hT (bM▸sv) hs,uZ]
 cases x with
 |bp k o=>
  obtain⟨iN,_,hb⟩:=hx;simp only[ry]at h;split at h
  .rename_i f hf;split at h
   .rename_i hl;simp at h;subst h;obtain⟨b,hk⟩:=DN hl;obtain⟨g,hg,hu⟩:=hb b (bj.live hk);exact⟨_,fin g o f hu hf,⟨iN,rfl,λb' aW=>by obtain⟨g',az,eZ⟩:=hb b' aW;rw[hu]at eZ;simp at eZ;subst eZ;exact⟨g,az,rfl⟩⟩,rfl⟩
   .simp at h
  .simp at h
 |ep k j o=>
  obtain⟨iN,_,hb⟩:=hx;simp only[ry]at h;split at h
  .rename_i f hf;split at h
   .rename_i hl;simp at h;subst h;obtain⟨b,hk⟩:=DN hl;have h0:=hb b (bj.live hk);have dY:=bj.live hk;cases b with
    |cell _ _=>exact h0.elim
    |lst e el xs frz=>obtain⟨cG,hi,g,cap,hg,hu⟩:=h0;refine⟨_,fin g _ f hu hf,⟨iN,rfl,λb' aW=>?_⟩,rfl⟩;rw[dY]at aW;cases aW;exact⟨cG,hi,g,cap,hg,by rw[Î]⟩
    |arr n el xs=>obtain⟨hi,g,hg,hu⟩:=h0;refine⟨_,fin g _ f hu hf,⟨iN,rfl,λb' aW=>?_⟩,rfl⟩;rw[dY]at aW;cases aW;exact⟨hi,g,hg,by rw[Î]⟩
   .simp at h
  .simp at h
 |ip ls=>
  obtain⟨g,o,cs,hu,ha,hl⟩:=hx;simp only[ry]at h;split at h
  .rename_i f hf;simp at h;subst h;refine⟨_,fin g o f hu hf,⟨g,o+f.1,cs.drop f.1,rfl,ha.drop f.1,λj v hv=>?_⟩,rfl⟩;rw[Ö]at hv;have:=hl _ v hv;rwa[<-Î]at this
  .simp at h
 |_=>simp[ry]at h
theorem zA{i:Ä}{n:H}:inR i n=W↔0<=i/\i<n:=by simp[inR]
theorem Mt{P:Á}{T:H->F TyI}(hT:cT P T){t:Ç}{ti:TyI}(ht:T t=D ti){a':Ty}{k:Ï}{i:Ä}{len cap g o:H}(bM:ti.ty=D (.list a'))(hi:0<=i/\i<len) :
  (Ò t (.slice (D ⟨g,o,B⟩) len cap) (.int k i)).run P w = .ok (.pointer (D ⟨g,o+i.toNat*a'.size,B⟩)) w:=by
 obtain⟨hd,_,te,dn,dp⟩:=pE hT ht bM;have hs:=nR hT dn dp;simp only[Ò,asIntOf,Z,Â,U,run_underlying hd,Ø,if_pos hi,kB hT dn,hs,Í]
theorem Vm{P:Á}{T:H->F TyI}(hT:cT P T){t:Ç}{ti:TyI}(ht:T t=D ti){n:H}{a':Ty}{k:Ï}{i:Ä}{g o:H}(bM:ti.ty=D (.arr n a'))(hi:0<=i/\i<n) :
  (Ò t (.pointer (D ⟨g,o,B⟩)) (.int k i)).run P w = .ok (.pointer (D ⟨g,o+i.toNat*a'.size,B⟩)) w:=by
 obtain⟨hd,_,te,dn,dp⟩:=B7 hT ht bM;have hs:=nR hT dn dp;simp only[Ò,asIntOf,Z,Â,U,run_underlying hd,Ô,Ø,if_pos hi,kB hT dn,hs,Í]
theorem Mu{t:F Ty}(h:qE t=W):∃a,t=D (.list a):=by
 unfold qE at h;split at h
 .exact⟨_,rfl⟩
 .simp at h
theorem jxy{P:Á}{E:Env}(hT:cT P E.T)(hR:Rel N np S0 w0 refs σ a w S γ){rd:H->BS}(bj:RdOk σ rd){t:Ç}{ti:TyI}(ht:E.T t=D ti)
  {x y l:Leaf}{u v:O}(h:uQ rd ti x y=D (W,l))(hx:cA S w γ σ.bx x u)(hy:cA S w γ σ.bx y v) :
  ∃z,(Ò t u v).run P w = .ok z w/\cA S w γ σ.bx l z/\One z:=by
 unfold uQ at h;split at h
 .rename_i k kd i;have hv:v = .int kd i:=qH (S:=S) (w:=w) hy;subst hv;split at h
  .rename_i e el xs frz hk;split at h
   .rename_i bM;simp only[j5,j9]at h;obtain⟨hi,rfl⟩:=h;have br:=zA.1 hi;have cG:=bj.nm hk;have hk:=bj.live hk;have hu:=hx.2.2 _ hk;obtain⟨css,aZ,_⟩:=kA cG (hR.box k _ hk);rcases aZ.2 with⟨_,hz⟩|⟨g,cap,cur,hg,_,hh,_⟩
    .omega
    .rw[hu,hg];refine⟨_,Mt hT ht bM br,⟨hx.1,rfl,λb hb=>?_⟩,rfl⟩;rw[hk]at hb;cases hb;exact⟨cG,aa,g,cap,hg,ae⟩
   .simp at h
  .simp at h
 .rename_i el xs kd i;have hv:v = .int kd i:=qH (S:=S) (w:=w) hy;subst hv;split at h
  .rename_i bM;simp only[j5,j9]at h;obtain⟨hi,rfl⟩:=h;have br:=zA.1 hi;obtain⟨ad,cap,hu,hle,l7,hn,hb⟩:=hx;simp at hu;subst hu;cases ad with
   |none=>have:=hn rfl;omega
   |some b=>obtain⟨dq,css,ha,hl⟩:=hb b rfl;obtain⟨g,o,sp⟩:=b;have dq:=dq (λe=>by rw[e]at br;simp at br;omega);simp at dq;subst dq;refine⟨_,Mt hT ht bM br,?_,rfl⟩;obtain⟨c,h1,h2,h3⟩:=yZ (λx c hx=>Rep.length el x c hx) ha i.toNat el.dflt aa;exact⟨g,_,c,rfl,rH el _ c h2,λj v hv=>by rw[Î];exact hl _ v (h3 j v hv)⟩
  .simp at h
 .rename_i k kd i;have hv:v = .int kd i:=qH (S:=S) (w:=w) hy;subst hv;split at h
  .rename_i n el xs hk;split at h
   .rename_i bM;simp only[j5,j9]at h;obtain⟨hi,rfl⟩:=h;have br:=zA.1 hi;have hk:=bj.live hk;obtain⟨g,hg,hu⟩:=hx.2.2 _ hk;subst hu;refine⟨_,Vm hT ht bM br,⟨hx.1,rfl,λb hb=>?_⟩,rfl⟩;rw[hk]at hb;cases hb;exact⟨aa,g,hg,ae⟩
   .simp at h
  .rename_i ls frz hk;split at h
   .rename_i n el bM;split at h
    .rename_i kC;simp only[j5,j9]at h;obtain⟨hi,rfl⟩:=h;have br:=zA.1 hi;have hk:=bj.live hk;obtain⟨g,hg,hu⟩:=hx.2.2 _ hk;subst hu;obtain⟨a',rI⟩:=Mu kC;cases rI;refine⟨_,Vm hT ht bM br,⟨hx.1,rfl,λb hb=>?_⟩,rfl⟩;exact⟨g,hg,by simp[Ty.size]⟩
    .simp at h
   .simp at h
  .simp at h
 .rename_i k j kd i;have hv:v = .int kd i:=qH (S:=S) (w:=w) hy;subst hv;split at h
  .rename_i e el xs frz hk;split at h
   .rename_i bM;simp only[j5,j9]at h;obtain⟨hi,rfl⟩:=h;have br:=zA.1 hi;have cG:=bj.nm hk;have hk:=bj.live hk;obtain⟨_,hj,ad,ic,az,hu⟩:=hx.2.2 _ hk;obtain⟨css,aZ,_⟩:=kA cG (hR.box k _ hk);rcases aZ.2 with⟨_,hz⟩|⟨g,cap,cur,hg,_,hh,kD,_⟩
    .omega
    .rw[hg]at az;simp only[Value.slice.injEq,qr]at az;obtain⟨rfl,rfl⟩:=az;rw[if_neg (show¬cap=j by omega)]at hu;simp only[qa,Í,ki]at hu;subst hu;refine⟨_,Mt hT ht bM br,⟨hx.1,rfl,λb hb=>?_⟩,rfl⟩;rw[hk]at hb;cases hb;refine⟨cG,aa,g,cap,hg,?_⟩;simp[ð]
   .simp at h
  .simp at h
 .simp at h
theorem Mv{P:Á}{T:H->F TyI}(hT:cT P T){n:H}{ti:TyI}(hn:T n=D ti)(ht:ti.ty=D .str):P.underlying n=D .string:=by
 obtain⟨i,d,hi,hd,hs,_,ha,_,h⟩:=nQ hT hn;have:=(h _ ht).2.2;cases d<;>simp_all[lZ,Ty.agg]
theorem jz9{P:Á}{E:Env}(hT:cT P E.T){t:H}{ti:TyI}(ht:E.T t=D ti)(bM:ti.ty=D .str)(s:É)(kd:Ï)(j:Ä)(hj:inR j s.size=W) :
  (á t (.string s) (.int kd j)).run P w = .ok (.int .u8 (dG s j)) w:=by
 have hd:=Mv hT ht bM;have hi:=zA.1 hj;have an:j.toNat<s.size:=aa;have gH:j.toNat<s.data.size:=an;have hg:s[j.toNat]? = D s[j.toNat]:=by simp[an]
 simp only[á,Z,asIntOf,Â,U,run_underlying hd];rw[if_pos hi.1,hg];simp only[Â];congr 2;unfold dG;have:s.data.getD j.toNat 0=s.data[j.toNat]:=by rw[vg,jx gH];rfl
 rw[this];rfl
theorem jCj{P:Á}{E:Env}(hT:cT P E.T){bx:H->BS}{t:Ç}{ti:TyI}(ht:E.T t=D ti)
  {c c':Cel}{y:Leaf}{u v:O}(h:idxV ti c y=D (W,c'))(hc:cF S w γ bx c u)(hy:cA S w γ bx y v) :
  ∃z,(á t u v).run P w = .ok z w/\cF S w γ bx c' z:=by
 unfold idxV at h;split at h
 .rename_i n el xs kd i;have hv:v = .int kd i:=qH (S:=S) (w:=w) hy;subst hv;split at h
  .rename_i bM;simp only[j5,j9]at h;obtain⟨hi,rfl⟩:=h;have br:=zA.1 hi;obtain⟨cs,rfl,hn,css,ha,he⟩:=hc;obtain⟨hd,bK,te,dn,dp⟩:=B7 hT ht bM;have bU:=nR hT dn dp;obtain⟨c,h1,h2,h3⟩:=yZ (λx c hx=>Rep.length el x c hx) ha i.toNat el.dflt aa;have fk:=Rep.length el _ c h2
   have hex:∀j,j<te.size->cs.toList[i.toNat*el.size+j]? = c[j]? := by
    intro j hj;rw[he];have:c[j]? = D c[j]:=jp aa;rw[this];exact h3 j _ this
   obtain⟨ii,dd,hii,qI,_,_,oy,_,gU⟩:=nQ hT dn
   have sy:∃z,(part ti.elem cs (i.toNat*te.size)).run P w = .ok z w/\cF S w γ bx (pD el (xs.getD i.toNat el.dflt)) z:=by
    have fe:=(gU _ dp).2.2;rw[<-bU];by_cases l9:te.agg=W
    .refine⟨.agg (cs.extract (i.toNat*el.size) (i.toNat*el.size+te.size)),?_,?_⟩
     .simp only[part,Z,B5 hT dn,l9,U,if_true,kB hT dn,Â]
     .have oz:(cs.extract (i.toNat*el.size) (i.toNat*el.size+te.size))=c.toArray:=by
       apply qs;simp only[Array.toList_extract,List.extract_eq_take_drop];apply ve;intro j;rw[zg];split
       .rename_i hj;rw[Ö];exact hex j aa
       .rename_i hj;exact(qw aa).symm
      rw[oz];refine Mq el _ c _ h2 (λ_=>rfl) (λhf hna=>?_);exfalso;rw[l9]at oy;cases dd with
      |struct fs=>simp[lZ]at fe;rw[fe]at hf;simp at hf
      |array m e=>cases el<;>simp[lZ]at fe;exact hna _ _ rfl
      |_=>simp[aggD]at oy
    .have hf:te.agg=false:=by simpa using l9
     have fE:el.agg=J/\∀n a,el ≠ .arr n a:=by
      rw[hf]at oy;cases dd with
      |struct fs=>simp[aggD]at oy
      |array m e=>simp[aggD]at oy
      |int k=>simp[lZ]at fe;subst fe;exact⟨rfl,ae⟩
      |bool=>simp[lZ]at fe;subst fe;exact⟨rfl,ae⟩
      |string=>simp[lZ]at fe;subst fe;exact⟨rfl,ae⟩
      |slice e=>cases el<;>simp[lZ]at fe;exact⟨rfl,ae⟩
      |_=>simp[lZ]at fe
     have dQ:∃z,c=[z]:=by
      have:el.size=1:=by cases el<;>first|rfl|(exfalso;simp[Ty.agg]at fE)
      rw[this]at fk;exact List.length_eq_one_iff.1 fk
     obtain⟨z,rfl⟩:=dQ;have hz:cs[i.toNat*el.size]? = D z:=by have:=hex 0 aa;simpa using this
     refine⟨z,?_,Mq el _ [z] z h2 (λho=>?_) (λ_ _=>rfl)⟩
     .simp only[part,Z,B5 hT dn,hf,U,qe,za,hz,Â]
     .rcases ho with ho|⟨n,a,ho⟩
      .rw[fE.1]at ho;simp at ho
      .exact absurd ho (fE.2 _ _)
   obtain⟨z,hz,kO⟩:=sy;refine⟨z,?_,kO⟩;simp only[á,asIntOf,Z,Â,U,run_underlying hd,Ø,if_pos br,kB hT dn,hz]
  .simp at h
 .rename_i s kd i;have hv:v = .int kd i:=qH (S:=S) (w:=w) hy;subst hv;split at h
  .rename_i bM;simp only[j5,j9]at h;obtain⟨hi,rfl⟩:=h;have hu:u = .string s:=DL (S:=S) (w:=w) hc.1;subst hu;exact⟨_,jz9 hT ht bM s kd i hi,rfl,λ_=>rfl⟩
  .simp at h
 .simp at h
theorem jCk{P:Á}{E:Env}(hT:cT P E.T)(hR:Rel N np S0 w0 refs σ a w S γ){rd:H->BS}(bj:RdOk σ rd){t ty:Ç}{ti:TyI}(ht:E.T t=D ti){x l:Leaf}{u:O}
  (h:lenC rd ti.ty x=D l)(hx:cA S w γ σ.bx x u):∃z,(Þ #[t] ty #[u]).run P w = .ok z w/\cA S w γ σ.bx l z/\One z:=by
 have sl:∀(ad:F Addr)(n c:H),qE ti.ty=W->(Þ #[t] ty #[.slice ad n c]).run P w = .ok (.int .i64 n) w:=by intro ad n c hl;obtain⟨a',bM⟩:=Mu hl;obtain⟨hd,_⟩:=pE hT ht bM;simp[Þ,run_underlying hd,goInt]
 unfold lenC at h;split at h
 .split at h
  .rename_i hl;simp at h;subst h;have hu:u = .slice B 0 0:=hx;subst hu;exact⟨_,sl B 0 0 hl,rfl,rfl⟩
  .simp at h
 .rename_i k;split at h
  .rename_i e el xs frz hk;split at h
   .rename_i hl;simp at h;subst h;have cG:=bj.nm hk;have hk:=bj.live hk;have hu:=hx.2.2 _ hk;obtain⟨css,aZ,_⟩:=kA cG (hR.box k _ hk);rcases aZ.2 with⟨hg,hz⟩|⟨g,cap,cur,hg,_⟩
    .rw[hu,hg,hz];exact⟨_,sl _ _ _ hl,rfl,rfl⟩
    .rw[hu,hg];exact⟨_,sl _ _ _ hl,rfl,rfl⟩
   .simp at h
  .simp at h
 .rename_i el xs;split at h
  .rename_i hl;simp at h;subst h;obtain⟨ad,cap,hu,_⟩:=hx;simp at hu;subst hu;exact⟨_,sl _ _ _ hl,rfl,rfl⟩
  .simp at h
 .rename_i s;split at h
  .rename_i bM;simp at h;subst h;have hu:u = .string s:=DL (S:=S) (w:=w) hx;subst hu;have hd:=Mv hT ht bM;exact⟨_,by simp[Þ,run_underlying hd,goInt],rfl,rfl⟩
  .simp at h
 .rename_i k j;split at h
  .rename_i e el xs frz hk;split at h
   .rename_i hl;simp at h;subst h;have hk:=bj.live hk;obtain⟨_,hj,ad,ic,az,hu⟩:=hx.2.2 _ hk;rw[hu];refine⟨_,sl _ _ _ hl,?_,rfl⟩;show [Value.int .i64 _]=[Value.int .i64 _];congr 2
   .simp at h
  .simp at h
 .rename_i k j;split at h
  .rename_i e el xs frz hk;split at h
   .rename_i hl;simp at h;subst h;have hk:=bj.live hk;obtain⟨_,hj,ad,ic,az,hu⟩:=hx.2.2 _ hk;rw[hu];exact⟨_,sl _ _ _ hl,rfl,rfl⟩
   .simp at h
  .simp at h
 .simp at h
end
section
variable{N:NT}{np:H}{S0:aU}{w0:À}{refs:Refs}{σ:St}{a:Ü}{w:À}{S:aU}{γ:H->O}
theorem Rel.step(hR:Rel N np S0 w0 refs σ a w S γ){bx':H->BS}{w':À}{S':aU}{γ':H->O}(hk:ee S w S' w')(hb:BxLe γ σ.bx γ' bx')
   (box:∀k b,bx' k = .live b->fM S' w' γ' bx' k b)(own:∀k b g,bx' k = .live b->blk (γ' k)=D g->Own w0 refs g\/(g∈refs/\parK np k=W))
   (apart:∀k k' b b' g,k≠k'->bx' k = .live b->bx' k' = .live b'->blk (γ' k)=D g->blk (γ' k')≠D g)
   (new:∀g o,S' g o->S0 g o\/Own w0 refs g)(here:∀g o,S' g o->g<w'.heap.size)(below:∀g,g<w0.heap.size->g∉refs->w'.heap[g]? = w0.heap[g]?)
   (grow:w0.heap.size<=w'.heap.size)(os:w'.os=w0.os)(tape:w'.tape=w0.tape)(output:w'.output=w0.output)
   (kept:∀g,g<w.heap.size->refs.kw g≠B->(∀k b,σ.bx k = .live b->blk (γ k)≠D g)->w'.heap[g]? = w.heap[g]? /\ ∀k b,bx' k = .live b->blk (γ' k)≠D g) :
   Rel N np S0 w0 refs { σ with bx:=bx' } a w' S' γ':=
 ⟨hR.size,hR.defers,λi=>jF.keep hk hb (hR.slot i),box,own,apart,λg o h=>(hk g o (hR.ext g o h)).1,new,here,below,grow,os,tape,output,λk v h=>⟨(hR.par k v h).1,(hb k (hR.par k v h).2.1).1,(hb k (hR.par k v h).2.1).2.1.trans (hR.par k v h).2.2⟩,
  λg o h=>by
   obtain⟨h1,h2⟩:=hR.kept g o h;obtain⟨h3,h4⟩:=kept g (ji.1 h1).1 (by rw[h];simp) h2;exact⟨h3.trans h1,h4⟩,hR.fix⟩
theorem fM.keep{S':aU}{w':À}{γ':H->O}{bx bx':H->BS}(hk:ee S w S' w')(hb:BxLe γ bx γ' bx'){k:H}{b:Bx}(hg:γ' k=γ k)
  (hblk:∀g,blk (γ k)=D g->w'.heap[g]? = w.heap[g]? /\ ∀o,S' g o↔S g o)(h:fM S w γ bx k b):fM S' w' γ' bx' k b:=by
 cases b with
 |cell ls frz=>obtain⟨g,cur,e,h1,h2,h3,h4,h5,h6⟩:=h;obtain⟨e1,e2⟩:=hblk g (by rw[h1];rfl);exact⟨g,cur,e,hg.trans h1,e1.trans h2,h3.mono (λx u hx=>cA.keep hk hb hx),h4,λhf o hs=>h5 hf o ((e2 o).1 hs),λhf o ho=>(e2 o).2 (h6 hf o ho)⟩
 |lst e t xs frz=>
  obtain⟨h1,h3⟩:=h;refine⟨?_,λg az=>?_⟩
  .rw[hg];exact h1.keep hk λg az=>(hblk g az).1
  .rw[hg]at az;obtain⟨e1,e2⟩:=hblk g az;obtain⟨h4,h5⟩:=h3 g az;exact⟨λhf o hs=>h4 hf o ((e2 o).1 hs),λhf o=>(e2 o).trans (h5 hf o)⟩
 |arr n t xs=>obtain⟨g,cur,e,h1,h2,h3,h4⟩:=h;obtain⟨e1,e2⟩:=hblk g (by rw[h1];rfl);exact⟨g,cur,e,hg.trans h1,e1.trans h2,Rep.keep hk _ _ _ h3,λo hs=>h4 o ((e2 o).1 hs)⟩
theorem ix(σ:St)(k:H)(b:BS):(σ.setB k b).bx k=b:=by simp[St.setB]
theorem dO(σ:St){k k':H}(b:BS)(h:k'≠k):(σ.setB k b).bx k'=σ.bx k':=by simp[St.setB,h]
theorem jCl(hR:Rel N np S0 w0 refs σ a w S γ){k e:H}{t:Ty}{xs:I t.den}{f:Y}(hm:isM e=J)(hk:σ.bx k = .live (.lst e t xs f)){S':aU}{w':À}(aQ:ee S w S' w')
  (hs:∀g o,blk (γ k)=D g->o<xs.length*t.size->S' g o/\w'.cell? ⟨g,o,B⟩=w.cell? ⟨g,o,B⟩):Rep S' w' (.list t) xs [γ k]:=by
 obtain⟨css,aZ,ha,_⟩:=kA hm (hR.box k _ hk);rcases aZ.2 with⟨hg,hz⟩|⟨g,cap,cur,hg,_,hh,hle,l7,dB,ff⟩
 .refine⟨B,0,?_,?_,?_,λ_=>rfl,λb hb=>by simp at hb⟩
  .rw[hg];show [Value.slice B 0 0]=[Value.slice B (Å xs) 0];rw[show Å xs=0 from hz]
  .show Å xs<=0;rw[show Å xs=0 from hz];exact jv _
  .simp[maxLen]
 .refine⟨D ⟨g,0,B⟩,cap,by rw[hg],hle,l7,ae,λb hb=>?_⟩;simp at hb;subst hb;refine⟨λ_=>rfl,css,ha.mono (λx c hx=>Rep.keep aQ _ _ _ hx),λj v hv=>?_⟩;have hlen:=All2.flatten_length (λx c hx=>Rep.length t x c hx) ha;have hj:j<xs.length*t.size:=by rw[<-hlen];exact(jy.1 hv).1
  obtain⟨h1,h2⟩:=hs g j (by rw[hg];rfl) hj;simp only[ki];refine⟨h1,h2.trans ?_⟩;have:=aZ.cells (g:=g) (by rw[hg];rfl) j v hv;rwa[Í,ki]at this
theorem Mw(hR:Rel N np S0 w0 refs σ a w S γ){k e:H}{t:Ty}{xs:I t.den}{f:Y}(hm:isM e=J)(hk:σ.bx k = .live (.lst e t xs f))(hp:parK np k=J) :
  ∃S',Rel N np S0 w0 refs (σ.setB k (.live (.lst e t xs W))) a w S' γ/\ee S w S' w/\Rep S' w (.list t) xs [γ k]:=by
 let S':aU:=λg o=>S g o\/(blk (γ k)=D g/\o<xs.length*t.size)
 have aQ:ee S w S' w:=λg o h=>⟨.inl h,rfl⟩;have sA:Rep S' w (.list t) xs [γ k]:=jCl hR hm hk aQ (λg o hb ho=>⟨.inr ⟨hb,ho⟩,rfl⟩)
 have DO:BxLe γ σ.bx γ (σ.setB k (.live (.lst e t xs W))).bx:=by
  intro k' bQ;by_cases cH:k'=k
  .subst cH;rw[ix];exact⟨ae,rfl,λb hb=>by simp at hb;subst hb;exact⟨_,hk,rfl,rfl,λ_=>rfl⟩⟩
  .rw[dO σ _ cH];exact⟨bQ,rfl,λb hb=>⟨b,hb,.refl b⟩⟩
 have cg:∀k' b,(σ.setB k (.live (.lst e t xs W))).bx k' = .live b->∃b',σ.bx k' = .live b':=by
  intro k' b hb;by_cases cH:k'=k
  .subst cH;exact⟨_,hk⟩
  .rw[dO σ _ cH]at hb;exact⟨b,hb⟩
 refine⟨S',?_,aQ,sA⟩
 have cY:∀k' b,(σ.setB k (.live (.lst e t xs W))).bx k' = .live b->fM S' w γ (σ.setB k (.live (.lst e t xs W))).bx k' b:=by
  intro k' b hb;by_cases cH:k'=k
  .subst cH;rw[ix]at hb;simp at hb;subst hb;obtain⟨css,aZ,ha,hS⟩:=kA hm (hR.box k' _ hk);refine DI hm ⟨css,aZ,ha.mono (λx c hx=>Rep.keep aQ _ _ _ hx),λg hg=>⟨ae,λ_ o=>?_⟩⟩;obtain⟨h1,h2⟩:=hS g hg;constructor
   .intro hs;rcases hs with hs|hs
    .cases f with
     |false=>exact absurd hs (h1 rfl o)
     |true=>exact(h2 rfl o).1 hs
    .exact hs.2
   .exactλho=> .inr ⟨hg,ho⟩
  .rw[dO σ _ cH]at hb;refine fM.keep aQ DO rfl (λg hg=>⟨rfl,λo=>⟨λhs=>?_,.inl⟩⟩) (hR.box k' b hb);rcases hs with hs|hs
   .exact hs
   .exact absurd hs.1 (hR.apart k' k b _ g cH hb hk hg)
 refine Rel.step hR aQ DO cY ?_ ?_ ?_ ?_ hR.below hR.grow hR.os hR.tape hR.output (λg _ _ h=>⟨rfl,λk' b' aW=>by obtain⟨b2,ib⟩:=cg k' b' aW;exact h k' b2 ib⟩)
 .intro k' b g hb hg;obtain⟨b',aW⟩:=cg k' b hb;exact hR.own k' b' g aW hg
 .intro k1 k2 b1 b2 g bA h1 h2 hg;obtain⟨u4,mZ⟩:=cg k1 b1 h1;obtain⟨u5,ma⟩:=cg k2 b2 h2;exact hR.apart k1 k2 u4 u5 g bA mZ ma hg
 .intro g o hs;rcases hs with hs|hs
  .exact hR.new g o hs
  .rcases hR.own k _ g hk hs.1 with h|h
   .exact .inr h
   .rw[hp]at h;simp at h
 .intro g o hs;rcases hs with hs|hs
  .exact hR.here g o hs
  .obtain⟨css,aZ,_⟩:=kA hm (hR.box k _ hk);rcases aZ.2 with⟨hn,_⟩|⟨g',cap,cur,hg,_,hh,_⟩
   .rw[hn]at hs;simp[blk]at hs
   .rw[hg]at hs;simp[blk]at hs;rw[<-hs.1];exact(ji.1 hh).1
def FrzL(np:H)(bx:H->BS)(u:Ups):Prop:=
 ∀x∈u,parK np x.1=J/\∃e t xs f,bx x.1 = .live (.lst e t xs f)/\x.2 = .live (.lst e t xs W)/\isM e=J
def Froz(bx:H->BS)(γ:H->O)(S:aU)(w:À)(u:Ups):Prop:=
 ∀x∈u,∀e t xs f,bx x.1 = .live (.lst e t xs f)->Rep S w (.list t) xs [γ x.1]
theorem FrzL.app{bx:H->BS}{u v:Ups}:FrzL np bx (u++v)↔FrzL np bx u/\FrzL np bx v:=by
 simp only[FrzL,jn];exact⟨λh=>⟨λx hx=>h x (.inl hx),λx hx=>h x (.inr hx)⟩,λh x hx=>hx.elim (h.1 x) (h.2 x)⟩
theorem Froz.app{bx:H->BS}{u v:Ups}:Froz bx γ S w (u++v)↔Froz bx γ S w u/\Froz bx γ S w v:=by
 simp only[Froz,jn];exact⟨λh=>⟨λx hx=>h x (.inl hx),λx hx=>h x (.inr hx)⟩,λh x hx=>hx.elim (h.1 x) (h.2 x)⟩
theorem FrzL.nil{bx:H->BS}:FrzL np bx []:=λ_ h=>by simp at h
theorem Froz.nil{bx:H->BS}:Froz bx γ S w []:=λ_ h=>by simp at h
theorem Froz.keep{bx:H->BS}{u:Ups}{S':aU}{w':À}(hk:ee S w S' w')(h:Froz bx γ S w u):Froz bx γ S' w' u:=
 λx hx e t xs f hb=>Rep.keep hk _ _ _ (h x hx e t xs f hb)
def mI(bx bx':H->BS):Prop:=
 ∀k,bx' k=bx k\/∃e t xs f f',bx k = .live (.lst e t xs f)/\bx' k = .live (.lst e t xs f')
theorem mI.refl(bx:H->BS):mI bx bx:=λ_=> .inl rfl
theorem mI.trans{b1 b2 b3:H->BS}(h:mI b1 b2)(h':mI b2 b3):mI b1 b3:=by
 intro k;rcases h k with e|⟨e,t,xs,f,f',h1,h2⟩
 .rcases h' k with e'|⟨e2,t,xs,f,f',h1,h2⟩
  .exact .inl (e'.trans e)
  .exact .inr ⟨e2,t,xs,f,f',e▸h1,h2⟩
 .rcases h' k with e'|⟨e2,t2,Vn,f2,f2',h3,h4⟩
  .exact .inr ⟨e,t,xs,f,f',h1,e'.trans h2⟩
  .rw[h2]at h3;cases h3;exact .inr ⟨e,t,xs,f,f2',h1,h4⟩
theorem mI.free{b1 b2:H->BS}(h:mI b1 b2){k:H}(hk:b1 k = .free):b2 k = .free:=by
 rcases h k with e|⟨e,t,xs,f,f',h1,h2⟩
 .rw[e,hk]
 .rw[h1]at hk;simp at hk
theorem mI.cell{b1 b2:H->BS}(h:mI b1 b2){k:H}{ls:I Leaf}{f:Y}(hk:b1 k = .live (.cell ls f)):b2 k = .live (.cell ls f):=by
 rcases h k with e|⟨e,t,xs,f,f',h1,h2⟩
 .rw[e,hk]
 .rw[h1]at hk;simp at hk
theorem mI.arr{b1 b2:H->BS}(h:mI b1 b2){k n:H}{t:Ty}{xs:I t.den}(hk:b1 k = .live (.arr n t xs)):b2 k = .live (.arr n t xs):=by
 rcases h k with e|⟨e,t,xs,f,f',h1,h2⟩
 .rw[e,hk]
 .rw[h1]at hk;simp at hk
theorem mI.lst{b1 b2:H->BS}(h:mI b1 b2){k e:H}{t:Ty}{xs:I t.den}{f:Y}(hk:b1 k = .live (.lst e t xs f)):∃f',b2 k = .live (.lst e t xs f'):=by
 rcases h k with e|⟨e,t,xs,f,f',h1,h2⟩
 .exact⟨f,by rw[e,hk]⟩
 .rw[h1]at hk;cases hk;exact⟨f',h2⟩
theorem mI.le{b1 b2:H->BS}(h:mI b1 b2):BxLe γ b1 γ b2:=by
 intro k hk;rcases h k with e|⟨e,t,xs,f,f',h1,h2⟩
 .rw[e];exact⟨hk,rfl,λb hb=>⟨b,hb,.refl b⟩⟩
 .rw[h2];exact⟨ae,rfl,λb hb=>by simp at hb;subst hb;exact⟨_,h1,rfl,rfl,λ_=>rfl⟩⟩
theorem B8:∀(u:Ups)(σ:St),(σ.upd u).sl=σ.sl
 |[],_=>rfl
 |e::u,σ=>B8 u (σ.setB e.1 e.2)
theorem na:∀(u v:Ups)(σ:St),σ.upd (u++v)=(σ.upd u).upd v
 |[],_,_=>rfl
 |e::u,v,σ=>na u v (σ.setB e.1 e.2)
theorem qJ:∀(u:Ups)(σ:St)(S:aU),Rel N np S0 w0 refs σ a w S γ->FrzL np σ.bx u->
  ∃S',Rel N np S0 w0 refs (σ.upd u) a w S' γ/\ee S w S' w/\Froz σ.bx γ S' w u/\mI σ.bx (σ.upd u).bx
 |[],σ,S,hR,_=>⟨S,hR,.refl S w,.nil,.refl _⟩
 |x::u,σ,S,hR,hf=>by
  obtain⟨hp,e,t,xs,f,hb,hx,hm⟩:=hf x ae;obtain⟨S1,bO,dx,pG⟩:=Mw hR hm hb hp;rw[<-hx]at bO
  have oA:mI σ.bx (σ.setB x.1 x.2).bx:=by
   intro k;by_cases hk:k=x.1
   .subst hk;exact .inr ⟨e,t,xs,f,W,hb,by rw[ix,hx]⟩
   .exact .inl (dO σ _ hk)
  have qK:FrzL np (σ.setB x.1 x.2).bx u:=by intro y hy;obtain⟨zB,e',t',dD,f',aW,B9⟩:=hf y (by simp[hy]);obtain⟨f2,h2⟩:=oA.lst aW;exact⟨zB,e',t',dD,f2,h2,B9⟩
  obtain⟨S2,cU,cZ,gV,nf⟩:=qJ u _ S1 bO qK;refine⟨S2,cU,dx.trans cZ,λy hy e' t' dD f' aW=>?_,oA.trans nf⟩;rcases je.1 hy with rfl|hy
  .rw[hb]at aW;cases aW;exact Rep.keep cZ _ _ _ pG
  .obtain⟨f2,h2⟩:=oA.lst aW;exact gV y hy e' t' dD f2 h2
def RdF(np:H)(σ:St)(rd:H->BS):Prop:=(∀k,(rd k=σ.bx k/\parK np k=J)\/rd k = .gone)/\NoM rd
theorem RdF.ok{rd:H->BS}(h:RdF np σ rd):RdOk σ rd:=⟨λk=>(h.1 k).imp (·.1) id,h.2⟩
theorem RdF.par{rd:H->BS}(h:RdF np σ rd){k:H}{b:Bx}(hk:rd k = .live b):parK np k=false:=by
 rcases h.1 k with h|h
 .exact h.2
 .rw[h]at hk;simp at hk
def DP(S:aU)(w:À)(γ:H->O)(bx:H->BS):Prop:=∀k b,bx k = .live b->fM S w γ bx k b
theorem zC{rd:H->BS}(bj:RdF np σ rd)(hB:DP S w γ σ.bx){t:Ty}{l:Leaf}{v:t.den}{u:Ups}{z:O}(h:lj rd t l=D (v,u))(hl:cA S w γ σ.bx l z) :
  FrzL np σ.bx u/\∀S' w',ee S w S' w'->Froz σ.bx γ S' w' u->Rep S' w' t v [z]:=by
 unfold lj at h;split at h
 .split at h
  .rename_i t' v' v'' jN;simp only[j5,j9]at h;obtain⟨rfl,rfl⟩:=h;have:=nS jN;cases this;exact⟨.nil,λS' w' hk _=>Rep.keep hk _ _ _ hl⟩
  .simp at h
 .split at h
  .simp only[j5,j9]at h;obtain⟨rfl,rfl⟩:=h;have hz:z = .slice B 0 0:=hl;subst hz;exact⟨.nil,λS' w' _ _=>⟨B,0,rfl,jv _,by simp[maxLen],λ_=>rfl,λb hb=>by simp at hb⟩⟩
  .simp at h
 .rename_i k;split at h
  .rename_i e el xs f hk;split at h
   .rename_i v' jN;simp only[j5,j9]at h;obtain⟨rfl,rfl⟩:=h;have:=nS jN;cases this;have bQ:=bj.ok.live hk;refine⟨λx hx=>?_,λS' w' _ hf=>?_⟩
    .have nT:=kp.1 hx;subst nT;exact⟨bj.par hk,e,el,xs,f,bQ,rfl,bj.ok.nm hk⟩
    .have:=hf (k,_) (kp.2 rfl) e el xs f bQ;rw[hl.2.2 _ bQ];exact this
   .simp at h
  .simp at h
 .simp at h
theorem zD{rd:H->BS}(bj:RdF np σ rd)(hB:DP S w γ σ.bx):∀(t:Ty){ls r:I Leaf}{v:t.den}{u:Ups}{zs:I O},gath rd t ls=D (v,r,u)->All2 (cA S w γ σ.bx) ls zs->
  FrzL np σ.bx u/\r=ls.drop t.size/\∀S' w',ee S w S' w'->Froz σ.bx γ S' w' u->Rep S' w' t v (zs.take t.size)
 |.unit,ls,r,v,u,zs,h,ha=>by
  simp only[gath,j5,j9]at h;obtain⟨_,rfl,rfl⟩:=h;exact⟨.nil,rfl,λS' w' _ _=>rfl⟩
 |.wrap b,ls,r,v,u,zs,h,ha=>by
  simp only[gath]at h;split at h
  .rename_i x r' u' hx;simp only[j5,j9]at h;obtain⟨rfl,rfl,rfl⟩:=h;exact zD bj hB b hx ha
  .simp at h
 |.pair b c,ls,r,v,u,zs,h,ha=>by
  simp only[gath]at h;split at h
  .rename_i x r1 u1 hx;split at h
   .rename_i y r2 u2 hy;simp only[j5,j9]at h;obtain⟨rfl,rfl,rfl⟩:=h;obtain⟨f1,e1,p1⟩:=zD bj hB b hx ha;have w6:All2 (cA S w γ σ.bx) r1 (zs.drop b.size):=by rw[e1];exact ha.drop _
    obtain⟨f2,e2,p2⟩:=zD bj hB c hy w6;refine⟨FrzL.app.2 ⟨f1,f2⟩,?_,λS' w' hk hf=>?_⟩
    .rw[e2,e1,â];rfl
    .obtain⟨qK,u6⟩:=Froz.app.1 hf;refine⟨zs.take b.size,(zs.drop b.size).take c.size,?_,p1 S' w' hk qK,p2 S' w' hk u6⟩;show zs.take (b.size+c.size)=_;rw[List.take_add]
   .simp at h
  .simp at h
 |.arr _ _,_,_,_,_,_,h,_=>by simp[gath]at h
 |.int k,l::ls,r,v,u,z::zs,h,ha=>by
  simp only[gath]at h;split at h
  .rename_i v' u' hv;simp only[j5,j9]at h;obtain⟨rfl,rfl,rfl⟩:=h;obtain⟨f,p⟩:=zC bj hB hv ha.1;exact⟨f,rfl,p⟩
  .simp at h
 |.bool,l::ls,r,v,u,z::zs,h,ha=>by
  simp only[gath]at h;split at h
  .rename_i v' u' hv;simp only[j5,j9]at h;obtain⟨rfl,rfl,rfl⟩:=h;obtain⟨f,p⟩:=zC bj hB hv ha.1;exact⟨f,rfl,p⟩
  .simp at h
 |.str,l::ls,r,v,u,z::zs,h,ha=>by
  simp only[gath]at h;split at h
  .rename_i v' u' hv;simp only[j5,j9]at h;obtain⟨rfl,rfl,rfl⟩:=h;obtain⟨f,p⟩:=zC bj hB hv ha.1;exact⟨f,rfl,p⟩
  .simp at h
 |.list b,l::ls,r,v,u,z::zs,h,ha=>by
  simp only[gath]at h;split at h
  .rename_i v' u' hv;simp only[j5,j9]at h;obtain⟨rfl,rfl,rfl⟩:=h;obtain⟨f,p⟩:=zC bj hB hv ha.1;exact⟨f,rfl,p⟩
  .simp at h
 |.int _,[],_,_,_,_,h,_=>by simp[gath]at h
 |.bool,[],_,_,_,_,h,_=>by simp[gath]at h
 |.str,[],_,_,_,_,h,_=>by simp[gath]at h
 |.list _,[],_,_,_,_,h,_=>by simp[gath]at h
 |.int _,_::_,_,_,_,[],_,ha=>ha.elim
 |.bool,_::_,_,_,_,[],_,ha=>ha.elim
 |.str,_::_,_,_,_,[],_,ha=>ha.elim
 |.list _,_::_,_,_,_,[],_,ha=>ha.elim
def cellsOf(u:O):I Value:=u.cells.toList
theorem Ca{u:O}(h:One u):u.cells.toList=[u]:=by
 cases u<;>first|rfl|simp[One,Value.oneCell']at h
theorem Vo(rd:H->BS):∀(t:Ty){ls r:I Leaf}{v:t.den}{u:Ups},gath rd t ls=D (v,r,u)->r.length+t.size=ls.length:=by
 intro t;induction t with
 |unit=>intro ls r v u h;simp only[gath,j5,j9]at h;rw[<-h.2.1];rfl
 |wrap a ih=>
  intro ls r v u h;simp only[gath]at h;split at h
  .rename_i x r' u' hx;simp only[j5,j9]at h;rw[<-h.2.1];exact ih hx
  .simp at h
 |pair a b ue uf=>
  intro ls r v u h;simp only[gath]at h;split at h
  .rename_i x r1 u1 hx;split at h
   .rename_i y r2 u2 hy;simp only[j5,j9]at h;rw[<-h.2.1];have e1:=ue hx;have e2:=uf hy;simp only[Ty.size];omega
   .simp at h
  .simp at h
 |arr n a _=>intro ls r v u h;simp[gath]at h
 |int k=>
  intro ls r v u h;cases ls<;>simp only[gath]at h
  .simp at h
  .split at h
   .simp only[j5,j9]at h;rw[<-h.2.1];simp[Ty.size]
   .simp at h
 |bool=>
  intro ls r v u h;cases ls<;>simp only[gath]at h
  .simp at h
  .split at h
   .simp only[j5,j9]at h;rw[<-h.2.1];simp[Ty.size]
   .simp at h
 |str=>
  intro ls r v u h;cases ls<;>simp only[gath]at h
  .simp at h
  .split at h
   .simp only[j5,j9]at h;rw[<-h.2.1];simp[Ty.size]
   .simp at h
 |list a _=>
  intro ls r v u h;cases ls<;>simp only[gath]at h
  .simp at h
  .split at h
   .simp only[j5,j9]at h;rw[<-h.2.1];simp[Ty.size]
   .simp at h
theorem jzb(rd:H->BS):∀(t:Ty){ls r:I Leaf}{v:t.den}{u:Ups},gath rd t (.dead::ls)=D (v,r,u)->r = .dead::ls:=by
 intro t;induction t with
 |unit=>intro ls r v u h;simp only[gath,j5,j9]at h;exact h.2.1.symm
 |wrap a ih=>
  intro ls r v u h;simp only[gath]at h;split at h
  .rename_i x r' u' hx;simp only[j5,j9]at h;rw[<-h.2.1];exact ih hx
  .simp at h
 |pair a b ue uf=>
  intro ls r v u h;simp only[gath]at h;split at h
  .rename_i x r1 u1 hx;have h1:=ue hx;subst h1;split at h
   .rename_i y r2 u2 hy;simp only[j5,j9]at h;rw[<-h.2.1];exact uf hy
   .simp at h
  .simp at h
 |arr n a _=>intro ls r v u h;simp[gath]at h
 |int k=>intro ls r v u h;simp[gath,lj]at h
 |bool=>intro ls r v u h;simp[gath,lj]at h
 |str=>intro ls r v u h;simp[gath,lj]at h
 |list a _=>intro ls r v u h;simp[gath,lj]at h
theorem jsv{t:Ty}(h:t.agg=W):jM t=true:=by
 revert h;cases t<;>simp[jM,Ty.agg]
theorem DQ{rd:H->BS}(bj:RdF np σ rd)(hB:DP S w γ σ.bx){t:Ty}{c:Cel}{v:t.den}{u:Ups}{z:O}(h:rv rd t c=D (v,u))(hc:cF S w γ σ.bx c z) :
  FrzL np σ.bx u/\(∀S' w',ee S w S' w'->Froz σ.bx γ S' w' u->VRep S' w' ⟨t,v⟩ z)/\z.cells.toList.length=t.size:=by
 unfold rv at h;split at h
 .rename_i l;split at h
  .simp at h
  rename_i oy;split at h
  .rename_i v' u' hv;simp only[j5,j9]at h;obtain⟨rfl,rfl⟩:=h;obtain⟨f,e,p⟩:=zD bj hB t hv (zs:=[z]) ⟨hc.1,trivial⟩;have hlen:=Vo rd t hv;simp at hlen;have hd:l ≠ .dead:=by intro hl;subst hl;have:=jzb rd t hv;simp at this
   have h1:=Ca (hc.2 hd);refine⟨f,λS' w' hk hf=>⟨?_,λhm=>?_,λ_=>hc.2 hd⟩,by simp[h1,hlen]⟩
   .have:=p S' w' hk hf;rw[hlen]at this;rw[h1];exact this
   .exfalso;cases t<;>simp[jM,Ty.agg]at hm oy;simp[gath]at hv
  .simp at h
 .rename_i ls;split at h
  .rename_i oy;split at h
   .rename_i v' u' hv;simp only[j5,j9]at h;obtain⟨rfl,rfl⟩:=h;obtain⟨cs,rfl,ha,h1⟩:=hc;obtain⟨f,e,p⟩:=zD bj hB t hv ha;have hlen:=Vo rd t hv;have hl:=ha.length;simp at hlen;have dB:cs.toList.length=t.size:=aa;refine⟨f,λS' w' hk hf=>⟨?_,λ_=>⟨cs,rfl⟩,λhm=>?_⟩,dB⟩
    .have:=p S' w' hk hf;rwa[List.take_of_length_le aa]at this
    .rw[jsv oy]at hm;simp at hm
   .simp at h
  .simp at h
 .split at h
  .rename_i v' jN;simp only[j5,j9]at h;obtain⟨rfl,rfl⟩:=h;have:=nS jN;cases this;obtain⟨cs,rfl,hr⟩:=hc;exact⟨.nil,λS' w' hk _=>⟨Rep.keep hk _ _ _ hr,λ_=>⟨cs,rfl⟩,by simp[jM]⟩,Rep.length _ _ _ hr⟩
  .simp at h
end
end Go.Lft
