/- A typed evaluator of the model's code, on plain data: definitions. -/
import Derived.WalkKit
import Derived.Orders
import Derived.MapKept
open Option renaming none->B,some->D
open _root_ renaming Option->F,Nat->H,List->I,Bool->X,Int->Å,Array->É,ByteArray->Ë,False->Û,DecidableEq->ç
open Bool renaming false->J,true->U
open Go renaming Value->O,World->À,Program->Á,Oper->Æ,TypeId->È,Operand->Í,IntKind->Ð,Code->Õ,TypeDesc->Ù,Act->Ý,BinOp->å,ResultVar->æ,TypeInfo->î
open Go.Result renaming andThen_ok->W
open Decidable renaming decide->Y
open Go.Sem renaming run_bind->Z,run_pure->Â,run_ite->Ø
open Int renaming toNat->Ã,ofNat->ä,fdiv->í
open List renaming length->Ä,replicate->Ç,getD->Ê,take->Ñ,range->Ò,getElem?_drop->Ö,drop->Ú,drop_drop->â,set->þ
open Nat renaming beq->Ì,add_assoc->Ï,blt->è,add_mul->ð
open Go.Addr renaming add_lit->Î
open Go.Instr renaming indexAt->Ó,sureAddr->Ô,loadAt->Þ,index->á,fieldAt->ã
open Go.Op renaming intCmp->Ü,intArith->à,unary->ï,eqFields->ñ,maxDepth->ò,stringOp->ó,equalIn->ö,intDiv->ù
open Go.Builtin renaming len_->ß,min_->ë,max_->ì
theorem ja {α β:Type _} (a:α) (f:α→F β):(D a).bind f=f a:=rfl
theorem jb {α:Type _} (a b:α):(D a=D b)=(a=b):=Option.some.injEq a b
theorem jc {α:Sort _} {a b:α}:cond U a b=a:=rfl
theorem jd {α:Sort _} {a b:α}:cond J a b=b:=rfl
theorem je (n:H):Ã (n:Å)=n:=rfl
theorem jf {α β:Type _} (a:α) (b:β) (c:α) (d:β):((a,b)=(c,d))=(a=c∧b=d):=Prod.mk.injEq a b c d
theorem jg {a b:Prop} (h:a) (g:b):a∧b:=And.intro h g
abbrev jh:=@List.drop_eq_getElem_cons
abbrev ji:=@Bool.and_eq_true
abbrev jj:=@List.drop_of_length_le
abbrev jk:=@Bool.not_true
abbrev jl:=@List.mem_cons
abbrev jm:=@bne_self_eq_false
abbrev jn:=@Array.getElem?_eq_some_iff
abbrev jo:=@List.length_append
abbrev jp:=@List.length_cons
abbrev jq:=@decide_eq_true_eq
abbrev jr:=@List.append_assoc
abbrev js:=@List.mem_append
abbrev jt:=@Bool.not_false
abbrev ju:=@Array.getElem?_eq_getElem
abbrev jv:=@List.getElem?_eq_getElem
abbrev jw:=@List.all_eq_true
abbrev jx:=@List.getElem_mem
abbrev jy:=@List.drop_zero
abbrev jz:=@Nat.le_refl
abbrev ka:=@List.eq_nil_of_length_eq_zero
abbrev kb:=@List.getElem?_eq_some_iff
abbrev kc:=@List.mem_append_right
abbrev ke:=@List.mem_append_left
abbrev kf:=@Nat.mul_le_mul_right
abbrev kg:=@List.nil_append
abbrev ki:=@List.mem_of_getElem?
abbrev kj:=@Nat.zero_add
abbrev kn:=@Classical.byContradiction
abbrev ko:=@decide_eq_false_iff_not
abbrev kp:=@List.mem_map
abbrev kq:=@Nat.zero_le
abbrev kr:=@Int.le_refl
abbrev ku:=@List.getElem?_append_right
abbrev kx:=@List.flatten_cons
abbrev kz:=@Option.map_some
abbrev q7:=@Nat.le_trans
abbrev q8:=@Array.length_toList
abbrev q9:=@Array.ext'
abbrev qa:=@List.length_map
abbrev qb:=@congrArg
abbrev qc:=@List.length_nil
abbrev qd:=@Bool.not_eq_true'
abbrev qe:=@of_decide_eq_true
abbrev qf:=@Bool.false_eq_true
abbrev qg:=@Array.getElem?_toList
abbrev qh:=@beq_self_eq_true
abbrev qi:=@List.contains_eq_mem
abbrev qj:=@List.mem_singleton
abbrev qk:=@List.getElem?_eq_none
abbrev ql:=@List.append_nil
abbrev qm:=@true_and
abbrev qn:=@List.getElem?_map
abbrev qo:=@Bool.eq_false_iff
abbrev qp:=@List.mem_of_mem_take
abbrev qq:=@List.length_take
abbrev qr:=@List.any_eq_false
abbrev qs:=@Bool.or_eq_true
abbrev qt:=@Nat.lt_or_ge
abbrev qu:=@List.map_cons
abbrev qv:=@List.take_append_drop
abbrev qw:=@List.length_singleton
abbrev qx:=@List.nodup_cons
abbrev qy:=@List.getElem?_take
abbrev qz:=@List.length_drop
abbrev z6:=@List.mem_cons_of_mem
abbrev z7:=@Int.tdiv_eq_ediv_of_nonneg
abbrev z8:=@Nat.mul_le_mul
abbrev za:=@List.mem_iff_getElem?
abbrev zb:=@Nat.le_of_ble_eq_true
abbrev zd:=@if_false
abbrev ze:=@Option.getD_some
abbrev zf:=@Nat.lt_of_lt_of_le
abbrev zg:=@List.mem_flatMap
abbrev zh:=@Option.isSome_some
abbrev zi:=@List.pairwise_cons
abbrev zj:=@List.all_cons
abbrev zk:=@List.mem_of_mem_drop
abbrev zm:=@Array.toList_eq_nil_iff
abbrev zo:=@List.length_eq_zero_iff
abbrev zp:=@List.ext_getElem?
abbrev zq:=@List.nodup_append
abbrev zr:=@Array.getD_eq_getD_getElem?
abbrev zt:=@List.length_set
abbrev zu:=@Bool.true_or
abbrev zv:=@Nat.eq_of_beq_eq_true
abbrev zw:=@List.length_replicate
abbrev v6:=@List.mapM_cons
abbrev v7:=@List.mem_cons_self
abbrev v8:=@Int.tmod_lt_of_pos
abbrev va:=@Option.isSome_none
abbrev vb:=@List.eq_nil_or_concat
abbrev vc:=@List.concat_eq_append
abbrev vd:=@List.pairwise_iff_getElem
abbrev ve:=@Nat.succ_mul
abbrev vf:=@Bool.or_eq_false_iff
abbrev vg:=@beq_iff_eq
abbrev vi:=@Nat.lt_trichotomy
abbrev vj:=@List.getLast?_singleton
abbrev vk:=@List.filterMap_cons
abbrev vp:=@Bool.cond_true_left
abbrev vq:=@List.range'_succ
abbrev vr:=@List.drop_left
abbrev vu:=@List.mem_filterMap
abbrev vv:=@List.set_append_right
abbrev vw:=@Int.tmod_nonneg
abbrev vz:=@Bool.true_and
abbrev y8:=@Bool.and_self
abbrev y9:=@List.size_toArray
abbrev ya:=@List.take_add_one
abbrev yb:=@Array.mapM_eq_mapM_toList
abbrev yc:=@List.dropLast_concat
abbrev yd:=@List.getLast?_append
abbrev ye:=@Int.le_trans
abbrev yf:=@Bool.or_true
abbrev yg:=@Int.ediv_le_self
abbrev yh:=@List.flatten_append
abbrev yi:=@List.getElem_of_mem
abbrev yj:=@List.take_left'
abbrev yk:=@List.foldl_cons
abbrev yl:=@List.cons.injEq
abbrev ym:=@Nat.mul_div_cancel
abbrev yn:=@Nat.eq_zero_or_pos
abbrev yo:=@Int.ediv_nonneg
abbrev yp:=@List.flatMap_cons
abbrev yq:=@List.map_map
set_option linter.unusedVariables false
namespace Go.Lft
theorem omg_ {p:Prop} (h:p:=by omega):p:=h
theorem smp_ {p:Prop} (h:p:=by simp):p:=h
theorem sqo_ {p:Prop} (h:p:=by (simp;omega)):p:=h
theorem oLn_ {α:Type} (l:I α):ä l.length=(l.length:Å):=rfl
inductive Ty where
 | int (k:Ð)
 | bool
 | str
 | unit
 | wrap (a:Ty)
 | pair (a b:Ty)
 | list (a:Ty)
 | arr (n:H) (a:Ty)
 deriving ç
@[reducible] def Ty.den:Ty→Type
 | .int _=>Å
 | .bool=>X
 | .str=>Ë
 | .unit=>Unit
 | .wrap a=>a.den
 | .pair a b=>a.den×b.den
 | .list a=>I a.den
 | .arr _ a=>I a.den
def Ty.dflt:(t:Ty)→t.den
 | .int _=>(0:Å)
 | .bool=>J
 | .str=>ByteArray.empty
 | .unit=>()
 | .wrap a=>a.dflt
 | .pair a b=>(a.dflt,b.dflt)
 | .list _=>[]
 | .arr n a=>Ç n a.dflt
def Ty.size:Ty→H
 | .int _ | .bool | .str | .list _=>1
 | .unit=>0
 | .wrap a=>a.size
 | .pair a b=>a.size+b.size
 | .arr n a=>n*a.size
def Ty.flat:Ty→X
 | .int _ | .bool | .str | .unit=>U
 | .wrap a=>a.flat
 | .pair a b=>a.flat&&b.flat
 | .list _=>J
 | .arr _ a=>a.flat
def Ty.leafy:Ty→X
 | .int _ | .bool | .str | .list _=>U
 | _=>J
structure TV where
 t:Ty
 v:t.den
def TV.to (t:Ty) (x:TV):F t.den:=if h:x.t=t then D (h▸x.v) else B
inductive Cap where
 | v (x:TV)
 | p (ls:I TV)
inductive Leaf where
 | dead
 | nil
 | d (t:Ty) (v:t.den)
 | ol (k:H)
 | bp (k:H) (c:H)
 | ep (k:H) (i:H) (c:H)
 | tl (k:H) (i:H)
 | hd (k:H) (i:H)
 | ip (ls:I TV)
 | clo (f:H) (caps:I Cap)
 | clr (f:H) (ks:I H)
inductive Cel where
 | one (x:Leaf)
 | st (ls:I Leaf)
 | av (n:H) (a:Ty) (xs:I a.den)
inductive Slot where
 | one (c:Cel)
 | tup (l:I Cel)
 | cnd (s:H) (want:X) (c:Cel)
 | und
def jfo {α β:Type} [BEq α] (xs:I (α×β)) (k:α):Bool:=xs.any fun x=>k==x.1
def jam {α β:Type} [BEq α] (d:β):I (α×β)→α→β
 | [],_=>d
 | x::r,k=>cond (k==x.1) x.2 (jam d r k)
def j6J {α β:Type} [BEq α]:I (α×β)→α→β→I (α×β)
 | [],k,v=>[(k,v)]
 | x::r,k,v=>cond (k==x.1) ((k,v)::r) (x::j6J r k v)
@[reducible] def Ty.keq:(t:Ty)→BEq t.den
 | .int _=>⟨fun (a b:Å)=>a==b⟩
 | .str=>⟨fun (a b:Ë)=>a==b⟩
 | _=>⟨fun _ _=>J⟩
def Ty.isKey:Ty→X
 | .int _ | .str=>U
 | _=>J
def j3J (s:Ë) (i:Å):Int:=(s.data.getD i.toNat 0).toNat
def isM (e:H):Bool:=Nat.ble 4294967296 e
inductive Bx where
 | cell (ls:I Leaf) (frz:X)
 | lst (e:H) (a:Ty) (xs:I a.den) (frz:X)
 | arr (n:H) (a:Ty) (xs:I a.den)
 | row (e:H) (a:Ty) (n:H) (ls:I Leaf)
inductive BS where
 | free | gone | live (b:Bx)
def mskM (rd:H→BS) (k:H):BS:=match rd k with
 | .live (.lst e a xs f)=>if isM e then .gone else .live (.lst e a xs f)
 | b=>b
structure St where
 sl:H→Slot
 bx:H→BS
def St.setS (σ:St) (i:H) (s:Slot):St:={ σ with sl:=fun j=>if j=i then s else σ.sl j }
def St.setB (σ:St) (k:H) (b:BS):St:={ σ with bx:=fun j=>if j=k then b else σ.bx j }
inductive Item where
 | s (c:Cel)
 | b (x:BS)
abbrev Snap:=I Item
inductive Arg where
 | v (x:TV)
 | ref (ls:I TV)
 | rl (e:H) (x:TV)
 | ip (ls:I TV)
 | clo (f:H) (caps:I Cap)
 | mv (e:H) (x:TV)
inductive RL where
 | d (x:TV)
 | own (e:H) (x:TV)
inductive SoK where
 | d (t:Ty)
 | own (e:H) (a:Ty)
inductive RV where
 | v (x:TV)
 | own (e:H) (x:TV)
 | box (ls:I TV)
 | hd (n:H)
 | vn (x:TV) (ns:I H)
 | clo (f:H) (caps:I Cap)
 | so (ls:I RL)
 | raw (ns:I H) (s:Snap)
inductive Out where
 | ref (ls:I TV)
 | rl (x:TV)
structure Ret where
 vals:I RV
 outs:I Out
inductive Ex where
 | normal | exit (id:H) | ret
 deriving ç
inductive Loc where
 | slot (i:H)
 | cell (k c:H)
 deriving ç
structure jhv where
 name:H
 e:H
 a:Ty
 locs:I Loc
 frz:X
structure Keep where
 slots:I H
 boxes:I H
 lists:I jhv
 datas:I (Loc×Ty):=[]
structure TyI where
 size:H
 agg:X
 ty:F Ty
 flds:I (H×H)
 elem:H
 cmp:I Ty:=[]
 mp:F (H×H):=B
def parK (np k:H):Bool:=Y (k%64=0)&&Y (k/64<np)
structure NT where
 n:H
 pin:H→X
instance (n:H):OfNat NT n:=⟨⟨n,fun _=>J⟩⟩
def NT.ok (N:NT) (d:H):Prop:=d<N.n∧N.pin d=J
inductive Gh where
 | ex (k c n m:H)
 | rl (k:H)
 | se (k:H)
 | da (l:I (Loc×Ty))
structure Env where
 N:NT
 np:H
 T:H→F TyI
 C:H→I Arg→(R:Type)→(Ret→F R)→F R
 modes:H→I X
 L:H→Snap→(R:Type)→(Ex→Snap→F R)→F R
 keep:H→Keep
 keepX:H→Ex→Keep
 ro:I X
 dw:H→I (I H):=fun _=>[]
 nz:Bool:=J
 hd:Bool:=J
 ns:I Nat:=[]
 bw:H→F (X×Ty):=fun _=>B
 so:I SoK:=[]
 cr:I Nat:=[]
 un:H→Nat:=fun _=>0
 pre:H→I Gh:=fun _=>[]
 rw:Bool:=J
 rn:I Nat:=[]
 b1:I Nat:=[]
 ks:H→Bool:=fun _=>J
 mvf:H→Bool:=fun _=>J
 mr:H→F (H×H):=fun _=>B
 M:H→Snap→(R:Type)→(Snap→F R)→F R:=fun _ _ _ _=>B
 pa:H→F (H×Ty):=fun _=>B
 sc:Bool:=J
def insI (x:Å):I Å→I Å
 | []=>[x]
 | y::ys=>cond (Y (x≤y)) (x::y::ys) (y::insI x ys)
def jjb:I Å→I Å
 | []=>[]
 | x::xs=>insI x (jjb xs)
def jwH {β:Type} (xs:I (Å×β)):Bool:=Nat.ble xs.length 1000000&&xs.all fun x=>Y (-9223372036854775808≤x.1)&&Y (x.1≤9223372036854775807)
def jlZ {β:Type} (xs:I (Å×β)):I Int:=jjb (xs.map fun x=>x.1)
def jyT:(a:Ty)→I a.den→F (X×I Å)
 | .pair (.int .i64) _,xs=>D (jwH xs,jlZ xs)
 | _,_=>B
def jpo:O→Leaf
 | .int k n=> .d (.int k) n
 | .bool b=> .d .bool b
 | .string s=> .d .str s
 | .slice B 0 0=> .nil
 | _=> .dead
def St.ev (σ:St):Í→Slot
 | .tmp t=>σ.sl t
 | .const v=> .one (.one (jpo v))
 | .func f=> .one (.one (.clo f []))
 | .global _=> .one (.one .dead)
def j8j (ops:É Æ) (o:Æ):F (H×X):=
 match o.guard with
 | none=>B
 | some (j,w)=>match ops[j]? with
  | some oj=>match oj.dst with
   | some s=>D (s,w)
   | none=>B
  | none=>B
def St.chain (σ:St):H→H×X→I (H×X)
 | 0,g=>[g]
 | n+1,g=>match σ.sl g.1 with
  | .cnd s w _=>g::σ.chain n (s,w)
  | _=>[g]
def Slot.cel (act:I (H×X)):Slot→Cel
 | .one c=>c
 | .tup _=> .one .dead
 | .und=> .one .dead
 | .cnd s w c=>if act.contains (s,w) then c else .one .dead
abbrev Ups:=I (H×BS)
def scat:(t:Ty)→t.den→I TV
 | .unit,_=>[]
 | .wrap a,v=>scat a v
 | .pair a b,v=>scat a v.1++scat b v.2
 | .arr n a,v=>(Ò n).flatMap fun i=>scat a (Ê v i a.dflt)
 | t,v=>[⟨t,v⟩]
def TV.leaf (x:TV):Leaf:= .d x.t x.v
def jgt:Ty→I Leaf
 | .unit=>[]
 | .wrap a=>jgt a
 | .pair a b=>jgt a++jgt b
 | .arr n a=>(Ò n).flatMap fun _=>jgt a
 | .list _=>[.nil]
 | t=>[.d t t.dflt]
def hdr:(t:Ty)→H→F t.den
 | .list .unit,n=>D (Ç n ())
 | _,_=>B
def lenL (rd:H→BS):Leaf→F H
 | .d (.list .unit) _=>B
 | .d (.list _) xs=>D (Ä xs)
 | .ol k=>match rd k with
  | .live (.lst _ _ xs _)=>D xs.length
  | .live (.row _ _ n _)=>D n
  | _=>B
 | _=>B
def je7 (rd:H→BS) (t:Ty) (l:Leaf):F t.den:=match lenL rd l with
 | some n=>hdr t n
 | none=>B
def j7l (rd:H→BS) (t:Ty):Leaf→F (t.den×Ups)
 | .d t' v=>match (TV.mk t' v).to t with
  | some v'=>D (v',[])
  | none=>B
 | .nil=>match t with
  | .list _=>D ([],[])
  | _=>B
 | .ol k=>match rd k with
  | .live (.lst e a xs _)=>match (TV.mk (.list a) xs).to t with
   | some v'=>D (v',[(k,.live (.lst e a xs U))])
   | none=>B
  | _=>B
 | _=>B
def jbQ (rd:H→BS) (t:Ty) (l:Leaf):F (t.den×Ups):=match je7 rd t l with
 | some v=>D (v,[])
 | none=>j7l rd t l
def gath (rd:H→BS):(t:Ty)→I Leaf→F (t.den×I Leaf×Ups)
 | .unit,ls=>D ((),ls,[])
 | .wrap a,ls=>match gath rd a ls with
  | some (x,r,u)=>D (x,r,u)
  | none=>B
 | .pair a b,ls=>match gath rd a ls with
  | some (x,r,u)=>match gath rd b r with
   | some (y,r',u')=>D ((x,y),r',u++u')
   | none=>B
  | none=>B
 | .arr _ _,_=>B
 | t,l::ls=>match jbQ rd t l with
  | some (v,u)=>D (v,ls,u)
  | none=>B
 | _,[]=>B
def Ty.agg:Ty→X
 | .unit | .wrap _ | .pair _ _=>U
 | _=>J
def jfp (rd:H→BS) (t:Ty):Cel→F (t.den×Ups)
 | .one l=>if t.agg then B else match gath rd t [l] with
  | some (v,[],u)=>D (v,u)
  | _=>B
 | .st ls=>if t.agg then match gath rd t ls with
  | some (v,[],u)=>D (v,u)
  | _=>B
  else B
 | .av n a xs=>match (TV.mk (.arr n a) xs).to t with
  | some v=>D (v,[])
  | none=>B
def jbc:(t:Ty)→t.den→Cel
 | .arr n a,v=> .av n a v
 | t,v=>if t.agg then .st ((scat t v).map TV.leaf) else .one (.d t v)
def Cel.leaves:Cel→F (I Leaf)
 | .one .dead=>B
 | .one l=>D [l]
 | .st ls=>D ls
 | .av n (.list b) ys=>D ((Ò n).map fun i=> .d (.list b) (Ê ys i []))
 | .av _ _ _=>B
def cmpI (op:å) (x y:Å):F Bool:=
 match op with
 | .eql=>D (x==y)
 | .neq=>D (x != y)
 | .lss=>D (Y (x<y))
 | .leq=>D (Y (x≤y))
 | .gtr=>D (Y (x>y))
 | .geq=>D (Y (x≥y))
 | _=>B
def eqT:TV→TV→F X
 | ⟨.int k,x⟩,⟨.int k',y⟩=>if k=k' then D ((show Å from x)==(show Å from y)) else B
 | ⟨.bool,x⟩,⟨.bool,y⟩=>D ((show X from x)==(show X from y))
 | ⟨.str,x⟩,⟨.str,y⟩=>D ((show Ë from x).toList==(show Ë from y).toList)
 | _,_=>B
def eqL:I Ty→I Leaf→I Leaf→F X
 | [],[],[]=>D U
 | k::ks,.d t x::l,.d t' y::l'=>if t=k∧t'=k then match eqT ⟨t,x⟩ ⟨t',y⟩ with
  | some b=>match ks with
   | []=>match l,l' with
    | [],[]=>D b
    | _,_=>B
   | ks=>match eqL ks l l' with
    | some b'=>D (b&&b')
    | none=>B
  | none=>B
  else B
 | _,_,_=>B
def binI (op:å) (k:Ð) (x y:Å):F (X×Leaf):=
 match op with
 | .add=>D (U,.d (.int k) (k.wrap (x+y)))
 | .sub=>D (U,.d (.int k) (k.wrap (x-y)))
 | .mul=>D (U,.d (.int k) (k.wrap (x*y)))
 | .quo=>D (!(y==0),.d (.int k) (k.wrap (x.tdiv y)))
 | .rem=>D (!(y==0),.d (.int k) (x.tmod y))
 | .shr=>if Y ((0:Å)≤y) then D (U,.d (.int k) (í x (2^min (Ã y) k.bits))) else B
 | .and | .or | .xor | .andNot | .shl=>B
 | op=>match cmpI op x y with
  | some b=>D (U,.d .bool b)
  | none=>B
def jwI (ti:F TyI):Bool:=match ti with
 | some t=>Y (t.ty=D .bool)
 | none=>J
def jnu (ti:F TyI):I Ty:=match ti with
 | some t=>t.cmp
 | none=>[]
def binC (ti:F TyI) (op:å):Cel→Cel→F (X×Leaf)
 | .one (.d (.int k) x),.one (.d (.int k') y)=>if k=k' then binI op k x y else
  match op with
  | .shr=>if Y ((0:Å)≤y) then D (U,.d (.int k) (í x (2^min (Ã y) k.bits))) else B
  | _=>B
 | .one (.d .bool x),.one (.d .bool y)=>if jwI ti then match op with
  | .eql=>D (U,.d .bool ((show X from x)==(show X from y)))
  | .neq=>D (U,.d .bool (!((show X from x)==(show X from y))))
  | _=>B
  else B
 | .one (.d .str x),.one (.d .str y)=>match op with
  | .eql=>D (U,.d .bool ((show Ë from x).toList==(show Ë from y).toList))
  | .neq=>D (U,.d .bool (!((show Ë from x).toList==(show Ë from y).toList)))
  | _=>B
 | .st l,.st l'=>if (jnu ti).isEmpty then B else match op with
  | .eql=>match eqL (jnu ti) l l' with
   | some b=>D (U,.d .bool b)
   | none=>B
  | .neq=>match eqL (jnu ti) l l' with
   | some b=>D (U,.d .bool (!b))
   | none=>B
  | _=>B
 | _,_=>B
def unC (op:UnOp):Cel→F Leaf
 | .one (.d .bool x)=>match op with
  | .not=>D (.d .bool (!(show X from x)))
  | _=>B
 | .one (.d (.int k) x)=>match op with
  | .neg=>D (.d (.int k) (k.wrap (0-(show Å from x))))
  | _=>B
 | _=>B
def jkK (ti:TyI) (ls:I Leaf):F Cel:=
 if ti.agg then (if ls.length=ti.size then D (.st ls) else B)
 else match ls with
  | [l]=>D (.one l)
  | _=>B
def jhw (rd:H→BS) (ti:TyI):Leaf→F Cel
 | .bp k c=>match rd k with
  | .live (.cell ls _)=>jkK ti ((ls.drop c).take ti.size)
  | .live (.arr n a xs)=>if c=0∧ti.ty=D (.arr n a) then D (.av n a xs) else B
  | _=>B
 | .ep k i c=>match rd k with
  | .live (.lst e a xs _)=>jkK ti ((((scat a (Ê xs i a.dflt)).map TV.leaf).drop c).take ti.size)
  | .live (.arr _ a xs)=>jkK ti ((((scat a (Ê xs i a.dflt)).map TV.leaf).drop c).take ti.size)
  | .live (.row _ a _ ls)=>if c+ti.size≤a.size then jkK ti ((ls.drop (i*a.size+c)).take ti.size) else B
  | _=>B
 | .ip ls=>jkK ti ((ls.map TV.leaf).take ti.size)
 | _=>B
def jcd (ls:I Leaf) (c:H) (new:I Leaf):I Leaf:=ls.take c++new++ls.drop (c+new.length)
def jib (rd rdf:H→BS) (sz:H) (val:Cel):Leaf→F Ups
 | .bp k c=>match rd k with
  | .live (.cell ls J)=>match val.leaves with
   | some new=>if new.length=sz∧c+new.length≤ls.length then D [(k,.live (.cell (jcd ls c new) J))] else B
   | none=>B
  | .live (.arr n a _)=>if c=0 then match val with
    | .av n' a' ys=>match (TV.mk (.arr n' a') ys).to (.arr n a) with
     | some ys'=>if sz=n*a.size then D [(k,.live (.arr n a ys'))] else B
     | none=>B
    | _=>B
   else B
  | _=>B
 | .ep k i c=>match rd k with
  | .live (.lst el a xs J)=>match val.leaves with
   | some new=>if new.length=sz∧c+new.length≤a.size then match gath rdf a (jcd ((scat a (Ê xs i a.dflt)).map TV.leaf) c new) with
    | some (e,[],u)=>if u.any (fun y=>y.1==k) then B else D (u++[(k,.live (.lst el a (þ xs i e) J))])
    | _=>B
    else B
   | none=>B
  | .live (.arr n a xs)=>match val.leaves with
   | some new=>if new.length=sz∧c+new.length≤a.size then match gath rdf a (jcd ((scat a (Ê xs i a.dflt)).map TV.leaf) c new) with
    | some (e,[],u)=>if u.any (fun y=>y.1==k) then B else D (u++[(k,.live (.arr n a (þ xs i e)))])
    | _=>B
    else B
   | none=>B
  | .live (.row e a n ls)=>match val.leaves with
   | some new=>if new.length=sz∧c+new.length≤a.size then D [(k,.live (.row e a n (jcd ls (i*a.size+c) new)))] else B
   | none=>B
  | _=>B
 | _=>B
def isLive:BS→X
 | .live _=>U
 | _=>J
def jdS (rd:H→BS) (ti:TyI) (i:H):Leaf→F Leaf
 | .bp k c=>match ti.flds[i]? with
  | some f=>if isLive (rd k) then D (.bp k (c+f.1)) else B
  | none=>B
 | .ep k j c=>match ti.flds[i]? with
  | some f=>if isLive (rd k) then D (.ep k j (c+f.1)) else B
  | none=>B
 | .ip ls=>match ti.flds[i]? with
  | some f=>D (.ip (ls.drop f.1))
  | none=>B
 | _=>B
def jbd (t:F Ty):Bool:=match t with
 | some (.list _)=>U
 | _=>J
def jm0 (rd:H→BS) (a:Ty):I Leaf→F (I a.den×Ups)
 | []=>D ([],[])
 | l::ls=>match jbQ rd a l,jm0 rd a ls with
  | some (x,u),D (xs,v)=>D (x::xs,u++v)
  | _,_=>B
def jgu (rd:H→BS) (t:F Ty):Leaf→F (H×Ty×I Leaf)
 | .bp k 0=>match t with
  | some (.arr m a)=>if jbd (D a) then match rd k with
   | .live (.cell ls J)=>D (m,a,ls)
   | _=>B
   else B
  | _=>B
 | _=>B
def inR (i:Å) (n:H):Bool:=Y (0≤i)&&Y (i<(n:Å))
def jgv (rd:H→BS) (ti:TyI):Leaf→Leaf→F (X×Leaf)
 | .ol k,.d (.int _) i=>match rd k with
  | .live (.lst e a xs _)=>if ti.ty=D (.list a) then D (inR i xs.length,.ep k (Ã i) 0) else B
  | .live (.row _ a n _)=>if ti.ty=D (.list a) then D (inR i n,.ep k (cond (Ì n 1) 0 (Ã i)) 0) else B
  | _=>B
 | .d (.list a) xs,.d (.int _) i=>if ti.ty=D (.list a) then D (inR i (Ä xs),.ip (scat a (Ê xs (Ã i) a.dflt))) else B
 | .bp k 0,.d (.int _) i=>match rd k with
  | .live (.arr n a _)=>if ti.ty=D (.arr n a) then D (inR i n,.ep k (Ã i) 0) else B
  | .live (.cell _ _)=>match ti.ty with
   | some (.arr n a)=>if jbd (D a) then D (inR i n,.bp k (Ã i)) else B
   | _=>B
  | _=>B
 | .tl k j,.d (.int _) i=>match rd k with
  | .live (.lst e a xs _)=>if ti.ty=D (.list a) then D (inR i (xs.length-j),.ep k (j+Ã i) 0) else B
  | _=>B
 | _,_=>B
def idxV (ti:TyI):Cel→Leaf→F (X×Cel)
 | .av n a xs,.d (.int _) i=>if ti.ty=D (.arr n a) then D (inR i n,jbc a (Ê xs (Ã i) a.dflt)) else B
 | .one (.d .str s),.d (.int _) i=>if ti.ty=D .str then D (inR i s.size,.one (.d (.int .u8) (j3J s i))) else B
 | _,_=>B
def jlc (ti:TyI) (sz:H→F H):I Leaf→I (H×Cel)→F (I Leaf)
 | ls,[]=>D ls
 | ls,(i,c)::r=>match ti.flds[i]? with
  | some f=>match c.leaves with
   | some new=>if sz f.2=D new.length∧f.1+new.length≤ls.length then jlc ti sz (jcd ls f.1 new) r else B
   | none=>B
  | none=>B
def j7m (rd:H→BS) (a:Ty):I a.den→Ups→I (H×Cel)→F (I a.den×Ups)
 | xs,u,[]=>D (xs,u)
 | xs,u,(i,c)::r=>match jfp rd a c with
  | some (x,u')=>if i<xs.length then j7m rd a (xs.set i x) (u++u') r else B
  | none=>B
def lenC (rd:H→BS) (t:F Ty):Leaf→F Leaf
 | .nil=>if jbd t then D (.d (.int .i64) (0:Å)) else B
 | .ol k=>match rd k with
  | .live (.lst _ _ xs _)=>if jbd t then D (.d (.int .i64) (xs.length:Å)) else B
  | .live (.row _ _ n _)=>if jbd t then D (.d (.int .i64) (n:Å)) else B
  | _=>B
 | .d (.list _) xs=>if jbd t then D (.d (.int .i64) ((Ä xs:H):Å)) else B
 | .d .str s=>if t=D .str then D (.d (.int .i64) ((ByteArray.size s:H):Å)) else B
 | .tl k j=>match rd k with
  | .live (.lst _ _ xs _)=>if jbd t then D (.d (.int .i64) ((xs.length-j:H):Å)) else B
  | _=>B
 | .hd k i=>match rd k with
  | .live (.lst _ _ _ _)=>if jbd t then D (.d (.int .i64) (i:Å)) else B
  | _=>B
 | _=>B
def minC:I Cel→F Leaf
 | [.one (.d (.int k) x),.one (.d (.int k') y)]=>if k=k' then D (.d (.int k) (if (show Å from y)<x then y else x:Å)) else B
 | _=>B
def maxC:I Cel→F Leaf
 | [.one (.d (.int k) x),.one (.d (.int k') y)]=>if k=k' then D (.d (.int k) (if (show Å from y)>x then y else x:Å)) else B
 | _=>B
def j4B:BS→X
 | .free=>U
 | _=>J
def j05:Nat:=4294967296
def appS (rd:H→BS) (e:H) (a:Ty):Leaf→F (I a.den×X×Ups)
 | .ol k=>match rd k with
  | .live (.lst e' a' xs frz)=>match (TV.mk (.list a') xs).to (.list a) with
   | some xs'=>if e'=e then D (xs',frz,[(k,.gone)]) else B
   | none=>B
  | _=>B
 | .nil=>D ([],J,[])
 | _=>B
def appX (rd:H→BS) (a:Ty):Leaf→F (I a.den)
 | .ol k=>match rd k with
  | .live (.lst _ a' xs _)=>(TV.mk (.list a') xs).to (.list a)
  | _=>B
 | .d t xs=>(TV.mk t xs).to (.list a)
 | .nil=>D []
 | .tl k j=>match rd k with
  | .live (.lst _ a' xs _)=>match (TV.mk (.list a') xs).to (.list a) with
   | some xs'=>D (Ú j xs')
   | none=>B
  | _=>B
 | _=>B
def bnd (d:H):F Leaf→F Å
 | none=>D d
 | some (.d (.int _) i)=>D i
 | some _=>B
def jld (par:H→X) (rd:H→BS) (ti:TyI) (n:H) (x:Leaf) (lo hi:F Leaf):F (X×Leaf×Ups):=
 match x with
 | .d (.list a) xs=>if ti.ty=D (.list a) then match bnd 0 lo,bnd (Ä xs) hi with
  | some i,D j=>D (Y (0≤i)&&(Y (i≤j)&&Y (j≤(Ä xs:Å))),.d (.list a) (Ú (Ã i) (Ñ (Ã j) xs)),[])
  | _,_=>B
  else B
 | .ol k=>match hi with
  | none=>match rd k with
   | .live (.lst _ a xs _)=>if ti.ty=D (.list a) then match bnd 0 lo with
    | some i=>D (Y (0≤i)&&Y (i≤(xs.length:Å)),.tl k (Ã i),[])
    | none=>B
    else B
   | _=>B
  | some _=>match rd k with
   | .live (.lst e a xs f)=>if ti.ty=D (.list a) then match bnd 0 lo,bnd xs.length hi with
    | some i,D j=>if par k then
      (if lo.isNone then D (Y (0≤j)&&Y (j≤(xs.length:Å)),.hd k (Ã j),[]) else B)
     else if lo.isNone && !f then
      (if j4B (rd n) then D (Y (0≤j)&&Y (j≤(xs.length:Å)),.ol n,[(k,.gone),(n,.live (.lst e a (Ñ (Ã j) xs) J))]) else B)
     else D (Y (0≤i)&&(Y (i≤j)&&Y (j≤(xs.length:Å))),.d (.list a) (Ú (Ã i) (Ñ (Ã j) xs)),[(k,.live (.lst e a xs U))])
    | _,_=>B
    else B
   | _=>B
 | .hd k _=>match rd k with
  | .live (.lst _ a xs _)=>if ti.ty=D (.list a)∧hi.isSome=U then match bnd 0 lo,bnd 0 hi with
   | some i,D j=>D (Y (0≤i)&&(Y (i≤j)&&Y (j=(xs.length:Å))),.tl k (Ã i),[])
   | _,_=>B
   else B
  | _=>B
 | _=>B
def jle (rd:H→BS) (ti:TyI) (x:Leaf) (lo hi:F Leaf) (mx:Leaf):F Bool:=
 match x,lo,hi,mx with
 | .ol k,D (.d (.int _) i),D (.d (.int _) j),.d (.int _) m=>match rd k with
  | .live (.lst _ a xs _)=>if ti.ty=D (.list a) then D (Y ((0:Å)≤i)&&(Y ((show Å from i)≤j)&&(Y ((show Å from j)≤m)&&Y (m≤(xs.length:Å))))) else B
  | _=>B
 | _,_,_,_=>B
def appH (rd:H→BS) (el:H) (a:Ty) (s x:Leaf):F (X×Leaf×Ups):=
 match s,x with
 | .hd k i,.tl k' j=>if k=k' then match rd k with
  | .live (.lst e b xs J)=>if b=a∧e=el then D (Y (i≤j),.hd k (i+(xs.length-j)),[(k,.live (.lst e b (Ñ i xs++(Ú j xs++Ú (i+(xs.length-j)) xs)) J))]) else B
  | _=>B
  else B
 | _,_=>B
def jqR:Leaf→F (H×H)
 | .ol k=>D (k,0)
 | .tl k i=>D (k,i)
 | _=>B
def over {α:Type} (xs:I α) (i:H) (ys:I α):I α:=Ñ i xs++(Ñ (xs.length-i) ys++Ú (i+ys.length) xs)
def jrP (rd:H→BS) (t:F Ty) (x y:Leaf):F (Leaf×Ups):=
 match jqR x with
 | some (k,i)=>match rd k with
  | .live (.lst e a xs J)=>if t=D (.list a) then match appX rd a y with
   | some ys=>D (.d (.int .i64) ((min ys.length (xs.length-i):H):Å),[(k,.live (.lst e a (over xs i ys) J))])
   | none=>B
   else B
  | _=>B
 | none=>B
def jlf (rd:H→BS) (t:F Ty) (x:Leaf):F Ups:=
 match jqR x with
 | some (k,i)=>match rd k with
  | .live (.lst e a xs J)=>if t=D (.list a) then D [(k,.live (.lst e a (Ñ i xs++Ç (xs.length-i) a.dflt) J))] else B
  | _=>B
 | none=>B
inductive Act where
 | val (chk:X) (s:Slot) (ups:Ups)
 | call (f:H) (args:I Arg) (mk:Ret→F (Slot×Ups))
def Act.leaf (x:Leaf):Act:= .val U (.one (.one x)) []
def Act.cel (x:Cel):Act:= .val U (.one x) []
def jfG (x:F Leaf):F Act:=match x with
 | some c=>D (.leaf c)
 | none=>B
def oCel (x:F Cel):F Act:=match x with
 | some c=>D (.cel c)
 | none=>B
def oChk (x:F (X×Leaf)):F Act:=match x with
 | some (b,c)=>D (.val b (.one (.one c)) [])
 | none=>B
def tvs (rd:H→BS):I Leaf→F (I TV×Ups)
 | []=>D ([],[])
 | l::ls=>match tvs rd ls with
  | some (xs,u)=>match l with
   | .d t v=>D (⟨t,v⟩::xs,u)
   | .ol k=>match rd k with
    | .live (.lst e a es _)=>D (⟨.list a,es⟩::xs,(k,.live (.lst e a es U))::u)
    | _=>B
   | _=>B
  | none=>B
def jnv (rd:H→BS):I Cel→F (I Cap×Ups)
 | []=>D ([],[])
 | c::r=>match jnv rd r with
  | some (l,u)=>match c with
   | .one (.d t v)=>if t.leafy then D (.v ⟨t,v⟩::l,u) else B
   | .one (.bp k 0)=>match rd k with
    | .live (.cell ls _)=>match tvs rd ls with
     | some (xs,u')=>if (u++u').any (fun y=>y.1==k) then B else D (.p xs::l,(u++u')++[(k,.live (.cell (xs.map TV.leaf) U))])
     | none=>B
    | _=>B
   | _=>B
  | none=>B
def jjc:I Cel→F (I H)
 | []=>D []
 | .one (.bp k 0)::r=>match jjc r with
  | some ks=>D (k::ks)
  | none=>B
 | _::_=>B
inductive Bk where
 | ref (k:H)
 | rl (k e:H) (a:Ty)
 | mv (k e:H) (a:Ty)
def Bk.name:Bk→H
 | .ref k=>k
 | .rl k _ _=>k
 | .mv k _ _=>k
def Bk.isMv:Bk→X
 | .mv _ _ _=>U
 | _=>J
def jnw (rd rdf:H→BS) (t:F TyI) (mv rl:X) (c:Cel):F (Arg×Ups×F Bk):=
 match c with
 | .one (.bp k 0)=>match rd k with
  | .live (.cell ls U)=>match tvs rdf ls with
   | some (xs,u)=>D (.ip xs,u,B)
   | none=>B
  | .live (.cell ls J)=>match tvs rdf ls with
   | some (xs,u)=>D (.ref xs,u,D (.ref k))
   | none=>B
  | _=>B
 | .one (.ip ls)=>D (.ip ls,[],B)
 | .one (.clo f caps)=>D (.clo f caps,[],B)
 | .one (.ol k)=>match rl with
  | true=>cond mv (match rdf k with
   | .live (.lst e a xs J)=>D (.mv e ⟨.list a,xs⟩,[],D (.mv k e a))
   | _=>B) (match rd k with
   | .live (.lst e a xs J)=>D (.rl e ⟨.list a,xs⟩,[],D (.rl k e a))
   | _=>B)
  | false=>match rdf k with
   | .live (.lst e a xs _)=>D (.v ⟨.list a,xs⟩,[(k,.live (.lst e a xs U))],B)
   | _=>B
 | c=>match t with
  | some ti=>match ti.ty with
   | some ty=>match jfp rdf ty c with
    | some (x,u)=>D (.v ⟨ty,x⟩,u,B)
    | none=>B
   | none=>B
  | none=>B
def jce (rd rdf:H→BS) (T:H→F TyI) (mv:X):I H→I X→I Cel→F (I Arg×Ups×I Bk)
 | _,_,[]=>D ([],[],[])
 | ts,ms,c::r=>match jnw rd rdf (ts.head?.bind T) mv (ms.headD J) c with
  | some (a,u,f)=>match jce rd rdf T mv ts.tail ms.tail r with
   | some (as,us,fs)=>D (a::as,u++us,f.toList++fs)
   | none=>B
  | none=>B
def jcf:Cap→Arg
 | .v x=> .v x
 | .p ls=> .ip ls
def jvu:Bk→Out→F (H×BS)
 | .ref k,.ref ys=>D (k,.live (.cell (ys.map TV.leaf) J))
 | .rl k e a,.rl y=>match y.to (.list a) with
  | some ys=>D (k,.live (.lst e a ys J))
  | none=>B
 | _,_=>B
def j8V:I Bk→I Out→F Ups
 | [],[]=>D []
 | .mv k _ _::fs,xs=>match j8V fs xs with
  | some u=>D ((k,.gone)::u)
  | none=>B
 | f::fs,x::xs=>match jvu f x with
  | some y=>match j8V fs xs with
   | some u=>D (y::u)
   | none=>B
  | none=>B
 | _,_=>B
def jbe:I H→X
 | []=>U
 | x::xs=> !xs.contains x&&jbe xs
def bkOk (us:Ups) (fs:I Bk):Bool:=jbe (fs.map Bk.name)&&us.all fun x=> !(fs.map Bk.name).contains x.1
def soL:H→I RL→F (I Leaf×Ups)
 | _,[]=>D ([],[])
 | n,.d x::r=>match soL (n+1) r with
  | some (l,u)=>D (.d x.t x.v::l,u)
  | none=>B
 | n,.own e ⟨.list a,xs⟩::r=>match soL (n+1) r with
  | some (l,u)=>D (.ol n::l,(n,.live (.lst e a xs J))::u)
  | none=>B
 | _,.own _ _::_=>B
def jvv (n:H):RV→F (Cel×Ups)
 | .v x=>D (jbc x.t x.v,[])
 | .own e ⟨.list a,xs⟩=>D (.one (.ol n),[(n,.live (.lst e a xs J))])
 | .own _ _=>B
 | .box ls=>D (.one (.bp n 0),[(n,.live (.cell (ls.map TV.leaf) J))])
 | .hd _=>B
 | .vn x ns=>match jbc x.t x.v with
  | .st ls=>D (.st (ls.zipIdx.map fun y=>if ns.contains y.2 then .nil else y.1),[])
  | c=>D (c,[])
 | .clo f caps=>D (.one (.clo f caps),[])
 | .so ls=>match soL n ls with
  | some (l,u)=>D (.st l,u)
  | none=>B
 | .raw _ _=>B
def rvW:RV→H
 | .so ls=>ls.length
 | _=>1
def jic:H→I RV→F (I Cel×Ups)
 | _,[]=>D ([],[])
 | n,r::rs=>match jvv n r with
  | some (c,u)=>match jic (n+rvW r) rs with
   | some (cs,us)=>D (c::cs,u++us)
   | none=>B
  | none=>B
def RV.flat:RV→X
 | .v x=>x.t.flat
 | .own _ x=>match x.t with
  | .list a=>a.flat
  | _=>J
 | .box _=>J
 | .hd _=>J
 | .vn _ _=>J
 | .clo _ _=>J
 | .so _=>J
 | .raw _ _=>J
def Out.flat:Out→X
 | .ref ls=>ls.all fun x=>x.t.flat
 | .rl x=>x.t.flat
def mkHd (rd rdf:H→BS) (n:H) (us:Ups) (fs:I Bk) (m:H) (os:I Out):F (Slot×Ups):=
 match fs,os with
 | .rl k e a::_,.rl y::_=>match j8V fs os,y.to (.list a) with
  | some uo,D ys=>if j4B (rd n)&&isLive (rdf k) then D (.one (.one (.ol n)),us++uo++[(k,.gone),(n,.live (.lst e a (Ñ m ys) J))]) else B
  | _,_=>B
 | _,_=>B
def itC:Item→Cel
 | .s c=>c
 | .b _=> .one .dead
def itX:Item→BS
 | .b x=>x
 | .s _=> .gone
def rawC (ns:I H) (s:Snap):I Cel:=(s.take (s.length-ns.length)).map itC
def rawU (ns:I H) (s:Snap):Ups:=ns.zip ((s.drop (s.length-ns.length)).map itX)
def jgw:I Cel→Slot
 | [c]=> .one c
 | cs=> .tup cs
def jsU (rd:H→BS) (us:Ups) (fs:I Bk) (ns:I H) (s:Snap) (os:I Out):F (Slot×Ups):=
 match fs,os with
 | [],[]=>if jbe ns&&ns.all (fun k=>j4B (rd k)) then D (jgw (rawC ns s),us++rawU ns s) else B
 | _,_=>B
def jm1 (rd rdf:H→BS) (n:H) (us:Ups) (fs:I Bk) (r:Ret):F (Slot×Ups):=
 match r.vals with
 | [.hd m]=>mkHd rd rdf n us fs m r.outs
 | [.raw ns s]=>jsU rd us fs ns s r.outs
 | _=>match j8V fs r.outs with
 | some uo=>match jic n r.vals with
  | some (cs,un)=>
   if un.all (fun e=>j4B (rd e.1)) then
    let u:=(if r.vals.all RV.flat&&r.outs.all Out.flat then [] else us)++uo++un
    match cs with
    | [c]=>D (.one c,u)
    | cs=>D (.tup cs,u)
   else B
  | none=>B
 | none=>B
def one1 (fr:X) (e:H) (a:Ty) (n len:H):I (H×Cel)→F Act
 | [(0,c)]=>match c.leaves with
  | some ls=>if len=1∧ls.length=a.size∧a.size≤16777216∧fr=U∧isM e=J then D (.val U (.one (.one (.ol n))) [(n,.live (.row e a 1 ls))]) else B
  | none=>B
 | _=>B
def rowS (rdf:H→BS) (e:H) (a:Ty):Leaf→F (H×I Leaf×Ups)
 | .nil=>D (0,[],[])
 | .ol k=>match rdf k with
  | .live (.row e' a' m ls)=>if e'=e∧a'=a then D (m,ls,[(k,.gone)]) else B
  | _=>B
 | _=>B
def appN (rd rdf:H→BS) (e:H) (a:Ty) (n:H) (s x:Leaf):F (Leaf×Ups):=
 match x with
 | .ol k=>match rdf k with
  | .live (.row e' a' m ls)=>match rowS rdf e a s with
   | some (m0,ls0,u)=>if (e'=e∧a'=a)∧u.any (fun y=>y.1==k)=J∧m0+m≤1000∧j4B (rd n)=U then D (.ol n,u++[(k,.gone),(n,.live (.row e a (m0+m) (ls0++ls)))]) else B
   | none=>B
  | _=>B
 | _=>B
def lf (c:Cel):Leaf:=match c with | .one y=>y | _=> .dead
def jvw (x:Í) (b:X) (act:I (H×X)):I (H×X):=match x with
 | .tmp s=>(s,b)::act
 | _=>act
def jjd (T:H→F TyI) (t:H):F (Ty×Ty):=match T t with
 | some ti=>match ti.mp with
  | some (k,v)=>match T k,T v with
   | some tk,D tv=>match tk.ty,tv.ty with
    | some k,D v=>if k.isKey then D (k,v) else B
    | _,_=>B
   | _,_=>B
  | none=>B
 | none=>B
def mapC (rw:H→BS) (t:H) (k v:Ty) (x y:Leaf):F (H×I (k.den×v.den)×k.den):=match x,y with
 | .ol b,.d tk key=>match rw b with
  | .live (.lst e a xs J)=>if e=4294967296+t then match (TV.mk (.list a) xs).to (.list (.pair k v)),(TV.mk tk key).to k with
    | some ys,D q=>D (b,ys,q)
    | _,_=>B
   else B
  | _=>B
 | _,_=>B
def Env.ta (E:Env) (g:H):H→F TyI:=match E.pa g with
 | none=>E.T
 | some (t,ty)=>fun n=>if n=t then (match E.T n with
  | some ti=>D { ti with ty:=D ty }
  | none=>B) else E.T n
def j42 (E:Env) (ev:Í→Slot) (rw:H→BS) (act:I (H×X)) (o:Æ):F Act:=
 let rd:=mskM rw
 let c (x:Í):Cel:=(ev x).cel act
 let l (x:Í):Leaf:=lf (c x)
 let n:=(o.dst.getD 0)*64
 let rdf (k:H):BS:=if parK E.np k then .gone else rd k
 match o.op with
 | .move x | .assign x=>match ev x with
  | .tup l=>D (.val U (.tup l) [])
  | s=>D (.cel (s.cel act))
 | .pick x a b=>match l x with
  | .d .bool v=>
   match (ev a).cel (jvw x U act),(ev b).cel (jvw x J act) with
   | .one (.d t p),.one (.d t' q)=>match (TV.mk t' q).to t with
    | some q'=>D (.leaf (.d t (cond v p q')))
    | none=>B
   | .one (.d t p),.one .dead=>D (.val v (.one (.one (.d t p))) [])
   | .one .dead,.one (.d t q)=>D (.val (!(show X from v)) (.one (.one (.d t q))) [])
   | _,_=>B
  | _=>B
 | .alloc t=>match E.T t with
  | some ti=>if j4B (rd n) then match ti.ty with
    | some (.arr k a)=>if jbd (D a) then D (.val U (.one (.one (.bp n 0))) [(n,.live (.cell (jgt (.arr k a)) J))]) else D (.val U (.one (.one (.bp n 0))) [(n,.live (.arr k a (Ç k a.dflt)))])
    | some ty=>D (.val U (.one (.one (.bp n 0))) [(n,.live (.cell (jgt ty) J))])
    | none=>B
   else B
  | none=>B
 | .box _ x=>if j4B (rd n) then match c x with
   | .av k a xs=>D (.val U (.one (.one (.bp n 0))) [(n,.live (.arr k a xs))])
   | v=>match v.leaves with
    | some ls=>D (.val U (.one (.one (.bp n 0))) [(n,.live (.cell ls J))])
    | none=>B
  else B
 | .build t ps=>match E.T t with
  | some ti=>match ti.ty with
   | some (.arr k a)=>if jbd (D a)&&ps.toList.isEmpty then D (.cel (.st (jgt (.arr k a)))) else match j7m rdf a (Ç k a.dflt) [] (ps.toList.map fun p=>(p.1,c p.2)) with
    | some (xs,u)=>D (.val U (.one (.av k a xs)) u)
    | none=>B
   | some ty=>if ty.agg then match jlc ti (fun t=>(E.T t).map (·.size)) (jgt ty) (ps.toList.map fun p=>(p.1,c p.2)) with
    | some ls=>D (.cel (.st ls))
    | none=>B
    else B
   | none=>B
  | none=>B
 | .buildSlice t len ps=>match E.T t with
  | some ti=>match ti.ty with
   | some (.list a)=>if E.b1.contains (o.dst.getD 0) then one1 (j4B (rd n)) ti.elem a n len (ps.toList.map fun p=>(p.1,c p.2)) else if 16777216<len*a.size then B else match j7m rdf a (Ç len a.dflt) [] (ps.toList.map fun p=>(p.1,c p.2)) with
    | some (xs,u)=>if j4B (rd n) then D (.val U (.one (.one (.ol n))) (u++[(n,.live (.lst ti.elem a xs J))])) else B
    | none=>B
   | _=>B
  | none=>B
 | .load t x=>match E.T t with
  | some ti=>match jgu rd ti.ty (l x) with
   | some (m,a,ls)=>match jm0 rdf a ls with
    | some (xs,u)=>if xs.length=m then D (.val U (.one (.av m a xs)) u) else B
    | none=>B
   | none=>oCel (jhw rd ti (l x))
  | none=>B
 | .store t x y=>match E.T t with
  | some ti=>match jib rd rdf ti.size (c y) (l x) with
   | some u=>D (.val U (.one (.one .dead)) u)
   | none=>B
  | none=>B
 | .nilCheck x=>match l x with
  | .bp k p=>if isLive (rd k) then D (.leaf (.bp k p)) else B
  | .ep k i p=>if isLive (rd k) then D (.leaf (.ep k i p)) else B
  | .ip ls=>D (.leaf (.ip ls))
  | _=>B
 | .binOp op t x y _=>oChk (binC (E.T t) op (c x) (c y))
 | .unOp op _ x=>jfG (unC op (c x))
 | .convert src dst x=>match E.T src,E.T dst with
  | some ts,D ti=>match l x,ts.ty,ti.ty with
   | .d (.int _) v,D (.int _),D (.int k)=>D (.leaf (.d (.int k) (k.wrap v)))
   | _,_,_=>B
  | _,_=>B
 | .makeFunc (.func f) first caps=>if first.isEmpty then (if E.cr.contains f then match jjc (caps.toList.map c) with
   | some ks=>D (.val U (.one (.one (.clr f ks))) [])
   | none=>B
  else match jnv rdf (caps.toList.map c) with
   | some (l,u)=>D (.val U (.one (.one (.clo f l))) u)
   | none=>B)
  else B
 | .fieldAddr t x i=>match E.T t with
  | some ti=>jfG (jdS rd ti i (l x))
  | none=>B
 | .field t x i=>match E.T t with
  | some ti=>match c x,ti.flds[i]? with
   | .st ls,D f=>match E.T f.2 with
    | some tf=>oCel (jkK tf ((ls.drop f.1).take tf.size))
    | none=>B
   | _,_=>B
  | none=>B
 | .indexAddr t x i=>match E.T t with
  | some ti=>oChk (jgv rd ti (l x) (l i))
  | none=>B
 | .index t x i=>match E.T t with
  | some ti=>match idxV ti (c x) (l i) with
   | some (b,v)=>D (.val b (.one v) [])
   | none=>B
  | none=>B
 | .makeMap t B=>match jjd E.T t with
  | some (k,v)=>if j4B (rd n) then D (.val U (.one (.one (.ol n))) [(n,.live (.lst (4294967296+t) (.pair k v) [] J))]) else B
  | none=>B
 | .lookup t x i ok=>match jjd E.T t with
  | some (k,v)=>match mapC rw t k v (l x) (l i) with
   | some (_,ys,q)=>match ok with
    | true=>D (.val U (.tup [jbc v (@jam _ _ k.keq v.dflt ys q),.one (.d .bool (@jfo _ _ k.keq ys q))]) [])
    | false=>D (.cel (jbc v (@jam _ _ k.keq v.dflt ys q)))
   | none=>B
  | none=>B
 | .mapUpdate t x i y=>match jjd E.T t with
  | some (k,v)=>match mapC rw t k v (l x) (l i),jfp rdf v (c y) with
   | some (b,ys,q),D (z,u)=>D (.val U (.one (.one .dead)) (u++[(b,.live (.lst (4294967296+t) (.pair k v) (@j6J _ _ k.keq ys q z) J))]))
   | _,_=>B
  | none=>B
 | .extract x i=>match ev x with
  | .tup l=>match l[i]? with
   | some c=>D (.cel c)
   | none=>B
  | _=>B
 | .call cl=>match cl.callee with
  | .builtin .len=>match cl.args.toList,cl.argTypes.toList with
   | [x],[t]=>match E.T t with
    | some ti=>jfG (lenC rd ti.ty (l x))
    | none=>B
   | _,_=>B
  | .builtin .min=>jfG (minC (cl.args.toList.map c))
  | .builtin .max=>jfG (maxC (cl.args.toList.map c))
  | .builtin .append=>match cl.argTypes.toList,cl.args.toList with
   | [t,t'],[s,x]=>if t=t' then match E.T t with
     | some ti=>match ti.ty with
      | some (.list a)=>match appH rd ti.elem a (l s) (l x) with
       | some (b,v,u)=>D (.val b (.one (.one v)) u)
       | none=>match appN rd rdf ti.elem a n (l s) (l x) with
       | some (v,u)=>D (.val U (.one (.one v)) u)
       | none=>match appS rdf ti.elem a (l s),appX rd a (l x) with
        | some (xs,frz,u),D ys=>
         if j4B (rd n) then D (.val (Y (xs.length+ys.length≤j05)) (.one (.one (.ol n))) (u++[(n,.live (.lst ti.elem a (xs++ys) frz))])) else B
        | _,_=>B
      | _=>B
     | none=>B
    else B
   | _,_=>B
  | .value f=>match l f with
   | .clo g caps=>match jce rw rdf (E.ta g) (E.mvf g) cl.argTypes.toList (E.modes g) (cl.args.toList.map c) with
    | some (as,us,fs)=>if bkOk us fs then D (.call g (as++caps.map jcf) (jm1 rd rdf n us fs)) else B
    | none=>B
   | .clr g ks=>match jce rw rdf (E.ta g) (E.mvf g) cl.argTypes.toList (E.modes g) (cl.args.toList.map c++ks.map fun k=> .one (.bp k 0)) with
    | some (as,us,fs)=>if bkOk us fs then D (.call g as (jm1 rd rdf n us fs)) else B
    | none=>B
   | _=>B
  | .builtin .copy=>match cl.argTypes.toList,cl.args.toList with
   | [t,t'],[x,y]=>if t=t' then match E.T t with
     | some ti=>match jrP rd ti.ty (l x) (l y) with
      | some (v,u)=>D (.val U (.one (.one v)) u)
      | none=>B
     | none=>B
    else B
   | _,_=>B
  | .builtin .clear=>match cl.argTypes.toList,cl.args.toList with
   | [t],[x]=>match E.T t with
    | some ti=>match jlf rd ti.ty (l x) with
     | some u=>D (.val U (.one (.one .dead)) u)
     | none=>B
    | none=>B
   | _,_=>B
  | _=>B
 | .slice t x lo hi B=>match E.T t with
  | some ti=>match jld (parK E.np) rd ti n (l x) (lo.map l) (hi.map l) with
   | some (b,v,u)=>D (.val b (.one (.one v)) u)
   | none=>B
  | none=>B
 | .slice t x lo hi (D mx)=>match E.T t with
  | some ti=>match jle rd ti (l x) (lo.map l) (hi.map l) (l mx) with
   | some b=>D (.val b (.one (.one .dead)) [])
   | none=>B
  | none=>B
 | _=>B
def St.upd (σ:St):Ups→St
 | []=>σ
 | e::u=>(σ.setB e.1 e.2).upd u
def kill (d:H):Slot→Slot
 | .cnd s w c=>if s=d then .one (.one .dead) else .cnd s w c
 | x=>x
def St.put (σ:St) (d:F H) (s:Slot):St:=
 match d with
 | none=>σ
 | some d=>{ σ with sl:=fun j=>kill d (if j=d then s else σ.sl j) }
def St.setD (σ:St) (d:F H) (s:Slot):St:=
 match d with
 | none=>σ
 | some d=>σ.setS d s
def jA6:Slot→Slot
 | .cnd _ _ _=> .one (.one .dead)
 | x=>x
def St.clear (σ:St):St:={ σ with sl:=fun j=>jA6 (σ.sl j) }
def jed (N:NT) (o:Æ):Bool:=
 match o.dst with
 | none=>U
 | some d=>Y (d<N.n) && !N.pin d
noncomputable def jje {R:Type} (e:X) (t f:F R):F R:=open Classical in cond e (if t=f then f else B) f
theorem jpp {R:Type} (e:X) (t:F R):jje e t t=t:=by cases e<;>simp [jje]
theorem jpq {R:Type} {e:X} {t f:F R} {r:R} (h:jje e t f=D r):f=D r∧(e=U→t=D r):=by
 cases e with
 | false=>exact ⟨h,fun h'=>by simp at h'⟩
 | true=>
  simp only [jje,jc] at h
  split at h
  ·rename_i he
   exact ⟨h,fun _=>he.trans h⟩
  ·simp at h
def nilT (E:Env) (σ:St) (o:Æ):F Bool:=
 match o.op with
 | .binOp .eql t x y _=>match σ.ev x,σ.ev y,E.T t with
  | .one (.one (.d (.list _) xs)),.one (.one .nil),D ti=>if jbd ti.ty then D (List.isEmpty xs) else B
  | _,_,_=>B
 | _=>B
noncomputable section
variable (E:Env) {R:Type}
def run1 (p:X) (σ:St) (act:I (H×X)) (o:Æ) (k:St→F R):F R:=
 match cond E.nz (nilT E σ o) B with
 | some e=>jje e (k (cond p (σ.put o.dst (.one (.one (.d .bool U)))) (σ.setD o.dst (.one (.one (.d .bool U)))))) (k (cond p (σ.put o.dst (.one (.one (.d .bool J)))) (σ.setD o.dst (.one (.one (.d .bool J))))))
 | none=>
 match j42 E σ.ev σ.bx act o with
 | none=>B
 | some (.val chk s u)=>cond chk (k (cond p ((σ.upd u).put o.dst s) ((σ.upd u).setD o.dst s))) B
 | some (.call f args mk)=>E.C f args R fun ret=>match mk ret with
  | some (s,u)=>k (cond p ((σ.upd u).put o.dst s) ((σ.upd u).setD o.dst s))
  | none=>B
def gval (σ:St) (s:H):F Bool:=
 match σ.sl s with
 | .one (.one (.d .bool v))=>D v
 | .cnd _ _ (.one (.d .bool v))=>D v
 | _=>B
def jsV (r:I (H×X)) (σ:St) (s:H):F Bool:=
 match σ.sl s with
 | .one (.one (.d .bool v))=>D v
 | .cnd s' w' (.one (.d .bool v))=>if r.contains (s',w') then D v else B
 | _=>B
def actB (σ:St):I (H×X)→F X
 | []=>D U
 | (s,w)::r=>match gval σ s with
  | some v=>match r with
   | []=>D (cond w v (!v))
   | r=>match actB σ r with
    | some b=>D (b&&cond w v (!v))
    | none=>B
  | none=>B
def jid:I (H×X)→St→(St→X→F R)→F R
 | [],σ,k=>k σ U
 | (s,w)::r,σ,k=>jid r σ fun σ1 a=>match a with
  | true=>match jsV r σ1 s with
   | some v=>cond v (k (σ1.setS s (.one (.one (.d .bool U)))) w) (k (σ1.setS s (.one (.one (.d .bool J)))) (!w))
   | none=>B
  | false=>k σ1 J
def jsW (ops:É Æ) (σ:St) (o:Æ) (k:St→F R):F R:=
 match j8j ops o with
 | none=>match o.guard with
  | none=>run1 E U σ [] o k
  | some _=>B
 | some g=>
  let ch:=σ.chain 40 g
  let slow:=jid ch σ fun σ' a=>match a with
   | true=>run1 E U σ' ch o k
   | false=>k (σ'.put o.dst (.one (.one .dead)))
  match j42 E σ.ev σ.bx ch o with
  | some (.val chk (.one c) [])=>match actB σ ch with
   | some ab=>cond (chk || !ab) (k (σ.put o.dst (.cnd g.1 g.2 c))) B
   | none=>slow
  | _=>slow
def jbR:I Æ→St→(St→F R)→F R
 | [],σ,k=>k σ
 | o::os,σ,k=>if jed E.N o then run1 E J σ [] o fun σ'=>jbR os σ' k else B
def jlg (ops:É Æ):I Æ→St→(St→F R)→F R
 | [],σ,k=>k σ.clear
 | o::os,σ,k=>if jed E.N o then jsW E ops σ o fun σ'=>jlg ops os σ' k else B
def bare (ops:É Æ):Bool:=ops.toList.all fun o=>o.guard.isNone
def jjf (ops:É Æ) (σ:St) (k:St→F R):F R:=
 if bare ops then jbR E ops.toList σ k else jlg E ops ops.toList σ k
end
noncomputable section
variable (E:Env) {R:Type}
def jm2 (σ:St) (o o2:Æ):F (X×St):=
 match o.op,o2.op with
 | .call c1,.call c2=>match c1.callee,c1.args.toList,c2.callee,c2.args.toList with
  | .value f1,[x],.value f2,[.tmp d]=>match σ.ev f1,σ.ev x,(σ.setD o.dst (.one (.one .dead))).ev f2 with
   | .one (.one (.clo fK [])),.one (.one (.ol b)),.one (.one (.clo fS []))=>match E.bw fS,σ.bx b with
    | some (U,.arr fK' (.arr e .bool)),.live (.lst em a xs _)=>match jyT a xs with
     | some (c,ys)=>if fK'=fK∧o.dst=D d∧isM em=U∧isM e=J∧j4B (σ.bx ((o2.dst.getD 0)*64))=U then
      D (c,((σ.setD o.dst (.one (.one .dead))).setB ((o2.dst.getD 0)*64) (.live (.lst e (.int .i64) ys J))).setD o2.dst (.one (.one (.ol ((o2.dst.getD 0)*64))))) else B
     | none=>B
    | _,_=>B
   | _,_,_=>B
  | _,_,_,_=>B
 | _,_=>B
def jm3 (σ:St) (o:Æ):F (X×St):=
 match o.op with
 | .call c1=>match c1.callee,c1.args.toList with
  | .value f1,[x,y]=>match σ.ev f1,σ.ev x,σ.ev y with
   | .one (.one (.clo fG [])),.one (.one .nil),.one (.one (.d (.int .i64) n))=>match E.bw fG,E.T o.type with
    | some (U,.arr e (.arr sz .unit)),D ti=>match ti.ty with
     | some (.list a)=>if a.size=sz∧isM e=J∧j4B (σ.bx ((o.dst.getD 0)*64))=U then
      D (Y (0≤n)&&Y (n≤1000000),(σ.setB ((o.dst.getD 0)*64) (.live (.lst e a [] J))).setD o.dst (.one (.one (.ol ((o.dst.getD 0)*64))))) else B
     | _=>B
    | _,_=>B
   | _,_,_=>B
  | _,_=>B
 | _=>B
def runK (σ:St) (o:Æ) (k:St→F R):F R:=
 match jm3 E σ o with
 | some (c,σ')=>cond c (k σ') B
 | none=>run1 E J σ [] o k
def j9M:I Æ→St→(St→F R)→F R
 | [],σ,k=>k σ
 | [o],σ,k=>if jed E.N o then runK E σ o k else B
 | o::o2::os,σ,k=>if jed E.N o then match jm2 E σ o o2 with
   | some (c,σ')=>if jed E.N o2 then cond c (j9M os σ' k) B else B
   | none=>runK E σ o fun σ'=>j9M (o2::os) σ' k
  else B
def jsX (ops:É Æ) (σ:St) (k:St→F R):F R:=if bare ops then j9M E ops.toList σ k else B
end
def jcg (o:Æ):I Nat:=o.after.toList.filterMap fun e=>if Region.binds .any e then D e.on else B
def jee (o:Æ):Bool:=match o.op with
 | .nilCheck _ | .fieldAddr _ _ _ | .indexAddr _ _ _=>U
 | _=>J
def jcW (o:Æ):Bool:=match o.op with
 | .store _ _ _=>U
 | _=>J
def jyU (cls:I H) (o:Æ):Nat:=(jcg o).foldl (fun m j=>m|||(2^j|||cls.getD j 0)) 0
def jsY:I Æ→I H→I H
 | [],cls=>cls
 | o::os,cls=>jsY os (cls++[jyU cls o])
def jnx (cl:I H) (i j:H):Bool:=i==j||(cl.getD i 0).testBit j||(cl.getD j 0).testBit i
def jA7 (a b:I H):Bool:=a.all fun k=> !b.contains k
def jqS (ops:É Æ) (cl:I H) (A:I (I H)) (i:H) (oi:Æ) (j:H) (oj:Æ):Bool:=
 (match oj.dst with
 | some t=>i==j||(oi.dst != D t&&(!(oi.looksAt ops).contains t||jnx cl i j))
 | none=>U)&&(A.isEmpty||jnx cl i j||jA7 (A.getD i []) (A.getD j []))
def jwJ (ops:É Æ) (cl:I H) (A:I (I H)):Bool:=
 ops.toList.zipIdx.all fun x=>(jcg x.1).all (fun j=>Y (j<x.2))&&(A.isEmpty || !jee x.1||(A.getD x.2 []).isEmpty)&&ops.toList.zipIdx.all fun y=>jqS ops cl A x.2 x.1 y.2 y.1
def jm4 (ops:É Æ) (cl:I H) (A:I (I H)) (i:H) (oi:Æ):I Nat:=
 if A.isEmpty then [] else ops.toList.zipIdx.flatMap fun x=>if jnx cl i x.2||(jee oi&&jcW x.1) then [] else A.getD x.2 []
def jb4 (M:I H) (rd:H→BS) (k:H):BS:=if M.contains k then .gone else rd k
noncomputable section
variable (E:Env) {R:Type}
def runD (M Ai:I H) (σ:St) (o:Æ) (k:St→F R):F R:=
 match j42 E σ.ev (jb4 M σ.bx) [] o with
 | none=>B
 | some (.val chk s u)=>if u.all (fun e=>Ai.contains e.1) then cond chk (k ((σ.upd u).setD o.dst s)) B else B
 | some (.call f args mk)=>E.C f args R fun ret=>match mk ret with
  | some (s,u)=>if u.all (fun e=>Ai.contains e.1) then k ((σ.upd u).setD o.dst s) else B
  | none=>B
def jxA (σ:St) (o:Æ) (k:St→F R):F R:=k (σ.setD o.dst .und)
def jny (ops:É Æ) (M Ai:I H) (σ:St) (o:Æ) (k:St→F R):F R:=
 match o.guard with
 | none=>runD E M Ai σ o k
 | some _=>match j8j ops o with
  | some (s,wn)=>match σ.sl s with
   | .one (.one (.d .bool v))=>
    cond v (cond wn (runD E M Ai (σ.setS s (.one (.one (.d .bool U)))) o k) (jxA (σ.setS s (.one (.one (.d .bool U)))) o k))
     (cond wn (jxA (σ.setS s (.one (.one (.d .bool J)))) o k) (runD E M Ai (σ.setS s (.one (.one (.d .bool J)))) o k))
   | .und=>jxA σ o k
   | _=>B
  | none=>B
def jrQ (ops:É Æ) (cl:I H) (A:I (I H)):I Æ→H→St→(St→F R)→F R
 | [],_,σ,k=>k σ
 | o::os,i,σ,k=>if jed E.N o then jny E ops (jm4 ops cl A i o) (A.getD i []) σ o fun σ'=>jrQ ops cl A os (i+1) σ' k else B
def jgx (ops:É Æ) (A:I (I H)) (σ:St) (k:St→F R):F R:=
 if jwJ ops (jsY ops.toList []) A then jrQ E ops (jsY ops.toList []) A ops.toList 0 σ k else B
end
def j5O (σ:St):Loc→Leaf
 | .slot i=>match σ.sl i with
  | .one (.one x)=>x
  | _=> .dead
 | .cell k c=>match σ.bx k with
  | .live (.cell ls J)=>ls.getD c .dead
  | _=> .dead
def jnz (K:Keep) (l:Loc):F Nat:=(K.lists.find? fun x=>x.locs.contains l).map (·.name)
def jhx (K:Keep) (loc:F Loc):Leaf→Leaf
 | .dead=> .dead
 | .nil=>match loc.bind (jnz K) with
  | some n=> .ol n
  | none=> .nil
 | .d t v=> .d t v
 | .ol k=>if K.boxes.contains k then .ol k else match loc.bind (jnz K) with
  | some n=> .ol n
  | none=> .dead
 | .bp k c=>if K.boxes.contains k then .bp k c else .dead
 | .ep _ _ _=> .dead
 | .tl k i=>if K.boxes.contains k then .tl k i else .dead
 | .hd k i=>if K.boxes.contains k then .hd k i else .dead
 | .ip ls=> .ip ls
 | .clo f caps=> .clo f caps
 | .clr f ks=>if ks.all (fun k=>K.boxes.contains k) then .clr f ks else .dead
def jvx (K:Keep) (i:H):Slot→Cel
 | .one (.one x)=> .one (jhx K (D (.slot i)) x)
 | .one (.st ls)=> .st (ls.map (jhx K B))
 | .one (.av n a xs)=> .av n a xs
 | _=> .one .dead
def jnB (K:Keep) (k:H):BS→BS
 | .live (.cell ls frz)=> .live (.cell (ls.zipIdx.map fun x=>jhx K (if frz then B else D (.cell k x.2)) x.1) frz)
 | .live (.arr n a xs)=> .live (.arr n a xs)
 | .live (.lst e a xs frz)=> .live (.lst e a xs frz)
 | _=> .gone
def jlh (σ:St) (e:H) (a:Ty) (l:Loc):F (F H×I a.den×X):=
 match j5O σ l with
 | .nil=>if isM e then B else D (B,[],J)
 | .ol k=>match σ.bx k with
  | .live (.lst e' a' xs frz)=>match (TV.mk (.list a') xs).to (.list a) with
   | some xs'=>if e'=e then D (D k,xs',frz) else B
   | none=>B
  | _=>B
 | _=>B
def jfH (σ:St) (e:H) (a:Ty):I Loc→F (F H×I a.den×X)
 | []=>B
 | [l]=>jlh σ e a l
 | l::ls=>match jlh σ e a l,jfH σ e a ls with
  | some (k,xs,f),D (k',_,_)=>if k=k' then D (k,xs,f) else B
  | _,_=>B
def jch (np:H) (σ:St) (bs:I H):I jhv→F (I Item×I H)
 | []=>D ([],[])
 | x::r=>match jfH σ x.e x.a x.locs,jch np σ bs r with
  | some (k,xs,f),D (is,ks)=>match k with
   | none=>D (.b (.live (.lst x.e x.a xs x.frz))::is,ks)
   | some k=>if ks.contains k||bs.contains k||parK np k then B else D (.b (.live (.lst x.e x.a xs f))::is,k::ks)
  | _,_=>B
def jef (np:H):I jhv→St→F St
 | [],σ=>D σ
 | x::r,σ=>if x.frz then match x.locs with
   | l::_=>match j5O σ l with
    | .ol k=>match σ.bx k with
     | .live (.lst e a xs _)=>if parK np k||isM e then B else jef np r (σ.setB k (.live (.lst e a xs U)))
     | _=>B
    | _=>jef np r σ
   | []=>jef np r σ
  else jef np r σ
def Keep.ok (np:H) (K:Keep):Bool:=jbe (K.lists.map (·.name))&&K.lists.all fun x=> !K.boxes.contains x.name && !parK np x.name
def jfI (σ:St) (l:Loc) (x:Leaf):St:=
 match l with
 | .slot i=>match σ.sl i with
  | .one (.one _)=>σ.setS i (.one (.one x))
  | _=>σ
 | .cell k c=>match σ.bx k with
  | .live (.cell ls J)=>σ.setB k (.live (.cell (ls.set c x) J))
  | _=>σ
def jeU (np:H):I (Loc×Ty)→St→F St
 | [],σ=>D σ
 | (l,t)::r,σ=>match jbQ (fun k=>if parK np k then .gone else mskM σ.bx k) t (j5O σ l) with
  | some (v,u)=>jeU np r (jfI (σ.upd u) l (.d t v))
  | none=>B
def jpr (np:H) (K:Keep) (σ:St):F Snap:=
 match jch np σ K.boxes K.lists with
 | some (is,_)=>if K.ok np then D ((K.slots.map fun i=> .s (jvx K i (σ.sl i)))++((K.boxes.map fun k=> .b (jnB K k (σ.bx k)))++is)) else B
 | none=>B
def j5P (np:H) (K:Keep) (σ:St):F Snap:=
 match jeU np K.datas σ with
 | some σ1=>match jef np K.lists σ1 with
  | some σ2=>jpr np K σ2
  | none=>B
 | none=>B
def jps:F Item→Slot
 | some (.s c)=> .one c
 | _=> .one (.one .dead)
def jnC:F Item→BS
 | some (.b b)=>b
 | _=> .gone
def j0J (np:H) (K:Keep) (s:Snap):St where
 sl:=fun i=>match K.slots.idxOf? i with
  | some j=>jps s[j]?
  | none=> .one (.one .dead)
 bx:=fun n=>match K.boxes.idxOf? n with
  | some j=>jnC s[K.slots.length+j]?
  | none=>match (K.lists.map (·.name)).idxOf? n with
   | some j=>jnC s[K.slots.length+K.boxes.length+j]?
   | none=>if parK np n then .gone else .free
def rowL (a:Ty) (m:H) (xs:I a.den):I Leaf:=(Ò m).flatMap fun i=>(scat a (Ê xs i a.dflt)).map TV.leaf
def jrR (rd:H→BS) (a:Ty):H→I Leaf→F (I a.den×Ups)
 | 0,[]=>D ([],[])
 | 0,_::_=>B
 | n+1,ls=>match gath rd a ls with
  | some (x,r,u)=>match jrR rd a n r with
   | some (xs,v)=>D (x::xs,u++v)
   | none=>B
  | none=>B
def jrS (np:H) (σ:St):Gh→F (X×St)
 | .ex k c n m=>match σ.bx k with
  | .live (.cell ls J)=>match ls.getD c .dead with
   | .ol b=>match σ.bx b with
    | .live (.lst e a xs J)=>if isM e||parK np b||b==n||b==k || !j4B (σ.bx n) then B else
     D (Ì xs.length m,(((σ.setB b .gone).setB n (.live (.row e a m (rowL a m xs)))).setB k (.live (.cell (ls.set c (.ol n)) J))))
    | _=>B
   | _=>B
  | _=>B
 | .rl k=>match σ.bx k with
  | .live (.row e a n ls)=>match jrR (fun j=>if parK np j then .gone else mskM σ.bx j) a n ls with
   | some (xs,u)=>if u.any (fun y=>y.1==k) then B else D (U,σ.upd (u++[(k,.live (.lst e a xs J))]))
   | none=>B
  | _=>D (U,σ)
 | .se k=>match σ.bx k with
  | .live (.cell ls J)=>if parK np k then B else match tvs (fun j=>if parK np j then .gone else mskM σ.bx j) ls with
   | some (xs,u)=>if u.any (fun y=>y.1==k) then B else D (U,σ.upd (u++[(k,.live (.cell (xs.map TV.leaf) U))]))
   | none=>B
  | _=>B
 | .da l=>match jeU np l σ with
  | some σ'=>D (U,σ')
  | none=>B
def jjg {R:Type} (np:H):I Gh→St→(St→F R)→F R
 | [],σ,k=>k σ
 | g::gs,σ,k=>match jrS np σ g with
  | some (b,σ')=>cond b (jjg np gs σ' k) B
  | none=>B
def jie {R:Type} (f:St→(Ex→St→F R)→F R):H→St→(Ex→St→F R)→F R
 | 0,_,_=>B
 | n+1,σ,k=>f σ fun e σ'=>match e with
  | .normal=>jie f n σ' k
  | e=>k e σ'
def St.know (f:X) (σ:St) (c:Í) (v:X):St:=match f,c with
 | true,.tmp s=>σ.setS s (.one (.one (.d .bool v)))
 | _,_=>σ
theorem jsZ {f:X} {σ:St} {c:Í} {v:X} (h:σ.ev c = .one (.one (.d .bool v))):σ.know f c v=σ:=by
 unfold St.know
 split
 ·rename_i s
  have h:σ.sl s = .one (.one (.d .bool v)):=h
  have e:(fun j=>if j=s then Slot.one (.one (.d .bool v)) else σ.sl j)=σ.sl:=by
   funext j
   by_cases hj:j=s
   ·subst hj;rw [if_pos rfl,h]
   ·rw [if_neg hj]
  show { σ with sl:=_ }=σ
  rw [e]
 ·rfl
def jwK (o:Æ):Bool:=
 match o.op with
 | .defer _=>J
 | _=>U
def j1m:Õ→X
 | .skip=>U
 | .region _ ops _=>ops.toList.all jwK
 | .seq x y=>j1m x&&j1m y
 | .cond _ x y=>j1m x&&j1m y
 | .block _ c=>j1m c
 | .scope c=>j1m c
 | .label _=>U
 | .exit _=>U
 | .ret=>U
 | _=>J
def jif:Õ→I H
 | .region _ ops _=>ops.toList.filterMap (·.dst)
 | .seq x y=>jif x++jif y
 | .cond _ x y=>jif x++jif y
 | .block _ c=>jif c
 | .scope c=>jif c
 | _=>[]
def jrT (ps:É H) (x y:Õ) (i:H):Bool:= !(ps.toList.contains i) && !((jif x++jif y).contains i)
def pinK (ps:É H) (x y:Õ) (K:Keep):Bool:=K.slots.all (jrT ps x y)
def Env.rnd (E:Env) (ps:É H) (x y:Õ):Env:={ E with N:=⟨E.N.n,jrT ps x y⟩ }
def isRf:Õ→X
 | .rangeFunc .. => U
 | _=>J
def jm5 (kd:X) (n:H):Int:=cond kd 1 (ä n)
def jxB (kd:X) (n:H) (c:Å):Bool:=cond kd (Y (ä n≤c)) (Y (c≤0))
def itOk (kd:X) (n:H) (c:Å):Bool:=cond kd (Y (1≤c)) (Y (c≤ä n))
def jqT (kd:X) (c:Å):Int:=cond kd (c+1) (c-1)
def chgV:(t:Ty)→I t.den→Å→I TV
 | .pair (.int .i64) (.pair (.int .i64) (.int .i64)),xs,c=>[⟨.pair (.int .i64) (.pair (.int .i64) (.int .i64)),
  ((Ê xs c.toNat ((0:Å),((0:Å),(0:Å)))).1,((Ê xs (c-1).toNat ((0:Å),((0:Å),(0:Å)))).2.2,(Ê xs c.toNat ((0:Å),((0:Å),(0:Å)))).2.2))⟩]
 | _,_,_=>[]
def jqU (kd:X) (t:Ty) (xs:I t.den) (c:Å):I TV:=cond kd (chgV t xs c) [⟨.int .i64,c-1⟩,⟨t,Ê xs (c-1).toNat t.dflt⟩]
def setL (l:I (H×TV)) (σ:St):St:=l.foldl (fun σ q=>σ.setS q.1 (.one (jbc q.2.t q.2.v))) σ
def jdT:I H→X
 | []=>U
 | x::r=> !(r.contains x)&&jdT r
abbrev segT:Ty:= .pair (.int .i64) (.pair (.int .i64) (.int .i64))
def rfK (E:Env) (b f:H) (t:Ty) (ps:É H) (x y:Õ):F Bool:=match E.bw f with
 | some q=>cond (Y (q.2=t)&&(cond q.1 (Y (t=segT)) U&&(Y (ps.toList.length=cond q.1 1 2)&&(jdT ps.toList&&(ps.toList.all (fun p=>Y (p<E.N.n))&&(j1m x&&(j1m y&&pinK ps x y (E.keep b)))))))) (D q.1) B
 | none=>B
def jcX {α β:Type} (G:α→β→F β):I (α×β)→F (I (α×β))
 | []=>D []
 | x::r=>(G x.1 x.2).bind fun z=>(jcX G r).bind fun r'=>D ((x.1,z)::r')
def j47 (s:Snap) (em:H) (v:Ty) (zs:I (Å×v.den)):Snap:=s.dropLast++[.b (.live (.lst em (.pair (.int .i64) v) zs J))]
def jig (em:H) (v:Ty) (s:Snap):F (I (Å×v.den)):=match s.getLast? with
 | some (.b (.live (.lst e a xs J)))=>if e=em then (TV.mk (.list a) xs).to (.list (.pair (.int .i64) v)) else B
 | _=>B
structure MrP where
 it:H
 d1:H
 c2:H
 d3:H
 b6:H
 ops:É Æ
 rest:Õ
def jyV (o:Æ):F (H×H):=match o.op,o.dst,o.guard with
 | .next (.tmp it) J,D d,B=>D (it,d)
 | _,_,_=>B
def fstO (o:Æ):F (H×H):=match o.op,o.dst,o.guard with
 | .extract (.tmp d) 0,D c,B=>D (d,c)
 | _,_,_=>B
def entO (o:Æ):F (H×H):=match o.op,o.dst,o.guard with
 | .entry (.tmp it),D d,B=>D (it,d)
 | _,_,_=>B
def mrP (b:H):Õ→F MrP
 | .seq (.region _ ops J) (.seq (.cond (.tmp c) .skip (.exit b')) (.block b6 (.seq (.region _ ops3 J) rest)))=>match ops.toList,ops3.toList with
  | [o1,o2],o3::_=>match jyV o1,fstO o2,entO o3 with
   | some (it,d1),D (d1',c2),D (it',d3)=>if d1'=d1∧it'=it∧c=c2∧b'=b then D ⟨it,d1,c2,d3,b6,ops3,rest⟩ else B
   | _,_,_=>B
  | _,_=>B
 | _=>B
def mrC (E:Env) (b:H) (p:MrP) (m:H):Bool:=
 bare p.ops&&(j1m p.rest&&(!(Ì p.it p.d1)&&(!(Ì p.it p.c2)&&(!(Ì p.it p.d3)&&(!(Ì m p.it)&&(!(Ì m p.d1)&&(!(Ì m p.c2)&&(!(Ì m p.d3) &&
  (è p.it E.N.n&&(è p.d1 E.N.n&&(è p.c2 E.N.n&&(è p.d3 E.N.n&&(!(E.keep b).slots.contains p.it&&(!(E.keep b).slots.contains p.d1 && !(E.keep b).slots.contains p.c2))))))))))))))
def jli (E:Env):Õ→Õ→X
 | .region _ _ J,.block b (.loop _)=>(E.mr b).isSome
 | _,_=>J
def jt0:BS→X
 | .live (.lst e _ _ _)=>isM e
 | _=>J
def Env.mrE (E:Env) (it m:H):Env:={ E with N:=⟨E.N.n,fun i=>Ì i it||Nat.beq i m⟩,mr:=fun _=>B }
noncomputable section
variable (E:Env) {R:Type}
def mrGo (b m m1:H) (k:Ex→St→F R) (σ:St):F R:=match σ.sl m1,σ.sl m with
 | .one (.one (.ol n)),.one (.one (.ol n'))=>cond (Ì n n'&&jt0 (σ.bx n)) (match j5P E.np (E.keep b) σ with
  | some s=>E.M b s R fun s'=>k .normal (j0J E.np (E.keep b) s')
  | none=>B) B
 | _,_=>B
def jnD (x y:Õ) (σ:St) (k:Ex→St→F R):F R:=match x,y with
 | .region _ ops J,.block b (.loop c)=>match E.mr b,mrP b c,ops.toList.getLast? with
  | some (m,_),D p,D o=>match o.op,o.dst with
   | .range t (.tmp m1),D it=>cond (bare ops&&(Ì it p.it&&(mrC E b p m&&(jjd E.T t).isSome))) (jbR E ops.toList.dropLast σ (mrGo E b m m1 k)) B
   | _,_=>B
  | _,_,_=>B
 | _,_=>B
end
noncomputable section
variable (E:Env) {R:Type}
def j0S:H→Õ→St→(Ex→St→F R)→F R
 | _,.skip,σ,k=>k .normal σ
 | _,.region id ops J,σ,k=>jjg E.np (E.pre id) σ fun σ=>cond (E.ks id) (jsX E ops σ fun σ'=>k .normal σ') (jjf E ops σ fun σ'=>k .normal σ')
 | _,.region id ops U,σ,k=>jjg E.np (E.pre id) σ fun σ=>jgx E ops (E.dw id) σ fun σ'=>k .normal σ'
 | b,.seq x y,σ,k=>cond (jli E x y) (jnD E x y σ k) (j0S b x σ fun e σ'=>match e with
  | .normal=>j0S b y σ' k
  | e=>k e σ')
 | b,.cond c x y,σ,k=>match σ.ev c with
  | .one (.one (.d .bool v))=>cond v (j0S b x (σ.know E.sc c U) k) (j0S b y (σ.know E.sc c J) k)
  | _=>B
 | _,.block id c,σ,k=>j0S id c σ fun e σ'=>match e with
  | .exit i=>if i=id then k .normal σ' else k (.exit i) σ'
  | e=>k e σ'
 | b,.loop c,σ,k=>cond (isRf c) B (cond (è 0 (E.un b)) (jie (fun σ k=>j0S b c σ k) (E.un b) σ k) (match j5P E.np (E.keep b) σ with
  | some s=>E.L b s R fun e s'=>k e (j0J E.np (E.keepX b e) s')
  | none=>B))
 | b,.rangeFunc g ps x y,σ,k=>match σ.ev g with
  | .one (.one (.clo f [.p [⟨.list t,xs⟩]]))=>match rfK E b f t ps x y with
   | some kd=>match j5P E.np (E.keep b) σ with
    | some s=>E.L b (.s (.one (.d (.int .i64) (jm5 kd (Ä xs))))::s) R fun e s'=>k e (j0J E.np (E.keepX b e) s')
    | none=>B
   | none=>B
  | _=>B
 | b,.scope c,σ,k=>j0S b c σ k
 | _,.label _,σ,k=>k .normal σ
 | _,.exit i,σ,k=>k (.exit i) σ
 | _,.ret,σ,k=>k .ret σ
 | _,_,_,_=>B
def jcY (b:H) (c:Õ) (s:Snap):F (Snap ⊕ Ex×Snap):=
 j0S E b c (j0J E.np (E.keep b) s) fun e σ=>match e with
  | .normal=>match j5P E.np (E.keep b) σ with
   | some s'=>D (.inl s')
   | none=>B
  | e=>match j5P E.np (E.keepX b e) σ with
   | some s'=>D (.inr (e,s'))
   | none=>B
def jjh (b:H) (g:Í) (ps:É H) (x y:Õ) (s:Snap) (K:F (I Item)→Ex→St→F R):F R:=
 match s with
 | .s (.one (.d (.int .i64) n))::s0=>match (j0J E.np (E.keep b) s0).ev g with
  | .one (.one (.clo f [.p [⟨.list t,xs⟩]]))=>match rfK E b f t ps x y with
   | some kd=>cond (jxB kd (Ä xs) n) (K B .normal (j0J E.np (E.keep b) s0)) (cond (itOk kd (Ä xs) n)
    (j0S (E.rnd ps x y) 0 x (setL (ps.toList.zip (jqU kd t xs n)) (j0J E.np (E.keep b) s0)) fun e σ=>match e with
     | .normal=>j0S (E.rnd ps x y) 0 y σ (K (D [.s (.one (.d (.int .i64) (jqT kd n)))]))
     | _=>B) B)
   | none=>B
  | _=>B
 | _=>B
def jlj (b:H) (g:Í) (ps:É H) (x y:Õ) (s:Snap):F (Snap ⊕ Ex×Snap):=
 jjh E b g ps x y s fun p e σ=>match p,e with
  | some q,.normal=>match j5P E.np (E.keep b) σ with
   | some s'=>D (.inl (q++s'))
   | none=>B
  | _,e=>cond (pinK ps x y (E.keepX b e)) (match j5P E.np (E.keepX b e) σ with
   | some s'=>D (.inr (e,s'))
   | none=>B) B
def mrNx (b6:H):Ex→X
 | .normal=>U
 | .exit i=>Ì i b6
 | .ret=>J
def jlk (b:H) (p:MrP) (m:H) (s:Snap) (v:Ty) (q:Å) (z:v.den) (k:Snap→F R):F R:=
 jbR (E.mrE p.it m) p.ops.toList.tail ((j0J E.np (E.keep b) s).setD (D p.d3) (.tup [.one (.d (.int .i64) q),jbc v z])) fun σ1=>
  j0S (E.mrE p.it m) p.b6 p.rest σ1 fun e σ2=>cond (mrNx p.b6 e) (match j5P E.np (E.keep b) σ2 with
   | some s'=>k s'
   | none=>B) B
def jt1 (b:H):Õ→Snap→F (Snap ⊕ Ex×Snap)
 | .rangeFunc g ps x y,s=>jlj E b g ps x y s
 | c,s=>jcY E b c s
end
def loopN {α β:Type} (f:α→F (α ⊕ β)):H→α→F β
 | 0,_=>B
 | n+1,s=>match f s with
  | some (.inl s')=>loopN f n s'
  | some (.inr x)=>D x
  | none=>B
def jm6 (i:H):Arg→Cel
 | .v x=>jbc x.t x.v
 | .ref _=> .one (.bp (i*64) 0)
 | .rl _ _=> .one (.ol (i*64))
 | .ip ls=> .one (.ip ls)
 | .clo f caps=> .one (.clo f caps)
 | .mv _ _=> .one (.ol (i*64+63))
def j9G:F Arg→BS
 | some (.ref ls)=> .live (.cell (ls.map TV.leaf) J)
 | some (.rl e ⟨.list a,xs⟩)=> .live (.lst e a xs J)
 | _=> .free
def jm7:F Arg→BS
 | some (.mv e ⟨.list a,xs⟩)=> .live (.lst e a xs J)
 | _=> .free
def St.init (args:I Arg):St where
 sl:=fun i=>match args[i]? with
  | some a=> .one (jm6 i a)
  | none=> .one (.one .dead)
 bx:=fun n=>if n%64=0 then j9G args[n/64]? else if n%64=63 then jm7 args[n/64]? else .free
def soOf (rd:H→BS):I SoK→I Leaf→F (I RL×I H×Ups)
 | [],[]=>D ([],[],[])
 | .d t::ks,l::ls=>match jbQ rd t l,soOf rd ks ls with
  | some (x,u),D (r,n,v)=>cond t.leafy (D (.d ⟨t,x⟩::r,n,u++v)) B
  | _,_=>B
 | .own e a::ks,.nil::ls=>match soOf rd ks ls with
  | some (r,n,v)=>cond (isM e) B (D (.own e ⟨.list a,[]⟩::r,n,v))
  | none=>B
 | .own e _::ks,.ol k::ls=>match rd k with
  | .live (.lst e' b xs J)=>cond (Ì e' e) (match soOf rd ks ls with
   | some (r,n,v)=>D (.own e' ⟨.list b,xs⟩::r,k::n,v)
   | none=>B) B
  | _=>B
 | _,_=>B
def rvOf (E:Env) (rd:H→BS) (own:X) (t:H) (c:Cel):F (RV×I H×Ups):=
 match c with
 | .one (.bp k 0)=>match rd k with
  | .live (.cell ls J)=>match tvs rd ls with
   | some (xs,u)=>D (.box xs,[k],u)
   | none=>B
  | _=>B
 | .one (.clo f caps)=>D (.clo f caps,[],[])
 | c=>match E.T t with
  | some ti=>match ti.ty with
   | some ty=>match own with
    | true=>match c,ty with
     | .st ls,_=>match soOf rd E.so ls with
      | some (r,n,v)=>D (.so r,n,v)
      | none=>B
     | .one .nil,.list a=>D (.own ti.elem ⟨.list a,[]⟩,[],[])
     | .one (.ol k),_=>match rd k with
      | .live (.lst e a xs J)=>D (.own e ⟨.list a,xs⟩,[k],[])
      | _=>B
     | _,_=>B
    | false=>match jfp rd ty c with
     | some (x,u)=>D (.v ⟨ty,x⟩,[],u)
     | none=>B
   | none=>B
  | none=>B
def jji (E:Env) (σ:St):æ→F Cel
 | .tmp t=>match σ.sl t with
  | .one c=>D c
  | _=>B
 | .cell a t=>match E.T t,σ.sl a with
  | some ti,.one (.one x)=>jhw (mskM σ.bx) ti x
  | _,_=>B
def j9r (E:Env) (σ:St):I X→I æ→I H→F (I RV×I H×Ups)
 | _,[],_=>D ([],[],[])
 | os,r::rs,ts=>match jji E σ r with
  | some c=>match rvOf E (fun k=>if parK E.np k then .gone else mskM σ.bx k) (os.headD J) (ts.headD 0) c with
   | some (v,ks,u)=>match j9r E σ os.tail rs ts.tail with
    | some (vs,ks',u')=>D (v::vs,ks++ks',u++u')
    | none=>B
   | none=>B
  | none=>B
def outs (np:H) (σ:St):H→I Arg→F (I Out×Ups)
 | _,[]=>D ([],[])
 | i,a::as=>match outs np σ (i+1) as with
  | some (os,u)=>match a with
   | .ref _=>match σ.bx (i*64) with
    | .live (.cell ls J)=>match tvs (fun k=>if parK np k then .gone else mskM σ.bx k) ls with
     | some (xs,u')=>D (.ref xs::os,u'++u)
     | none=>B
    | _=>B
   | .rl e x=>match σ.bx (i*64) with
    | .live (.lst e' a xs J)=>if e'=e∧x.t = .list a then D (.rl ⟨.list a,xs⟩::os,u) else B
    | _=>B
   | _=>D (os,u)
  | none=>B
def hdOf (σ:St):Leaf→F H
 | .ol 0=>match σ.bx 0 with
  | .live (.lst e _ xs J)=>if isM e then B else D xs.length
  | _=>B
 | .hd 0 i=>match σ.bx 0 with
  | .live (.lst _ _ _ J)=>D i
  | _=>B
 | _=>B
def jyW (E:Env) (fn:Func) (args:I Arg) (σ:St):F Ret:=
 match args,fn.results.toList with
 | .rl _ _::_,[r]=>match jji E σ r,outs E.np σ 0 args with
  | some (.one l),D (os,_)=>match hdOf σ l with
   | some m=>D ⟨[.hd m],os⟩
   | none=>B
  | _,_=>B
 | _,_=>B
def nilV (E:Env) (σ:St) (rs:I æ) (vs:I RV):F (I RV):=
 if E.ns.isEmpty then D vs else match rs,vs with
  | [r],[.v x]=>match jji E σ r with
   | some (.st ls)=>if E.ns.all (fun i=>match ls[i]? with | some .nil=>U | _=>J) then D [.vn x E.ns] else B
   | _=>B
  | _,_=>B
def jcZ (ns:I H):Leaf→X
 | .dead | .nil | .d _ _=>U
 | .ol k | .bp k _=>ns.contains k
 | _=>J
def jpt (ns:I H):Cel→X
 | .one l=>jcZ ns l
 | .st ls=>ls.all (jcZ ns)
 | .av _ _ _=>U
def jxC (ns:I H):BS→X
 | .live (.cell ls _)=>ls.all (jcZ ns)
 | .live (.lst _ _ _ _)=>U
 | .live (.arr _ _ _)=>U
 | .live (.row _ _ _ ls)=>ls.all (jcZ ns)
 | _=>U
def jjj (E:Env) (σ:St):I æ→F (I Cel)
 | []=>D []
 | r::rs=>match jji E σ r,jjj E σ rs with
  | some c,D cs=>D (c::cs)
  | _,_=>B
def jt2:Arg→X
 | .ref _=>U
 | .mv _ _=>U
 | .rl _ _=>U
 | _=>J
def jwL (E:Env) (fn:Func) (args:I Arg) (σ:St):F Ret:=
 match jjj E σ fn.results.toList with
 | some cs=>if jbe E.rn&&(E.rn.all (fun k=> !parK E.np k&&jxC E.rn (σ.bx k))&&(cs.all (jpt E.rn)&&args.all (fun a=> !jt2 a))) then
  D ⟨[.raw E.rn (cs.map .s++E.rn.map fun k=> .b (σ.bx k))],[]⟩ else B
 | none=>B
def jm8 (E:Env) (fn:Func) (args:I Arg) (σ:St):F Ret:=
 if E.rw then jwL E fn args σ else
 if E.hd then jyW E fn args σ else
 match j9r E σ E.ro fn.results.toList fn.resultTypes.toList,outs E.np σ 0 args with
 | some (vs,ks,u),D (os,u')=>
  if jbe ks&&(u++u').all (fun e=> !ks.contains e.1) then match nilV E σ fn.results.toList vs with
   | some vs'=>D ⟨vs',os⟩
   | none=>B
  else B
 | _,_=>B
noncomputable def jgy (E:Env) {R:Type} (fn:Func) (args:I Arg) (k:Ret→F R):F R:=
 if args.length=E.np then match fn.body with
 | some c=>j0S E 0 c (St.init args) fun e σ=>match e with
  | .exit _=>B
  | _=>match jm8 E fn args σ with
   | some r=>k r
   | none=>B
 | none=>B
 else B
def All2 {α β:Type} (R:α→β→Prop):I α→I β→Prop
 | [],[]=>True
 | a::as,b::bs=>R a b∧All2 R as bs
 | _,_=>Û
section All2
variable {α β γ:Type} {R R':α→β→Prop}
theorem All2.length:∀ {as:I α} {bs:I β},All2 R as bs→as.length=bs.length
 | [],[],_=>rfl
 | _::_,_::_,h=>by simp [All2.length h.2]
 | [],_::_,h=>h.elim
 | _::_,[],h=>h.elim
theorem All2.mono (hr:∀ a b,R a b→R' a b):∀ {as:I α} {bs:I β},All2 R as bs→All2 R' as bs
 | [],[],_=>trivial
 | _::_,_::_,h=>⟨hr _ _ h.1,All2.mono hr h.2⟩
 | [],_::_,h=>h.elim
 | _::_,[],h=>h.elim
theorem All2.get:∀ {as:I α} {bs:I β},All2 R as bs→∀ (i:H) (a:α),as[i]? = D a→∃ b,bs[i]? = D b∧R a b
 | [],[],_,i,a,h=>by simp at h
 | a::as,b::bs,h,0,a',he=>by simp at he;subst he;exact ⟨b,smp_,h.1⟩
 | a::as,b::bs,h,i+1,a',he=>by
  obtain ⟨b',hb,hr⟩:=All2.get h.2 i a' (by simpa using he)
  exact ⟨b',by simpa using hb,hr⟩
 | [],_::_,h,_,_,_=>h.elim
 | _::_,[],h,_,_,_=>h.elim
theorem All2.append:∀ {as:I α} {bs:I β} {as':I α} {bs':I β},All2 R as bs→All2 R as' bs'→All2 R (as++as') (bs++bs')
 | [],[],_,_,_,h'=>h'
 | _::_,_::_,_,_,h,h'=>⟨h.1,All2.append h.2 h'⟩
 | [],_::_,_,_,h,_=>h.elim
 | _::_,[],_,_,h,_=>h.elim
theorem All2.take:∀ {as:I α} {bs:I β},All2 R as bs→∀ n,All2 R (as.take n) (bs.take n)
 | [],[],_,n=>by simp [All2]
 | _::_,_::_,_,0=>by simp [All2]
 | _::_,_::_,h,n+1=>⟨h.1,All2.take h.2 n⟩
 | [],_::_,h,_=>h.elim
 | _::_,[],h,_=>h.elim
theorem All2.drop:∀ {as:I α} {bs:I β},All2 R as bs→∀ n,All2 R (as.drop n) (bs.drop n)
 | [],[],_,n=>by simp [All2]
 | _::_,_::_,h,0=>h
 | _::_,_::_,h,n+1=>All2.drop h.2 n
 | [],_::_,h,_=>h.elim
 | _::_,[],h,_=>h.elim
theorem All2.set:∀ {as:I α} {bs:I β},All2 R as bs→∀ i a b,R a b→All2 R (as.set i a) (bs.set i b)
 | [],[],_,i,_,_,_=>by simp [All2]
 | _::_,_::_,h,0,_,_,hr=>⟨hr,h.2⟩
 | _::_,_::_,h,i+1,_,_,hr=>⟨h.1,All2.set h.2 i _ _ hr⟩
 | [],_::_,h,_,_,_,_=>h.elim
 | _::_,[],h,_,_,_,_=>h.elim
theorem All2.map_left {f:γ→α}:∀ {cs:I γ} {bs:I β},All2 R (cs.map f) bs↔All2 (fun c b=>R (f c) b) cs bs
 | [],[]=>Iff.rfl
 | _::_,_::_=>and_congr_right fun _=>All2.map_left
 | [],_::_=>Iff.rfl
 | _::_,[]=>Iff.rfl
theorem All2.mem_right:∀ {as:I α} {bs:I β},All2 R as bs→∀ b∈bs,∃ a∈as,R a b
 | [],[],_,b,hb=>by simp at hb
 | a::as,b::bs,h,b',hb=>by
  rcases jl.1 hb with rfl | hb
  ·exact ⟨a,smp_,h.1⟩
  ·obtain ⟨a',ha,hr⟩:=All2.mem_right h.2 b' hb
   exact ⟨a',by simp [ha],hr⟩
 | [],_::_,h,_,_=>h.elim
 | _::_,[],h,_,_=>h.elim
end All2
theorem jiT {α β γ:Type} {R:α→β→Prop} {R':γ→β→Prop} {ls:I α} {xs:I γ} {l:I β} (h:All2 R ls (l.take ls.length)) (h':All2 R' xs (l.take ls.length)):xs.length=ls.length:=
 h'.length.trans h.length.symm
def One (u:O):Prop:=u.oneCell'=U
abbrev j0e:=H→H→Prop
def Lies (S:j0e) (w:À) (g o:H) (cs:I O):Prop:=
 ∀ j v,cs[j]? = D v→S g (o+j)∧w.cell? ⟨g,o+j,B⟩=D v
def Rep (S:j0e) (w:À):(t:Ty)→t.den→I O→Prop
 | .int k,n,cs=>cs=[.int k n]
 | .bool,b,cs=>cs=[.bool b]
 | .str,s,cs=>cs=[.string s]
 | .unit,_,cs=>cs=[]
 | .wrap a,v,cs=>Rep S w a v cs
 | .pair a b,v,cs=>∃ c1 c2,cs=c1++c2∧Rep S w a v.1 c1∧Rep S w b v.2 c2
 | .list a,xs,cs=>∃ ad cap,cs=[.slice ad (Ä xs) cap]∧Ä xs≤cap∧cap≤maxLen∧(ad=B→cap=0)∧
  ∀ b,ad=D b→(xs≠[]→b.spot=B)∧∃ css,All2 (fun x c=>Rep S w a x c) xs css∧Lies S w b.block b.off css.flatten
 | .arr n a,xs,cs=>Ä xs=n∧∃ css,All2 (fun x c=>Rep S w a x c) xs css∧cs=css.flatten
def j2O (S:j0e) (w:À) (S':j0e) (w':À):Prop:=
 ∀ g o,S g o→S' g o∧w'.cell? ⟨g,o,B⟩=w.cell? ⟨g,o,B⟩
theorem j2O.refl (S:j0e) (w:À):j2O S w S w:=fun _ _ h=>⟨h,rfl⟩
theorem j2O.trans {S S' S'':j0e} {w w' w'':À} (h:j2O S w S' w') (h':j2O S' w' S'' w''):j2O S w S'' w'':=
 fun g o hs=>⟨(h' g o (h g o hs).1).1,((h' g o (h g o hs).1).2).trans (h g o hs).2⟩
theorem Lies.keep {S S':j0e} {w w':À} (h:j2O S w S' w') {g o:H} {cs:I O} (hl:Lies S w g o cs):Lies S' w' g o cs:=
 fun j v hv=>let ⟨hs,hc⟩:=hl j v hv;⟨(h _ _ hs).1,(h _ _ hs).2.trans hc⟩
theorem Rep.keep {S S':j0e} {w w':À} (h:j2O S w S' w'):∀ (t:Ty) (v:t.den) (cs:I O),Rep S w t v cs→Rep S' w' t v cs
 | .int _,_,_,hr=>hr
 | .bool,_,_,hr=>hr
 | .str,_,_,hr=>hr
 | .unit,_,_,hr=>hr
 | .wrap a,v,cs,hr=>Rep.keep h a v cs hr
 | .pair a b,_,_,⟨c1,c2,e,h1,h2⟩=>⟨c1,c2,e,Rep.keep h a _ _ h1,Rep.keep h b _ _ h2⟩
 | .list a,_,_,⟨ad,cap,e,h1,h2,h3,h4⟩=>⟨ad,cap,e,h1,h2,h3,fun b hb=>by
  obtain ⟨hs,css,ha,hl⟩:=h4 b hb
  exact ⟨hs,css,ha.mono (fun x c hx=>Rep.keep h a x c hx),hl.keep h⟩⟩
 | .arr _ a,_,_,⟨hn,css,ha,e⟩=>⟨hn,css,ha.mono (fun x c hx=>Rep.keep h a x c hx),e⟩
theorem All2.flatten_length {α:Type} {R:α→I O→Prop} {n:H} (hr:∀ x c,R x c→c.length=n) :
  ∀ {xs:I α} {css:I (I O)},All2 R xs css→css.flatten.length=xs.length*n
 | [],[],_=>smp_
 | _::xs,c::css,h=>by
  have:=All2.flatten_length hr h.2
  simp only [kx,jo,hr _ _ h.1,this,jp,ð];omega
 | [],_::_,h=>h.elim
 | _::_,[],h=>h.elim
theorem Rep.length {S:j0e} {w:À}:∀ (t:Ty) (v:t.den) (cs:I O),Rep S w t v cs→cs.length=t.size
 | .int _,_,_,hr=>by rw [hr];rfl
 | .bool,_,_,hr=>by rw [hr];rfl
 | .str,_,_,hr=>by rw [hr];rfl
 | .unit,_,_,hr=>by rw [hr];rfl
 | .wrap a,v,cs,hr=>Rep.length a v cs hr
 | .pair a b,_,_,⟨c1,c2,e,h1,h2⟩=>by rw [e,jo,Rep.length a _ _ h1,Rep.length b _ _ h2];rfl
 | .list _,_,_,⟨ad,cap,e,_⟩=>by rw [e];rfl
 | .arr n a,xs,cs,⟨hn,css,ha,e⟩=>by
  rw [e,All2.flatten_length (fun x c hx=>Rep.length a x c hx) ha,hn];rfl
theorem Rep.one {S:j0e} {w:À}:∀ (t:Ty) (v:t.den) (cs:I O),Rep S w t v cs→∀ u∈cs,One u
 | .int _,_,_,hr=>by rw [hr];intro u hu;simp at hu;subst hu;rfl
 | .bool,_,_,hr=>by rw [hr];intro u hu;simp at hu;subst hu;rfl
 | .str,_,_,hr=>by rw [hr];intro u hu;simp at hu;subst hu;rfl
 | .unit,_,_,hr=>by rw [hr];intro u hu;simp at hu
 | .wrap a,v,cs,hr=>Rep.one a v cs hr
 | .pair a b,_,_,⟨c1,c2,e,h1,h2⟩=>by
  rw [e];intro u hu
  rcases js.1 hu with hu | hu
  ·exact Rep.one a _ _ h1 u hu
  ·exact Rep.one b _ _ h2 u hu
 | .list _,_,_,⟨ad,cap,e,_⟩=>by rw [e];intro u hu;simp at hu;subst hu;rfl
 | .arr n a,xs,cs,⟨hn,css,ha,e⟩=>by
  rw [e];intro u hu
  obtain ⟨c,hc,huc⟩:=List.mem_flatten.1 hu
  obtain ⟨x,_,hx⟩:=ha.mem_right c hc
  exact Rep.one a x c hx u huc
def j7x (S:j0e) (w:À):Cap→O→Prop
 | .v x,u=>x.t.leafy=U∧Rep S w x.t x.v [u]
 | .p ls,u=>∃ g o cs,u = .pointer (D ⟨g,o,B⟩)∧All2 (fun x z=>Rep S w x.t x.v [z]) ls cs∧Lies S w g o cs
def jt3 (γ:H→O) (bx:H→BS) (k:H) (u:O):Prop:=
 bx k ≠ .free∧One u∧∀ b,bx k = .live b→∃ g,γ k = .pointer (D ⟨g,0,B⟩)∧u = .pointer (D ⟨g,0,B⟩)
def j0b (S:j0e) (w:À) (γ:H→O) (bx:H→BS):Leaf→O→Prop
 | .dead,_=>True
 | .nil,u=>u = .slice B 0 0
 | .d t v,u=>Rep S w t v [u]
 | .ol k,u=>bx k ≠ .free∧One u∧∀ b,bx k = .live b→u=γ k
 | .bp k c,u=>bx k ≠ .free∧One u∧∀ b,bx k = .live b→∃ g,γ k = .pointer (D ⟨g,0,B⟩)∧u = .pointer (D ⟨g,c,B⟩)
 | .ep k i c,u=>bx k ≠ .free∧One u∧∀ b,bx k = .live b→match b with
  | .lst e a xs _=>isM e=J∧i<xs.length∧∃ g cap,γ k = .slice (D ⟨g,0,B⟩) xs.length cap∧u = .pointer (D ⟨g,i*a.size+c,B⟩)
  | .arr n a _=>i<n∧∃ g,γ k = .pointer (D ⟨g,0,B⟩)∧u = .pointer (D ⟨g,i*a.size+c,B⟩)
  | .row e a n _=>isM e=J∧i<n∧∃ g cap,γ k = .slice (D ⟨g,0,B⟩) n cap∧u = .pointer (D ⟨g,i*a.size+c,B⟩)
  | .cell _ _=>Û
 | .tl k i,u=>bx k ≠ .free∧One u∧∀ b,bx k = .live b→match b with
  | .lst e a xs _=>isM e=J∧i≤xs.length∧∃ ad cap,γ k = .slice ad xs.length cap∧u = .slice (if cap=i then ad else ad.map (·.add (i*a.size))) (xs.length-i) (cap-i)
  | .arr _ _ _=>Û
  | .row _ _ _ _=>Û
  | .cell _ _=>Û
 | .hd k i,u=>bx k ≠ .free∧One u∧∀ b,bx k = .live b→match b with
  | .lst e _ xs _=>isM e=J∧i≤xs.length∧∃ ad cap,γ k = .slice ad xs.length cap∧u = .slice ad i cap
  | .arr _ _ _=>Û
  | .row _ _ _ _=>Û
  | .cell _ _=>Û
 | .ip ls,u=>∃ g o cs,u = .pointer (D ⟨g,o,B⟩)∧All2 (fun x z=>Rep S w x.t x.v [z]) ls cs∧Lies S w g o cs
 | .clo f caps,u=>∃ cv:É O,u = .func (.func f) #[] cv∧All2 (j7x S w) caps cv.toList
 | .clr f ks,u=>∃ cv:É O,u = .func (.func f) #[] cv∧All2 (jt3 γ bx) ks cv.toList
def j0k (S:j0e) (w:À) (γ:H→O) (bx:H→BS):Cel→O→Prop
 | .one x,u=>j0b S w γ bx x u∧(x ≠ .dead→One u)
 | .st ls,u=>∃ cs:É O,u = .agg cs∧All2 (j0b S w γ bx) ls cs.toList∧∀ x∈cs.toList,One x
 | .av n a xs,u=>∃ cs:É O,u = .agg cs∧Rep S w (.arr n a) xs cs.toList
def j43 (S:j0e) (w:À) (γ:H→O) (bx:H→BS) (tm:H→O):Slot→O→Prop
 | .one c,u=>j0k S w γ bx c u
 | .tup l,u=>∃ vs:É O,u = .tuple vs∧All2 (j0k S w γ bx) l vs.toList
 | .cnd s b c,u=>(tm s = .bool b∧j0k S w γ bx c u)∨(tm s ≠ .bool b∧u=undef)
 | .und,u=>u=undef
def blk:O→F H
 | .pointer (D a)=>D a.block
 | .slice (D a) _ _=>D a.block
 | .map (D g)=>D g
 | _=>B
def jb5:Ty→X
 | .arr _ _=>U
 | t=>t.agg
def VRep (S:j0e) (w:À) (x:TV) (u:O):Prop:=
 Rep S w x.t x.v u.cells.toList∧(jb5 x.t=U→∃ cs,u = .agg cs)∧(jb5 x.t=J→One u)
theorem VRep.keep {S S':j0e} {w w':À} (h:j2O S w S' w') {x:TV} {u:O} (hv:VRep S w x u):VRep S' w' x u:=
 ⟨Rep.keep h _ _ _ hv.1,hv.2⟩
def jih (es:É MapEntry) (clock:H):Prop:=MapKept.Stamped es clock∧es.toList.map (·.born)=Ò clock
def jnE (S:j0e) (w:À):(a:Ty)→I a.den→O→Prop
 | .pair k b,xs,u=>∃ g es clock,u = .map (D g)∧w.heap[g]? = D (.map es clock)∧All2 (fun (x:k.den×b.den) (e:MapEntry)=>Rep S w k x.1 [e.key]∧VRep S w ⟨b,x.2⟩ e.val) xs es.toList∧jih es clock
 | _,_,_=>Û
def jeg (S:j0e) (w:À) (e:H) (a:Ty) (xs:I a.den) (u:O):Prop:=
 (isM e=J∧∃ css,w.ownsRow 0 e a.size u xs.length css.flatten∧All2 (fun x c=>Rep S w a x c) xs css)∨(isM e=U∧jnE S w a xs u)
theorem jnE.keep {S S':j0e} {w w':À} (h:j2O S w S' w'):∀ {a:Ty} {xs:I a.den} {u:O},(∀ g,blk u=D g→w'.heap[g]? = w.heap[g]?)→jnE S w a xs u→jnE S' w' a xs u
 | .pair k b,xs,u,hg,⟨g,es,clock,hu,hh,ha,hq⟩=>⟨g,es,clock,hu,(hg g (by rw [hu];rfl)).trans hh,ha.mono fun x e hx=>⟨Rep.keep h _ _ _ hx.1,VRep.keep h hx.2⟩,hq⟩
theorem jeg.keep {S S':j0e} {w w':À} (h:j2O S w S' w') {e:H} {a:Ty} {xs:I a.den} {u:O} (hg:∀ g,blk u=D g→w'.heap[g]? = w.heap[g]?) (hl:jeg S w e a xs u):jeg S' w' e a xs u:=by
 rcases hl with ⟨hm,css,h1,h2⟩ | ⟨hm,h1⟩
 ·refine .inl ⟨hm,css,⟨h1.1,?_⟩,h2.mono (fun x c hx=>Rep.keep h _ _ _ hx)⟩
  rcases h1.2 with hn | ⟨g,cap,cur,hv,hb0,hh,rest⟩
  ·exact .inl hn
  ·exact .inr ⟨g,cap,cur,hv,hb0,(hg g (by rw [hv];rfl)).trans hh,rest⟩
 ·exact .inr ⟨hm,h1.keep h hg⟩
theorem jeg.lt {S:j0e} {w:À} {e:H} {a:Ty} {xs:I a.den} {u:O} (hl:jeg S w e a xs u) {g:H} (hg:blk u=D g):g<w.heap.size:=by
 rcases hl with ⟨hm,css,h1,h2⟩ | ⟨hm,h1⟩
 ·rcases h1.2 with ⟨hn,_⟩ | ⟨g',cap,cur,hv,hb0,hh,rest⟩
  ·rw [hn] at hg;simp [blk] at hg
  ·rw [hv] at hg;simp [blk] at hg;subst hg
   exact (jn.1 hh).1
 ·revert h1
  cases a with
  | pair k b=>
   rintro ⟨g',es,clock,hu,hh,ha⟩
   rw [hu] at hg;simp [blk] at hg;subst hg
   exact (jn.1 hh).1
  | _=>exact fun h=>h.elim
theorem jeg.one {S:j0e} {w:À} {e:H} {a:Ty} {xs:I a.den} {u:O} (hl:jeg S w e a xs u):One u:=by
 rcases hl with ⟨hm,css,h1,h2⟩ | ⟨hm,h1⟩
 ·rcases h1.2 with ⟨hn,_⟩ | ⟨g',cap,cur,hv,_⟩
  ·rw [hn];rfl
  ·rw [hv];rfl
 ·revert h1
  cases a with
  | pair k b=>rintro ⟨g',es,clock,hu,_⟩;rw [hu];rfl
  | _=>exact fun h=>h.elim
def j1X (S:j0e) (w:À) (γ:H→O) (bx:H→BS) (k:H):Bx→Prop
 | .cell ls frz=>∃ g cur e,γ k = .pointer (D ⟨g,0,B⟩)∧w.heap[g]? = D (.cells cur e (0,0))∧All2 (j0b S w γ bx) ls (cur.toList.take ls.length)∧
  (∀ u∈cur.toList.take ls.length,One u)∧(frz=J→∀ o,¬ S g o)∧(frz=U→∀ o,o<cur.size→S g o)
 | .lst e a xs frz=>jeg S w e a xs (γ k)∧
  ∀ g,blk (γ k)=D g→(frz=J→∀ o,¬ S g o)∧(frz=U→∀ o,S g o↔o<xs.length*a.size)
 | .arr n a xs=>∃ g cur e,γ k = .pointer (D ⟨g,0,B⟩)∧w.heap[g]? = D (.cells cur e (0,0))∧Rep S w (.arr n a) xs cur.toList∧∀ o,¬ S g o
 | .row e a n ls=>isM e=J∧(∃ cs,w.ownsRow 0 e a.size (γ k) n cs∧All2 (j0b S w γ bx) ls cs∧∀ u∈cs,One u)∧∀ g,blk (γ k)=D g→∀ o,¬ S g o
theorem j5B {S:j0e} {w:À} {γ:H→O} {bx:H→BS} {k e:H} {a:Ty} {xs:I a.den} {frz:X} (hm:isM e=J) (h:j1X S w γ bx k (.lst e a xs frz)) :
  ∃ css,w.ownsRow 0 e a.size (γ k) xs.length css.flatten∧All2 (fun x c=>Rep S w a x c) xs css∧
   ∀ g,blk (γ k)=D g→(frz=J→∀ o,¬ S g o)∧(frz=U→∀ o,S g o↔o<xs.length*a.size):=by
 obtain ⟨h1,h2⟩:=h
 rcases h1 with ⟨_,css,h3,h4⟩ | ⟨h3,_⟩
 ·exact ⟨css,h3,h4,h2⟩
 ·rw [hm] at h3;simp at h3
theorem jqV {S:j0e} {w:À} {γ:H→O} {bx:H→BS} {k e:H} {a:Ty} {xs:I a.den} {frz:X} {ad:F Addr} {n c:H} (hs:γ k = .slice ad n c) (h:j1X S w γ bx k (.lst e a xs frz)) :
  ∃ css,w.ownsRow 0 e a.size (γ k) xs.length css.flatten∧All2 (fun x c=>Rep S w a x c) xs css∧
   ∀ g,blk (γ k)=D g→(frz=J→∀ o,¬ S g o)∧(frz=U→∀ o,S g o↔o<xs.length*a.size):=by
 obtain ⟨h1,h2⟩:=h
 rcases h1 with ⟨_,css,h3,h4⟩ | ⟨_,h3⟩
 ·exact ⟨css,h3,h4,h2⟩
 ·revert h3
  rw [hs]
  cases a with
  | pair k b=>rintro ⟨g',es,clock,hu,_⟩;simp at hu
  | _=>exact fun h=>h.elim
theorem jyX {S:j0e} {w:À} {γ:H→O} {bx:H→BS} {k e:H} {a:Ty} {xs:I a.den} {frz:X} {ad:F Addr} {n c:H} (hs:γ k = .slice ad n c) (h:j1X S w γ bx k (.lst e a xs frz)):isM e=false:=by
 rcases h.1 with ⟨h1,_⟩ | ⟨_,h3⟩
 ·exact h1
 ·revert h3
  rw [hs]
  cases a with
  | pair k b=>rintro ⟨g',es,clock,hu,_⟩;simp at hu
  | _=>exact fun h=>h.elim
theorem jhy {S:j0e} {w:À} {γ:H→O} {bx:H→BS} {k e:H} {a:Ty} {xs:I a.den} {frz:X} (hm:isM e=J) (h:∃ css,w.ownsRow 0 e a.size (γ k) xs.length css.flatten∧All2 (fun x c=>Rep S w a x c) xs css∧
  ∀ g,blk (γ k)=D g→(frz=J→∀ o,¬ S g o)∧(frz=U→∀ o,S g o↔o<xs.length*a.size)):j1X S w γ bx k (.lst e a xs frz):=by
 obtain ⟨css,h1,h2,h3⟩:=h
 exact ⟨.inl ⟨hm,css,h1,h2⟩,h3⟩
def j1Y:Bx→Bx→Prop
 | .cell _ _,.cell _ _=>True
 | .lst e a xs _,.lst e' a' xs' _=>e=e'∧a=a'∧(isM e=J→xs.length=xs'.length)
 | .arr n a _,.arr n' a' _=>n=n'∧a=a'
 | .row e a n _,.row e' a' n' _=>e=e'∧a=a'∧n=n'
 | .row e a n _,.lst e' a' xs' _=>e=e'∧a=a'∧isM e=J∧n=xs'.length
 | _,_=>Û
theorem j1Y.refl (b:Bx):j1Y b b:=by cases b<;>simp [j1Y]
theorem j1Y.trans {a b c:Bx} (h:j1Y a b) (h':j1Y b c):j1Y a c:=by
 cases a<;>cases b<;>cases c<;>simp only [j1Y] at h h' ⊢ <;> first
  | exact h.elim
  | exact h'.elim
  | (obtain ⟨rfl,rfl,rfl⟩:=h;exact h')
  | (obtain ⟨rfl,rfl,h3,h4⟩:=h;obtain ⟨rfl,rfl,h5⟩:=h';exact ⟨rfl,rfl,h3,h4.trans (h5 h3)⟩)
  | (obtain ⟨rfl,rfl,h3⟩:=h;obtain ⟨rfl,rfl,h4⟩:=h';exact ⟨rfl,rfl,fun hm=>(h3 hm).trans (h4 hm)⟩)
  | exact ⟨h.1.trans h'.1,h.2.trans h'.2⟩
def BxLe (γ:H→O) (bx:H→BS) (γ':H→O) (bx':H→BS):Prop:=
 ∀ k,bx k ≠ .free→bx' k ≠ .free∧γ' k=γ k∧∀ b',bx' k = .live b'→∃ b,bx k = .live b∧j1Y b b'
theorem BxLe.refl (γ:H→O) (bx:H→BS):BxLe γ bx γ bx:=fun _ h=>⟨h,rfl,fun b hb=>⟨b,hb,.refl b⟩⟩
section keeps
variable {S S':j0e} {w w':À} {γ γ':H→O} {bx bx':H→BS} (hk:j2O S w S' w') (hb:BxLe γ bx γ' bx')
include hk
theorem j7x.keep {x:Cap} {u:O} (h:j7x S w x u):j7x S' w' x u:=by
 cases x with
 | v x=>exact ⟨h.1,Rep.keep hk _ _ _ h.2⟩
 | p ls=>
  obtain ⟨g,o,cs,hu,ha,hl⟩:=h
  exact ⟨g,o,cs,hu,ha.mono (fun x z hx=>Rep.keep hk _ _ _ hx),hl.keep hk⟩
include hb
theorem j0b.keep {x:Leaf} {u:O} (h:j0b S w γ bx x u):j0b S' w' γ' bx' x u:=by
 cases x with
 | dead=>trivial
 | nil=>exact h
 | d t v=>exact Rep.keep hk _ _ _ h
 | ol k=>
  obtain ⟨h1,h2,h3⟩:=h
  obtain ⟨b1,b2,b3⟩:=hb k h1
  exact ⟨b1,h2,fun b hb'=>by obtain ⟨b0,hb0,_⟩:=b3 b hb';rw [b2];exact h3 b0 hb0⟩
 | bp k c=>
  obtain ⟨h1,h2,h3⟩:=h
  obtain ⟨b1,b2,b3⟩:=hb k h1
  exact ⟨b1,h2,fun b hb'=>by obtain ⟨b0,hb0,_⟩:=b3 b hb';rw [b2];exact h3 b0 hb0⟩
 | ep k i c=>
  obtain ⟨h1,h2,h3⟩:=h
  obtain ⟨b1,b2,b3⟩:=hb k h1
  refine ⟨b1,h2,fun b hb'=> ?_⟩
  obtain ⟨b0,hb0,hs⟩:=b3 b hb'
  have h4:=h3 b0 hb0
  rw [b2]
  cases b0<;>cases b<;>simp only [j1Y] at hs<;>first
   | exact hs.elim
   | exact h4.elim
   | (obtain ⟨rfl,rfl,hl⟩:=hs;simp only at h4 ⊢;obtain ⟨hm,h4⟩:=h4;rw [←hl hm];exact ⟨hm,h4⟩)
   | (obtain ⟨rfl,rfl⟩:=hs;exact h4)
   | (obtain ⟨rfl,rfl,rfl⟩:=hs;exact h4)
   | (obtain ⟨rfl,rfl,hm,hl⟩:=hs;simp only at h4 ⊢;rw [←hl];exact h4)
 | tl k i=>
  obtain ⟨h1,h2,h3⟩:=h
  obtain ⟨b1,b2,b3⟩:=hb k h1
  refine ⟨b1,h2,fun b hb'=> ?_⟩
  obtain ⟨b0,hb0,hs⟩:=b3 b hb'
  have h4:=h3 b0 hb0
  rw [b2]
  cases b0<;>cases b<;>simp only [j1Y] at hs<;>first
   | exact hs.elim
   | exact h4.elim
   | (obtain ⟨rfl,rfl,hl⟩:=hs;simp only at h4 ⊢;obtain ⟨hm,h4⟩:=h4;rw [←hl hm];exact ⟨hm,h4⟩)
 | hd k i=>
  obtain ⟨h1,h2,h3⟩:=h
  obtain ⟨b1,b2,b3⟩:=hb k h1
  refine ⟨b1,h2,fun b hb'=> ?_⟩
  obtain ⟨b0,hb0,hs⟩:=b3 b hb'
  have h4:=h3 b0 hb0
  rw [b2]
  cases b0<;>cases b<;>simp only [j1Y] at hs<;>first
   | exact hs.elim
   | exact h4.elim
   | (obtain ⟨rfl,rfl,hl⟩:=hs;simp only at h4 ⊢;obtain ⟨hm,h4⟩:=h4;rw [←hl hm];exact ⟨hm,h4⟩)
 | ip ls=>
  obtain ⟨g,o,cs,hu,ha,hl⟩:=h
  exact ⟨g,o,cs,hu,ha.mono (fun x z hx=>Rep.keep hk _ _ _ hx),hl.keep hk⟩
 | clo f caps=>
  obtain ⟨cv,hu,ha⟩:=h
  exact ⟨cv,hu,ha.mono (fun x z hx=>j7x.keep hk hx)⟩
 | clr f ks=>
  obtain ⟨cv,hu,ha⟩:=h
  refine ⟨cv,hu,ha.mono (fun k z hx=> ?_)⟩
  obtain ⟨h1,h2,h3⟩:=hx
  obtain ⟨b1,b2,b3⟩:=hb k h1
  exact ⟨b1,h2,fun b hb'=>by obtain ⟨b0,hb0,_⟩:=b3 b hb';rw [b2];exact h3 b0 hb0⟩
theorem j0k.keep {x:Cel} {u:O} (h:j0k S w γ bx x u):j0k S' w' γ' bx' x u:=by
 cases x with
 | one x=>exact ⟨j0b.keep hk hb h.1,h.2⟩
 | st ls=>obtain ⟨cs,hu,ha,h1⟩:=h;exact ⟨cs,hu,ha.mono (fun x z hx=>j0b.keep hk hb hx),h1⟩
 | av n a xs=>obtain ⟨cs,hu,ha⟩:=h;exact ⟨cs,hu,Rep.keep hk _ _ _ ha⟩
theorem j43.keep {tm:H→O} {x:Slot} {u:O} (h:j43 S w γ bx tm x u):j43 S' w' γ' bx' tm x u:=by
 cases x with
 | one c=>exact j0k.keep hk hb h
 | tup l=>obtain ⟨vs,hu,ha⟩:=h;exact ⟨vs,hu,ha.mono (fun x z hx=>j0k.keep hk hb hx)⟩
 | cnd s b c=>exact h.imp (fun h=>⟨h.1,j0k.keep hk hb h.2⟩) id
 | und=>exact h
end keeps
structure Refs where
 blks:I H
 val:H→F O
 ds:I Deferred:=[]
 kw:H→F Obj:=fun _=>B
 fix:H→F Value:=fun _=>B
 mv:I Nat:=[]
instance:Membership H Refs:=⟨fun r g=>g∈r.blks⟩
def Own (w0:À) (refs:Refs) (g:H):Prop:=w0.heap.size≤g∨(g∈refs.mv∧g∈refs)
theorem Own.nil {w0:À} {refs:Refs} {g:H} (h:Own w0 refs g) (hm:refs.mv=[]):w0.heap.size≤g:=h.elim id fun h=>by rw [hm] at h;exact absurd h.1 smp_
theorem Own.swap {w0:À} {refs refs':Refs} {g:H} (h:Own w0 refs g) (hb:refs'.blks=refs.blks) (hm:refs'.mv=refs.mv):Own w0 refs' g:=h.imp id fun h=>⟨hm▸h.1,by show g∈refs'.blks;rw [hb];exact h.2⟩
theorem Own.no {w0:À} {refs:Refs} {g:H} (h:Own w0 refs g) (h1:g<w0.heap.size) (h2:g∉refs):False:=h.elim (fun h=>omg_) fun h=>h2 h.2
structure Rel (N:NT) (np:H) (S0:j0e) (w0:À) (refs:Refs) (σ:St) (a:Ý) (w:À) (S:j0e) (γ:H→O):Prop where
 size:a.tmps.size=N.n
 defers:a.defers=refs.ds
 slot:∀ i,j43 S w γ σ.bx (fun j=>a.tmps.getD j undef) (σ.sl i) (a.tmps.getD i undef)
 box:∀ k b,σ.bx k = .live b→j1X S w γ σ.bx k b
 own:∀ k b g,σ.bx k = .live b→blk (γ k)=D g→Own w0 refs g∨(g∈refs∧parK np k=U)
 apart:∀ k k' b b' g,k≠k'→σ.bx k = .live b→σ.bx k' = .live b'→blk (γ k)=D g→blk (γ k')≠D g
 ext:∀ g o,S0 g o→S g o
 new:∀ g o,S g o→S0 g o∨Own w0 refs g
 here:∀ g o,S g o→g<w.heap.size
 below:∀ g,g<w0.heap.size→g∉refs→w.heap[g]? = w0.heap[g]?
 grow:w0.heap.size≤w.heap.size
 os:w.os=w0.os
 tape:w.tape=w0.tape
 output:w.output=w0.output
 par:∀ k v,refs.val k=D v→parK np k=U∧σ.bx k ≠ .free∧γ k=v
 kept:∀ g o,refs.kw g=D o→w.heap[g]? = D o∧∀ k b,σ.bx k = .live b→blk (γ k)≠D g
 fix:∀ i v,refs.fix i=D v→N.pin i=U∧a.tmps.getD i undef=v
section
variable {N:NT} {np:H} {S0:j0e} {w0:À} {refs:Refs} {σ:St} {a:Ý} {w:À} {S:j0e} {γ:H→O}
theorem Rel.kw_live (hR:Rel N np S0 w0 refs σ a w S γ) {k:H} {b:Bx} {g:H} (hk:σ.bx k = .live b) (hg:blk (γ k)=D g):refs.kw g=none:=by
 cases h:refs.kw g with
 | none=>rfl
 | some o=>exact absurd hg ((hR.kept g o h).2 k b hk)
theorem Rel.kw_new (hR:Rel N np S0 w0 refs σ a w S γ) {g:H} (hg:w.heap.size≤g):refs.kw g=none:=by
 cases h:refs.kw g with
 | none=>rfl
 | some o=>have:=(jn.1 (hR.kept g o h).1).1;omega
end
def jci:Ty→I O
 | .int k=>[.int k 0]
 | .bool=>[.bool J]
 | .str=>[.string ByteArray.empty]
 | .unit=>[]
 | .wrap a=>jci a
 | .pair a b=>jci a++jci b
 | .list _=>[.slice B 0 0]
 | .arr n a=>(Ç n (jci a)).flatten
def jxD:O→O→X
 | .int k n,.int k' n'=>Y (k=k')&&Y (n=n')
 | .bool b,.bool b'=>b==b'
 | .string s,.string s'=>Y (s.data.toList=s'.data.toList)
 | .slice B 0 0,.slice B 0 0=>U
 | _,_=>J
def jll:I O→I O→X
 | [],[]=>U
 | a::l,b::l'=>jxD a b&&jll l l'
 | _,_=>J
theorem jvy {a b:O} (h:jxD a b=U):a=b:=by
 unfold jxD at h
 split at h<;>simp_all
 rename_i s s'
 cases s;cases s';simp_all
theorem jnF:∀ {l l':I O},jll l l'=U→l=l'
 | [],[],_=>rfl
 | a::l,b::l',h=>by
  simp only [jll,ji] at h
  rw [jvy h.1,jnF h.2]
 | [],_::_,h=>by simp [jll] at h
 | _::_,[],h=>by simp [jll] at h
def aggD:Ù→X
 | .struct _ | .array _ _=>U
 | _=>J
def jqW (T:H→F TyI) (e:H) (a:Ty):Bool:=
 match T e with
 | some te=>Y (te.ty=D a)
 | none=>J
def j7y (T:H→F TyI) (ti:TyI) (t:Ty):Ù→X
 | .int k=>Y (t = .int k)
 | .bool=>Y (t = .bool)
 | .string=>Y (t = .str)
 | .slice e=>match t with
  | .list a=>Y (e=ti.elem)&&jqW T e a&&Y (0<a.size)
  | _=>J
 | .array n e=>match t with
  | .arr n' a=>Y (n=n')&&Y (e=ti.elem)&&jqW T e a&&Y (0<a.size)
  | _=>J
 | .struct _=>t.agg
 | _=>J
def jnG (T:H→F TyI) (ti:TyI):Ù→X
 | .struct fs=>Y (fs.toList.map (fun f=>(f.offset,f.type))=ti.flds)&&fs.toList.all (fun f=>match T f.type with | some tf=>Y (0<tf.size) | none=>J)
 | _=>ti.flds.isEmpty
def jcj (P:Á) (f:È→F (I Ty)):H→I Field→F (I Ty)
 | _,[]=>D []
 | n, x :: xs => if x.name != "_" && Y (x.offset = n) then
   match f x.type with
   | some ks=>if (P.info? x.type).map (·.size)=D ks.length then match jcj P f (n+ks.length) xs with
     | some r=>D (ks++r)
     | none=>B
    else B
   | none=>B
  else B
def j8W (P:Á):H→È→F (I Ty)
 | 0,_=>B
 | d+1,t=>match P.underlying t with
  | some (.int k)=>D [.int k]
  | some .bool=>D [.bool]
  | some .string=>D [.str]
  | some (.struct fs)=>if P.stoodInHeld t then B else jcj P (j8W P d) 0 fs.toList
  | _=>B
def jxE (P:Á) (t:È) (ks:I Ty):Bool:=
 Y (j8W P 12 t=D ks) && !P.eqGuardType P.depth t&&(match P.underlying t with | some (.struct _)=>U | _=>J)
def mpOk (ti:TyI) (d:Ù):Bool:=match ti.mp with
 | none=>U
 | some (k,v)=>match d with
  | .map k' v'=>Y (k=k')&&Y (v=v')
  | _=>J
def zOk (i:î) (d:Ù):Bool:=match i.zero with
 | some (.agg _)=>aggD d
 | some (.tuple _)=>J
 | _=> !aggD d
def tyOk (P:Á) (T:H→F TyI) (n:H) (ti:TyI):Bool:=
 match P.info? n,P.underlying n with
 | some i,D d=>Y (i.size=ti.size)&&Y (i.bytes≤32768)&&Y (ti.agg=aggD d)&&jnG T ti d&&(((ti.cmp.isEmpty||jxE P n ti.cmp)&&mpOk ti d)&&(zOk i d && !isM ti.elem)) &&
  match ti.ty with
  | none=>U
  | some t=>Y (t.size=ti.size)&&(match i.zero with | some z=>jll z.cells.toList (jci t) | none=>J)&&j7y T ti t d
 | _,_=>J
def j1Q (P:Á) (T:H→F TyI):Prop:=∀ n ti,T n=D ti→tyOk P T n ti=U
def tab (l:I (F TyI)) (n:H):F TyI:=l.getD n B
theorem jvz (P:Á) (l:I (F TyI)) (h:(l.zipIdx.all fun x=>match x.1 with | some ti=>tyOk P (tab l) x.2 ti | none=>U)=U):j1Q P (tab l):=by
 intro n ti hn
 rw [jw] at h
 have hm:(D ti,n)∈l.zipIdx:=by
  rw [List.mem_zipIdx_iff_getElem?]
  unfold tab at hn
  rw [List.getD_eq_getElem?_getD] at hn
  cases hl:l[n]? with
  | none=>simp [hl] at hn
  | some x=>simp [hl] at hn;simp [hn]
 exact h _ hm
section
variable {P:Á} {T:H→F TyI} (hT:j1Q P T) {n:H} {ti:TyI} (hn:T n=D ti)
include hT hn
theorem jxF (hc:ti.cmp.isEmpty=J):jxE P n ti.cmp=true:=by
 have h:=hT n ti hn
 unfold tyOk at h
 split at h
 ·simp only [ji,hc,Bool.false_or] at h
  exact h.1.2.1.1
 ·simp at h
theorem jxG {k v:H} (hm:ti.mp=D (k,v)):P.underlying n=D (.map k v):=by
 have h:=hT n ti hn
 unfold tyOk at h
 split at h
 ·rename_i i d hi hd
  simp only [ji] at h
  have h2:=h.1.2.1.2
  simp only [mpOk,hm] at h2
  split at h2
  ·simp only [ji,jq] at h2
   rw [hd,h2.1,h2.2]
  ·simp at h2
 ·simp at h
theorem j4D:∃ i d,P.info? n=D i∧P.underlying n=D d∧i.size=ti.size∧i.bytes≤32768∧ti.agg=aggD d∧jnG T ti d=U∧
  ∀ t,ti.ty=D t→t.size=ti.size∧(∃ z,i.zero=D z∧z.cells.toList=jci t)∧j7y T ti t d=true:=by
 have h:=hT n ti hn
 unfold tyOk at h
 split at h
 ·rename_i i d hi hd
  simp only [ji,jq] at h
  obtain ⟨⟨⟨⟨⟨h1,h2⟩,h3⟩,h4⟩,_⟩,h5⟩:=h
  refine ⟨i,d,hi,hd,h1,h2,h3,h4,fun t ht=> ?_⟩
  simp only [ht,ji,jq] at h5
  obtain ⟨⟨h6,h7⟩,h8⟩:=h5
  refine ⟨h6,?_,h8⟩
  split at h7
  ·rename_i z hz
   exact ⟨z,hz,jnF h7⟩
  ·simp at h7
 ·simp at h
theorem j29 (w:À):(sizeOf n).run P w = .ok ti.size w:=by
 obtain ⟨i,d,hi,hd,hs,_⟩:=j4D hT hn
 simp [sizeOf,typeInfo,hi,hs]
theorem jhz (w:À):(isAgg n).run P w = .ok ti.agg w:=by
 obtain ⟨i,d,hi,hd,hs,_,ha,_⟩:=j4D hT hn
 simp only [isAgg,Z,run_underlying hd,W]
 rw [ha]
 cases d<;>rfl
theorem jd0 (w:À) {t:Ty} (ht:ti.ty=D t):∃ z,(zeroValue n).run P w = .ok z w∧z.cells.toList=jci t:=by
 obtain ⟨i,d,hi,hd,hs,_,ha,_,h⟩:=j4D hT hn
 obtain ⟨_,⟨z,hz,hc⟩,_⟩:=h t ht
 exact ⟨z,by simp [zeroValue,typeInfo,hi,hz],hc⟩
theorem jvA {i:î} {d:Ù} (hi:P.info? n=D i) (hd:P.underlying n=D d):zOk i d=true:=by
 have h:=hT n ti hn
 unfold tyOk at h
 rw [hi,hd] at h
 simp only [ji] at h
 exact h.1.2.2.1
theorem jm9:isM ti.elem=false:=by
 have h:=hT n ti hn
 unfold tyOk at h
 split at h
 ·simp only [ji] at h
  simpa using h.1.2.2.2
 ·simp at h
theorem j8X {t:Ty} (ht:ti.ty=D t):t.size=ti.size:=by
 obtain ⟨i,d,hi,hd,hs,_,ha,_,h⟩:=j4D hT hn
 exact (h t ht).1
theorem jpu {k:Ð} (ht:ti.ty=D (.int k)):P.underlying n=D (.int k):=by
 obtain ⟨i,d,hi,hd,hs,_,ha,_,h⟩:=j4D hT hn
 have:=(h _ ht).2.2
 cases d<;>simp_all [j7y,Ty.agg]
theorem j51 {a:Ty} (ht:ti.ty=D (.list a)):P.underlying n=D (.slice ti.elem)∧0<a.size∧∃ te,T ti.elem=D te∧te.ty=D a:=by
 obtain ⟨i,d,hi,hd,hs,_,ha,_,h⟩:=j4D hT hn
 have hd':=(h _ ht).2.2
 cases d with
 | slice e=>
  simp only [j7y,ji,jq] at hd'
  obtain ⟨⟨rfl,h2⟩,h3⟩:=hd'
  refine ⟨hd,h3,?_⟩
  unfold jqW at h2
  split at h2
  ·rename_i te hte;exact ⟨te,hte,by simpa using h2⟩
  ·simp at h2
 | _=>simp_all [j7y,Ty.agg]
theorem jhA {m:H} {a:Ty} (ht:ti.ty=D (.arr m a)):P.underlying n=D (.array m ti.elem)∧0<a.size∧∃ te,T ti.elem=D te∧te.ty=D a:=by
 obtain ⟨i,d,hi,hd,hs,_,ha,_,h⟩:=j4D hT hn
 have hd':=(h _ ht).2.2
 cases d with
 | array m' e=>
  simp only [j7y,ji,jq] at hd'
  obtain ⟨⟨⟨rfl,rfl⟩,h2⟩,h3⟩:=hd'
  refine ⟨hd,h3,?_⟩
  unfold jqW at h2
  split at h2
  ·rename_i te hte;exact ⟨te,hte,by simpa using h2⟩
  ·simp at h2
 | _=>simp_all [j7y,Ty.agg]
theorem jt4 {j:H} {f:H×H} (hf:ti.flds[j]? = D f) :
  ∃ fs,P.underlying n=D (.struct fs)∧∃ fl,fs[j]? = D fl∧fl.offset=f.1∧fl.type=f.2∧∃ tf,T f.2=D tf∧0<tf.size:=by
 obtain ⟨i,d,hi,hd,_,_,hag,hfl,_⟩:=j4D hT hn
 cases d with
 | struct fs=>
  simp only [jnG,ji,jq] at hfl
  obtain ⟨h1,h2⟩:=hfl
  rw [←h1] at hf
  rw [qn] at hf
  cases hq:fs.toList[j]? with
  | none=>simp [hq] at hf
  | some fl=>
   simp only [hq,kz,jb] at hf
   subst hf
   refine ⟨fs,hd,fl,by simpa using hq,rfl,rfl,?_⟩
   have:=jw.1 h2 fl (ki hq)
   split at this
   ·rename_i tf htf;exact ⟨tf,htf,by simpa using this⟩
   ·simp at this
 | _=>
  have:ti.flds=[]:=by simpa [jnG] using hfl
  simp [this] at hf
end
section
variable {N:NT} {np:H} {S0:j0e} {w0:À} {refs:Refs} {σ:St} {a:Ý} {w:À} {S:j0e} {γ:H→O}
def tm (a:Ý) (j:H):Value:=a.tmps.getD j undef
def jA8 (P:Á) (o:Æ) (a:Ý) (w:À) (v:O) (w':À):Prop:=
 (execOp a.eval o).run P w = .ok (.value v) w'∨((execOp a.eval o).run P w = .ok .skip w'∧v=undef)
def jt5 (P:Á) (N:NT) (np:H) (S0:j0e) (w0:À) (refs:Refs) (o:Æ) (σ:St) (a:Ý) (w:À) (S:j0e) (γ:H→O) (s:Slot) (u:Ups):Prop:=
 ∃ v w' S' γ',jA8 P o a w v w'∧Rel N np S0 w0 refs (σ.upd u) a w' S' γ'∧j43 S' w' γ' (σ.upd u).bx (tm a) s v
theorem j2a {P:Á} {o:Æ} {s:Slot} {v:O} (hR:Rel N np S0 w0 refs σ a w S γ) (hr:(execOp a.eval o).run P w = .ok (.value v) w)
  (hs:j43 S w γ σ.bx (tm a) s v):jt5 P N np S0 w0 refs o σ a w S γ s []:=
 ⟨v,w,S,γ,.inl hr,hR,hs⟩
theorem jpv (v:O) (bx:H→BS):j0k S w γ bx (.one (jpo v)) v:=by
 unfold jpo
 split<;>first
  | exact ⟨rfl,fun _=>rfl⟩
  | exact ⟨trivial,fun h=>absurd rfl h⟩
theorem j8Y (hR:Rel N np S0 w0 refs σ a w S γ) (x:Í):j43 S w γ σ.bx (tm a) (σ.ev x) (a.eval x):=by
 cases x with
 | tmp t=>exact hR.slot t
 | const v=>exact jpv v _
 | global g=>exact ⟨trivial,fun h=>absurd rfl h⟩
 | func f=>exact ⟨⟨#[],rfl,trivial⟩,fun _=>rfl⟩
def jjk (tm:H→O) (act:I (H×X)):Prop:=∀ g∈act,tm g.1 = .bool g.2
theorem jpw {bx:H→BS} {t:H→O} {act:I (H×X)} (hact:jjk t act) {s:Slot} {u:O} (h:j43 S w γ bx t s u):j0k S w γ bx (s.cel act) u:=by
 cases s with
 | one c=>exact h
 | tup l=>exact ⟨trivial,fun h=>absurd rfl h⟩
 | und=>exact ⟨trivial,fun h=>absurd rfl h⟩
 | cnd s b c=>
  simp only [Slot.cel]
  split
  ·rename_i hc
   have hm:(s,b)∈act:=by simpa using hc
   have:=hact _ hm
   rcases h with h | h
   ·exact h.2
   ·exact absurd this h.1
  ·exact ⟨trivial,fun h=>absurd rfl h⟩
theorem j0Z (hR:Rel N np S0 w0 refs σ a w S γ) {act:I (H×X)} (hact:jjk (tm a) act) (x:Í) :
 j0k S w γ σ.bx ((σ.ev x).cel act) (a.eval x):=jpw hact (j8Y hR x)
theorem j4Y {bx:H→BS} {c:Cel} {u:O} (h:j0k S w γ bx c u):j0b S w γ bx (lf c) u:=by
 cases c with
 | one x=>exact h.1
 | st ls=>trivial
 | av n a xs=>trivial
theorem j8k {k:Ð} {n:(Ty.int k).den} {u:O} (h:Rep S w (.int k) n [u]):u = .int k n:=by simpa [Rep] using h
theorem jma {n:Ty.bool.den} {u:O} (h:Rep S w .bool n [u]):u = .bool n:=by simpa [Rep] using h
theorem jjl {n:Ty.str.den} {u:O} (h:Rep S w .str n [u]):u = .string n:=by simpa [Rep] using h
theorem jfh {t:Ty} {x:TV} {v:t.den} (h:x.to t=D v):x=⟨t,v⟩:=by
 unfold TV.to at h
 split at h
 ·rename_i e
  obtain ⟨t',v'⟩:=x
  subst e
  simp at h
  rw [h]
 ·simp at h
theorem jeh {P:Á} (op:å) (t:È) (x y:Í) (k k':Ð) (p q:Å) :
  (eqGuard op t x y (.int k p) (.int k' q)).run P w = .ok () w:=by
 unfold eqGuard;cases op<;>simp
theorem jdU {P:Á} (op:å) (t:È) (x y:Í) (p q:X):(eqGuard op t x y (.bool p) (.bool q)).run P w = .ok () w:=by
 unfold eqGuard;cases op<;>simp
theorem jei {P:Á} (op:å) (t:È) (x y:Í) (p q:Ë):(eqGuard op t x y (.string p) (.string q)).run P w = .ok () w:=by
 unfold eqGuard;cases op<;>simp
theorem jt6 {P:Á} (t:È) {k k':Ð} {x y:Å} (h:0≤y) :
  (binOp .shr t (.int k x) (.int k' y)).run P w = .ok (.int k (í x (2^min (Ã y) k.bits))) w:=by
 have h':¬ y<0:=omg_
 simp [binOp,Op.shift,h']
theorem jvB {P:Á} {op:å} {k:Ð} {x y:Å} {l:Leaf} {bx:H→BS} (t:È) (h:binI op k x y=D (U,l)) :
  ∃ u,(binOp op t (.int k x) (.int k y)).run P w = .ok u w∧j0b S w γ bx l u∧One u:=by
 cases op with
 | add=>simp [binI] at h;subst h;exact ⟨_,by simp [binOp,à],rfl,rfl⟩
 | sub=>simp [binI] at h;subst h;exact ⟨_,by simp [binOp,à],rfl,rfl⟩
 | mul=>simp [binI] at h;subst h;exact ⟨_,by simp [binOp,à],rfl,rfl⟩
 | quo=>
  simp only [binI,jb,jf,qd,beq_eq_false_iff_ne] at h
  obtain ⟨h0,rfl⟩:=h
  exact ⟨_,by simp [binOp,ù,h0],rfl,rfl⟩
 | rem=>
  simp only [binI,jb,jf,qd,beq_eq_false_iff_ne] at h
  obtain ⟨h0,rfl⟩:=h
  exact ⟨_,by simp [binOp,ù,h0],rfl,rfl⟩
 | shr=>
  simp only [binI] at h
  split at h
  ·rename_i h0
   simp only [jb,jf,qm] at h
   subst h
   exact ⟨_,jt6 t (by simpa using h0),rfl,rfl⟩
  ·simp at h
 | and=>simp [binI] at h
 | or=>simp [binI] at h
 | xor=>simp [binI] at h
 | andNot=>simp [binI] at h
 | shl=>simp [binI] at h
 | eql=>simp [binI,cmpI] at h;subst h;exact ⟨_,by simp [binOp,Ü],rfl,rfl⟩
 | neq=>simp [binI,cmpI] at h;subst h;exact ⟨_,by simp [binOp,Ü],rfl,rfl⟩
 | lss=>simp [binI,cmpI] at h;subst h;exact ⟨_,by simp [binOp,Ü],rfl,rfl⟩
 | leq=>simp [binI,cmpI] at h;subst h;exact ⟨_,by simp [binOp,Ü],rfl,rfl⟩
 | gtr=>simp [binI,cmpI] at h;subst h;exact ⟨_,by simp [binOp,Ü],rfl,rfl⟩
 | geq=>simp [binI,cmpI] at h;subst h;exact ⟨_,by simp [binOp,Ü],rfl,rfl⟩
end
def jt7:Ty→O→O→X→Prop
 | .int k,u,v,b=>∃ x y:Å,u = .int k x∧v = .int k y∧b=(x==y)
 | .bool,u,v,b=>∃ x y:X,u = .bool x∧v = .bool y∧b=(x==y)
 | .str,u,v,b=>∃ x y:Ë,u = .string x∧v = .string y∧b=(x.toList==y.toList)
 | _,_,_,_=>Û
def j3h:I Ty→I O→I O→X→Prop
 | [],[],[],b=>b=U
 | k::ks,u::us,v::vs,b=>∃ b1 b2,jt7 k u v b1∧j3h ks us vs b2∧b=(b1&&b2)
 | _,_,_,_=>Û
theorem j3h.length:∀ {ks:I Ty} {us vs:I O} {b:X},j3h ks us vs b→us.length=ks.length∧vs.length=ks.length
 | [],[],[],_,_=>⟨rfl,rfl⟩
 | _::_,_::_,_::_,_,⟨_,_,_,h,_⟩=>by have:=j3h.length h;simp [this.1,this.2]
 | [],_::_,_,_,h=>by simp [j3h] at h
 | [],[],_::_,_,h=>by simp [j3h] at h
 | _::_,[],_,_,h=>by simp [j3h] at h
 | _::_,_::_,[],_,h=>by simp [j3h] at h
theorem j3h.split:∀ {k1 k2:I Ty} {us vs:I O} {b:X},j3h (k1++k2) us vs b→
  ∃ b1 b2,j3h k1 (us.take k1.length) (vs.take k1.length) b1∧j3h k2 (us.drop k1.length) (vs.drop k1.length) b2∧b=(b1&&b2)
 | [],k2,us,vs,b,h=>⟨U,b,by simp [j3h],by simpa using h,smp_⟩
 | k::k1,k2,u::us,v::vs,b,⟨b1,b2,h1,h2,hb⟩=>by
  obtain ⟨c1,c2,h3,h4,hc⟩:=j3h.split h2
  exact ⟨b1&&c1,c2,⟨b1,c1,h1,h3,rfl⟩,h4,by rw [hb,hc,Bool.and_assoc]⟩
 | _::_,_,[],_,_,h=>by simp [j3h] at h
 | _::_,_,_::_,[],_,h=>by simp [j3h] at h
theorem j3h.single {k:Ty} {us vs:I O} {b:X} (h:j3h [k] us vs b):∃ u v,us=[u]∧vs=[v]∧jt7 k u v b:=by
 have hl:=h.length
 match us,vs,hl with
 | [u],[v],_=>
  obtain ⟨b1,b2,h1,h2,hb⟩:=h
  simp only [j3h] at h2
  subst h2
  rw [Bool.and_true] at hb
  exact ⟨u,v,rfl,rfl,hb▸h1⟩
def jiB (P:Á) (t:È) (us:I O):Value:=
 match P.underlying t with
 | some (.struct _)=> .agg us.toArray
 | _=>us.headD undef
theorem jqX {P:Á} {w:À} {t:È} {us:I O} {o n:H} {i:î} {d:Ù} (hi:P.info? t=D i) (hn:i.size=n)
  (hd:P.underlying t=D d) (hl:o+n≤us.length) (h1:(∃ fs,d = .struct fs)∨((∀ fs,d ≠ .struct fs)∧(∀ m e,d ≠ .array m e)∧n=1)) :
  (part t us.toArray o).run P w = .ok (jiB P t ((us.drop o).take n)) w:=by
 rcases h1 with ⟨fs,rfl⟩ | ⟨h1,h2,rfl⟩
 ·simp [part,isAgg,run_underlying hd,sizeOf,typeInfo,hi,hn,jiB,hd,List.take_drop]
 ·have hv:jiB P t ((us.drop o).take 1)=us[o]:=by
   have:(us.drop o).take 1=[us[o]]:=by
    rw [jh omg_];rfl
   unfold jiB
   rw [this,hd]
   cases d<;>first | rfl | exact absurd rfl (h1 _)
  have ha:(isAgg t).run P w = .ok J w:=by
   simp only [isAgg,Z,run_underlying hd,W]
   cases d<;>first | rfl | exact absurd rfl (h1 _) | exact absurd rfl (h2 _ _)
  rw [hv]
  simp only [part,Z,ha,W,qf,zd]
  rw [show us.toArray[o]? = D us[o] by simp]
  rfl
theorem jej (P:Á) (w:À):∀ (k:H) (t:È) (ks:I Ty),j8W P k t=D ks→∀ d,k≤d→∀ us vs b,j3h ks us vs b→
  (ö d t (jiB P t us) (jiB P t vs)).run P w = .ok b w
 | 0,_,_,h,_,_,_,_,_,_=>by simp [j8W] at h
 | k+1,t,ks,h,d,hd,us,vs,b,he=>by
  obtain ⟨d,rfl⟩:∃ d',d=d'+1:=⟨d-1,omg_⟩
  unfold j8W at h
  split at h
  ·rename_i kk hu
   simp at h;subst h
   obtain ⟨u,v,rfl,rfl,hc⟩:=he.single
   obtain ⟨x,y,rfl,rfl,hb⟩:=hc
   simp [jiB,hu,run_equalIn_int w d t _ _ _ _ hu,hb]
  ·rename_i hu
   simp at h;subst h
   obtain ⟨u,v,rfl,rfl,hc⟩:=he.single
   obtain ⟨x,y,rfl,rfl,hb⟩:=hc
   simp [jiB,hu,run_equalIn_bool' w d t _ _ hu,hb]
  ·rename_i hu
   simp at h;subst h
   obtain ⟨u,v,rfl,rfl,hc⟩:=he.single
   obtain ⟨x,y,rfl,rfl,hb⟩:=hc
   simp [jiB,hu,run_equalIn_string w d t _ _ hu,hb]
  ·rename_i fs hu
   split at h
   ·simp at h
   rename_i hst
   have hf:P.fieldsOf t=fs:=by simp [Program.fieldsOf,hu]
   have hval:∀ us:I O,jiB P t us = .agg us.toArray:=fun us=>by simp [jiB,hu]
   rw [hval,hval,run_equalIn_agg w d t _ _ (by rw [hf];exact hu) (by simpa using hst),hf]
   have key:∀ (fl:I Field) (n:H) (ks:I Ty),jcj P (j8W P k) n fl=D ks→∀ b,n≤us.length→n≤vs.length→j3h ks (us.drop n) (vs.drop n) b→
     (ñ d us.toArray vs.toArray fl).run P w = .ok b w:=by
    intro fl
    induction fl with
    | nil=>
     intro n ks hk b hnu hnv hc
     simp [jcj] at hk;subst hk
     have hl:=hc.length
     have:us.drop n=[]:=ka hl.1
     have h':vs.drop n=[]:=ka hl.2
     rw [this,h'] at hc
     simp [j3h] at hc;subst hc
     rfl
    | cons x fl ih=>
     intro n ks hk b hnu hnv hc
     simp only [jcj,ji,bne_iff_ne,ne_eq,jq] at hk
     split at hk
     ·rename_i hx
      split at hk
      ·rename_i k1 hk1
       split at hk
       ·rename_i hsz
        split at hk
        ·rename_i k2 hk2
         simp at hk;subst hk
         obtain ⟨b1,b2,hc1,hc2,hb⟩:=hc.split
         have hlen:=hc.length
         simp only [qz,jo] at hlen
         cases hi:P.info? x.type with
         | none=>simp [hi] at hsz
         | some i=>
          simp only [hi,kz,jb] at hsz
          have hshape:∃ dd,P.underlying x.type=D dd∧((∃ fs,dd = .struct fs)∨((∀ fs,dd ≠ .struct fs)∧(∀ m e,dd ≠ .array m e)∧k1.length=1)):=by
           cases k with
           | zero=>simp [j8W] at hk1
           | succ k=>
            unfold j8W at hk1
            split at hk1
            ·rename_i hu';simp at hk1;subst hk1;exact ⟨_,hu',.inr ⟨smp_,smp_,rfl⟩⟩
            ·rename_i hu';simp at hk1;subst hk1;exact ⟨_,hu',.inr ⟨smp_,smp_,rfl⟩⟩
            ·rename_i hu';simp at hk1;subst hk1;exact ⟨_,hu',.inr ⟨smp_,smp_,rfl⟩⟩
            ·rename_i hu';exact ⟨_,hu',.inl ⟨_,rfl⟩⟩
            ·simp at hk1
          obtain ⟨dd,hdd,hsh⟩:=hshape
          have hp1:=jqX (P:=P) (w:=w) (us:=us) (o:=n) hi hsz hdd omg_ hsh
          have hp2:=jqX (P:=P) (w:=w) (us:=vs) (o:=n) hi hsz hdd omg_ hsh
          have hrec:=jej P w k x.type k1 hk1 d omg_ _ _ b1 hc1
          simp only [ñ]
          rw [if_pos hx.1]
          simp only [Z,hx.2,hp1,W,hp2,hrec,Ø]
          cases b1
          ·simp [hb]
          ·simp only [jk,qf,zd]
           rw [hb,vz]
           refine ih (n+k1.length) k2 hk2 b2 omg_ omg_ ?_
           rw [←â,←â]
           exact hc2
        ·simp at hk
       ·simp at hk
      ·simp at hk
     ·simp at hk
   exact key fs.toList 0 ks h b omg_ omg_ (by simpa using he)
  ·simp at h
termination_by k=>k
section
variable {S:j0e} {w:À} {γ:H→O} {bx:H→BS}
theorem jxH {t t':Ty} {x:t.den} {y:t'.den} {b:X} {u v:O} (h:eqT ⟨t,x⟩ ⟨t',y⟩=D b) (hx:Rep S w t x [u]) (hy:Rep S w t' y [v]) (ht:t'=t):jt7 t u v b:=by
 subst ht
 cases t' with
 | int k=>
  simp [eqT] at h
  exact ⟨x,y,j8k hx,j8k hy,h.symm⟩
 | bool=>
  simp [eqT] at h
  exact ⟨x,y,jma hx,jma hy,h.symm⟩
 | str=>
  simp [eqT] at h
  exact ⟨x,y,jjl hx,jjl hy,h.symm⟩
 | _=>simp [eqT] at h
theorem jxI (ks:I Ty):∀ {l l':I Leaf} {b:X} {us vs:I O},eqL ks l l'=D b→All2 (j0b S w γ bx) l us→All2 (j0b S w γ bx) l' vs→j3h ks us vs b:=by
 induction ks with
 | nil=>
  intro l l' b us vs h h1 h2
  cases l with
  | cons _ _=>simp [eqL] at h
  | nil=>
   cases l' with
   | cons _ _=>simp [eqL] at h
   | nil=>
    cases us with
    | cons _ _=>exact h1.elim
    | nil=>cases vs with
     | cons _ _=>exact h2.elim
     | nil=>simp [eqL] at h;simp [j3h,h]
 | cons k ks ih=>
  intro l l' b us vs h h1 h2
  cases l with
  | nil=>simp [eqL] at h
  | cons l0 l=>
   cases l' with
   | nil=>cases l0<;>simp [eqL] at h
   | cons m0 l'=>
    cases us with
    | nil=>exact h1.elim
    | cons u us=>
     cases vs with
     | nil=>exact h2.elim
     | cons v vs=>
      cases l0 with
      | d t x=>
       cases m0 with
       | d t' y=>
        simp only [eqL] at h
        split at h
        ·rename_i hk
         obtain ⟨rfl,rfl⟩:=hk
         split at h
         ·rename_i b1 hb1
          have hc:=jxH hb1 h1.1 h2.1 rfl
          split at h
          ·split at h
           ·simp at h;subst h
            cases us with
            | nil=>cases vs with
             | nil=>exact ⟨b1,U,hc,by simp [j3h],smp_⟩
             | cons _ _=>exact h2.2.elim
            | cons _ _=>exact h1.2.elim
           ·simp at h
          ·split at h
           ·rename_i b2 hb2
            simp at h;subst h
            exact ⟨b1,b2,hc,ih hb2 h1.2 h2.2,rfl⟩
           ·simp at h
         ·simp at h
        ·simp at h
       | _=>simp [eqL] at h
      | _=>simp [eqL] at h
theorem jnH {P:Á} {T:H→F TyI} (hT:j1Q P T) {t:È} {l l':I Leaf} {b:X} {us vs:É O}
  (hne:(jnu (T t)).isEmpty=J) (h:eqL (jnu (T t)) l l'=D b) (h1:All2 (j0b S w γ bx) l us.toList) (h2:All2 (j0b S w γ bx) l' vs.toList) :
  P.eqGuardType P.depth t=J∧(ö 10000 t (.agg us) (.agg vs)).run P w = .ok b w:=by
 cases ht:T t with
 | none=>simp [jnu,ht] at hne
 | some ti=>
  simp only [jnu,ht] at hne h
  have hc:=jxF hT ht hne
  simp only [jxE,ji,jq,qd] at hc
  obtain ⟨⟨hk,hg⟩,hs⟩:=hc
  refine ⟨hg,?_⟩
  have he:=jej P w 12 t _ hk 10000 omg_ us.toList vs.toList b (jxI _ h h1 h2)
  split at hs
  ·rename_i fs hu
   simpa [jiB,hu] using he
  ·simp at hs
end
section
variable {N:NT} {np:H} {S0:j0e} {w0:À} {refs:Refs} {σ:St} {a:Ý} {w:À} {S:j0e} {γ:H→O} {bx:H→BS}
theorem jd1 {k:Ð} {n:(Ty.int k).den} {u:O} (h:j0k S w γ bx (.one (.d (.int k) n)) u):u = .int k n:=j8k (S:=S) (w:=w) h.1
theorem j8F {n:Ty.bool.den} {u:O} (h:j0k S w γ bx (.one (.d .bool n)) u):u = .bool n:=jma (S:=S) (w:=w) h.1
theorem jt8 {n:Ty.str.den} {u:O} (h:j0k S w γ bx (.one (.d .str n)) u):u = .string n:=jjl (S:=S) (w:=w) h.1
theorem jvC {P:Á} {T:H→F TyI} (hT:j1Q P T) {op:å} {t:È} {x y:Í} {c c':Cel} {l:Leaf} {u v:O}
  (h:binC (T t) op c c'=D (U,l)) (hc:j0k S w γ bx c u) (hc':j0k S w γ bx c' v) :
  ∃ z,(do eqGuard op t x y u v;binOp op t u v:Sem O).run P w = .ok z w∧j0b S w γ bx l z∧One z:=by
 unfold binC at h
 split at h
 ·rename_i k p k' q
  have hu:=jd1 hc
  have hv:=jd1 hc'
  subst hu hv
  split at h
  ·rename_i hk
   subst hk
   obtain ⟨z,hz,hl,h1⟩:=jvB (P:=P) (w:=w) (S:=S) (γ:=γ) (bx:=bx) t h
   exact ⟨z,by simp only [Z,jeh,W,hz],hl,h1⟩
  ·split at h
   ·split at h
    ·rename_i h0
     simp only [jb,jf,qm] at h
     subst h
     exact ⟨_,by simp only [Z,jeh,W,jt6 t (by simpa using h0)],rfl,rfl⟩
    ·simp at h
   ·simp at h
 ·rename_i p q
  have hu:=j8F hc
  have hv:=j8F hc'
  subst hu hv
  split at h
  ·rename_i hb
   have hub:P.underlying t=D .bool:=by
    unfold jwI at hb
    split at hb
    ·rename_i ti hti
     obtain ⟨i,d,hi,hd,_,_,_,_,hh⟩:=j4D hT hti
     have:=(hh _ (by simpa using hb)).2.2
     cases d<;>simp_all [j7y,Ty.agg]
    ·simp at hb
   split at h
   ·simp only [jb,jf,qm] at h
    subst h
    refine ⟨.bool (p==q),?_,rfl,rfl⟩
    simp only [Z,jdU,W,binOp]
    simp only [Op.equal,ò,run_equalIn_bool' w 9999 t p q hub,W,Â]
   ·simp only [jb,jf,qm] at h
    subst h
    refine ⟨.bool (!(p==q)),?_,rfl,rfl⟩
    simp only [Z,jdU,W,binOp]
    simp only [Op.equal,ò,run_equalIn_bool' w 9999 t p q hub,W,Â]
   ·simp at h
  ·simp at h
 ·rename_i p q
  have hu:=jt8 hc
  have hv:=jt8 hc'
  subst hu hv
  split at h
  ·simp only [jb,jf,qm] at h
   subst h
   exact ⟨_,by simp only [Z,jei,W,binOp,ó,Â],rfl,rfl⟩
  ·simp only [jb,jf,qm] at h
   subst h
   exact ⟨_,by simp only [Z,jei,W,binOp,ó,Â],rfl,rfl⟩
  ·simp at h
 ·rename_i p q
  obtain ⟨us,rfl,h1,_⟩:=hc
  obtain ⟨vs,rfl,h2,_⟩:=hc'
  split at h
  ·simp at h
  rename_i hne
  have hne:(jnu (T t)).isEmpty=false:=by simpa using hne
  split at h
  ·split at h
   ·rename_i b hb
    simp only [jb,jf,qm] at h
    subst h
    obtain ⟨hg,he⟩:=jnH hT hne hb h1 h2
    exact ⟨_,by simp only [Z,run_eqGuard_agg w .eql t x y us vs hg,W,run_eql_struct,he],rfl,rfl⟩
   ·simp at h
  ·split at h
   ·rename_i b hb
    simp only [jb,jf,qm] at h
    subst h
    obtain ⟨hg,he⟩:=jnH hT hne hb h1 h2
    exact ⟨_,by simp only [Z,run_eqGuard_agg w .neq t x y us vs hg,W,run_neq_struct,he],rfl,rfl⟩
   ·simp at h
  ·simp at h
 ·simp at h
theorem jxJ {P:Á} {op:UnOp} {c:Cel} {l:Leaf} {u:O} (h:unC op c=D l) (hc:j0k S w γ bx c u) :
  ∃ z,(ï op u).run P w = .ok z w∧j0b S w γ bx l z∧One z:=by
 unfold unC at h
 split at h
 ·have hu:=j8F hc
  subst hu
  split at h
  ·simp at h;subst h;exact ⟨_,by simp [ï],rfl,rfl⟩
  ·simp at h
 ·have hu:=jd1 hc
  subst hu
  split at h
  ·simp at h;subst h;exact ⟨_,by simp [ï,à],rfl,rfl⟩
  ·simp at h
 ·simp at h
theorem jxK {P:Á} {cs:I Cel} {l:Leaf} {us:I O} {ts:É È} {ty:È} (h:minC cs=D l) (hc:All2 (j0k S w γ bx) cs us) :
  ∃ z,(ë ts ty us.toArray).run P w = .ok z w∧j0b S w γ bx l z∧One z:=by
 unfold minC at h
 split at h
 ·rename_i k p k' q
  match us,hc with
  | [u,v],⟨h1,h2,_⟩=>
   have hu:=jd1 h1
   have hv:=jd1 h2
   subst hu hv
   split at h
   ·simp at h;subst h
    exact ⟨_,by simp [ë,Builtin.min2],rfl,rfl⟩
   ·simp at h
 ·simp at h
theorem jxL {P:Á} {cs:I Cel} {l:Leaf} {us:I O} {ts:É È} {ty:È} (h:maxC cs=D l) (hc:All2 (j0k S w γ bx) cs us) :
  ∃ z,(ì ts ty us.toArray).run P w = .ok z w∧j0b S w γ bx l z∧One z:=by
 unfold maxC at h
 split at h
 ·rename_i k p k' q
  match us,hc with
  | [u,v],⟨h1,h2,_⟩=>
   have hu:=jd1 h1
   have hv:=jd1 h2
   subst hu hv
   split at h
   ·simp at h;subst h
    exact ⟨_,by simp [ì,Builtin.max2],rfl,rfl⟩
   ·simp at h
 ·simp at h
theorem j6b:∀ (t:Ty) (v:t.den) (cs:I O),Rep S w t v cs→All2 (fun x z=>Rep S w x.t x.v [z]) (scat t v) cs
 | .int k,v,cs,h=>by rw [h];exact ⟨rfl,trivial⟩
 | .bool,v,cs,h=>by rw [h];exact ⟨rfl,trivial⟩
 | .str,v,cs,h=>by rw [h];exact ⟨rfl,trivial⟩
 | .unit,v,cs,h=>by rw [h];exact trivial
 | .wrap a,v,cs,h=>j6b a v cs h
 | .pair a b,v,cs,⟨c1,c2,e,h1,h2⟩=>by rw [e];exact (j6b a v.1 c1 h1).append (j6b b v.2 c2 h2)
 | .list a,v,cs,h=>by
  obtain ⟨ad,cap,e,h'⟩:=h
  subst e
  exact ⟨⟨ad,cap,rfl,h'⟩,trivial⟩
 | .arr n a,v,cs,⟨hn,css,ha,e⟩=>by
  have key:∀ (xs:I a.den) (css:I (I O)),All2 (fun x c=>Rep S w a x c) xs css→
    All2 (fun x z=>Rep S w x.t x.v [z]) (xs.flatMap (scat a)) css.flatten:=by
   intro xs
   induction xs with
   | nil=>intro css h;cases css with | nil=>exact trivial | cons _ _=>exact h.elim
   | cons x xs ih=>
    intro css h
    cases css with
    | nil=>exact h.elim
    | cons c css=>exact (j6b a x c h.1).append (ih css h.2)
  have hw:∀ l:I a.den,(Ò l.length).flatMap (fun i=>scat a (l.getD i a.dflt))=l.flatMap (scat a):=by
   intro l
   induction l with
   | nil=>rfl
   | cons x l ih=>
    rw [jp,List.range_succ_eq_map,yp,List.flatMap_map]
    simp only [yp]
    congr 1
  have hm:∀ (l:I a.den) (m:H),l.length=m→(Ò m).flatMap (fun i=>scat a (l.getD i a.dflt))=l.flatMap (scat a):=by
   intro l m hl;subst hl;exact hw l
  have he:scat (.arr n a) v=List.flatMap (scat a) v:=hm v n hn
  rw [e,he]
  exact key v css ha
theorem j7z:∀ {xs:I TV} {cs:I O},All2 (fun x z=>Rep S w x.t x.v [z]) xs cs→All2 (j0b S w γ bx) (xs.map TV.leaf) cs:=
 fun h=>All2.map_left.2 h
theorem jhB (t:Ty) (v:t.den) (cs:I O) (u:O) (h:Rep S w t v cs) (hu:(t.agg=U∨∃ n a,t = .arr n a)→u = .agg cs.toArray) (hu':t.agg=J→(∀ n a,t ≠ .arr n a)→cs=[u]) :
  j0k S w γ bx (jbc t v) u:=by
 cases t with
 | int k=>have:=hu' rfl smp_;subst this;exact ⟨h,fun _=>Rep.one _ _ _ h u smp_⟩
 | bool=>have:=hu' rfl smp_;subst this;exact ⟨h,fun _=>Rep.one _ _ _ h u smp_⟩
 | str=>have:=hu' rfl smp_;subst this;exact ⟨h,fun _=>Rep.one _ _ _ h u smp_⟩
 | list a=>have:=hu' rfl smp_;subst this;exact ⟨h,fun _=>Rep.one _ _ _ h u smp_⟩
 | unit=>have:=hu (.inl rfl);subst this;exact ⟨_,rfl,by simpa using j7z (j6b _ v cs h),by simpa using Rep.one _ _ _ h⟩
 | wrap a=>have:=hu (.inl rfl);subst this;exact ⟨_,rfl,by simpa using j7z (j6b _ v cs h),by simpa using Rep.one _ _ _ h⟩
 | pair a b=>have:=hu (.inl rfl);subst this;exact ⟨_,rfl,by simpa using j7z (j6b _ v cs h),by simpa using Rep.one _ _ _ h⟩
 | arr n a=>have:=hu (.inr ⟨n,a,rfl⟩);subst this;exact ⟨_,rfl,by simpa using h⟩
theorem jnI {g o:H} {cs:I O} (h:∀ j v,cs[j]? = D v→w.cell? ⟨g,o+j,B⟩=D v) (P:Á) :
  (loadCells ⟨g,o,B⟩ cs.length).run P w = .ok cs.toArray w:=
 run_loadCells_list (P:=P) w ⟨g,o,B⟩ cs (fun j v hv=>by rw [Î];exact h j v hv)
theorem jrU {P:Á} {T:H→F TyI} (hT:j1Q P T) {t:È} {ti:TyI} (ht:T t=D ti) {ls:I Leaf} {c:Cel} (h:jkK ti ls=D c)
  {g o:H} {cs:I O} (hr:All2 (j0b S w γ bx) ls cs) (h1:∀ u∈cs,One u) (hl:∀ j v,cs[j]? = D v→w.cell? ⟨g,o+j,B⟩=D v) :
  ∃ u,(loadVar t ⟨g,o,B⟩).run P w = .ok u w∧j0k S w γ bx c u:=by
 unfold jkK at h
 split at h
 ·rename_i ha
  split at h
  ·rename_i hlen
   simp at h;subst h
   refine ⟨.agg cs.toArray,?_,cs.toArray,rfl,by simpa using hr,by simpa using h1⟩
   have hs:=jnI (w:=w) hl P
   rw [←hr.length,hlen] at hs
   simp only [loadVar,Z,jhz hT ht,ha,W,if_true,j29 hT ht,hs,Â]
  ·simp at h
 ·rename_i ha
  split at h
  ·simp at h;subst h
   match cs,hr with
   | [u],⟨hr,_⟩=>
    refine ⟨u,?_,hr,fun _=>h1 u smp_⟩
    have hcell:=hl 0 u rfl
    simp only [loadVar,Z,jhz hT ht,W,if_neg ha,run_load]
    rw [Nat.add_zero] at hcell
    simp [hcell]
  ·simp at h
end
theorem jfJ {α:Type} {R:α→I O→Prop} {m:H} (hm:∀ x c,R x c→c.length=m) :
  ∀ {xs:I α} {css:I (I O)},All2 R xs css→∀ (i:H) (d:α),i<xs.length→
   ∃ c,css[i]? = D c∧R (xs.getD i d) c∧∀ (j:H) (v:O),c[j]? = D v→css.flatten[i*m+j]? = D v
 | [],_,_,i,d,hi=>by simp at hi
 | x::xs,c::css,h,0,d,_=>⟨c,smp_,by simpa using h.1,fun j v hv=>by
  have hj:j<c.length:=(kb.1 hv).1
  simp [List.getElem?_append_left hj,hv]⟩
 | x::xs,c::css,h,i+1,d,hi=>by
  obtain ⟨c',h1,h2,h3⟩:=jfJ hm h.2 i d (by simpa using hi)
  refine ⟨c',by simpa using h1,by simpa using h2,fun j v hv=> ?_⟩
  have hl:=hm _ _ h.1
  rw [kx,ku (by rw [hl,ve];omega),hl]
  have:(i+1)*m+j-m=i*m+j:=by rw [ve];omega
  rw [this]
  exact h3 j v hv
 | _::_,[],h,_,_,_=>h.elim
section
variable {N:NT} {np:H} {S0:j0e} {w0:À} {refs:Refs} {σ:St} {a:Ý} {w:À} {S:j0e} {γ:H→O}
def RdR (σ:St) (rd:H→BS):Prop:=∀ k,rd k=σ.bx k∨rd k = .gone
theorem RdR.live {rd:H→BS} (h:RdR σ rd) {k:H} {b:Bx} (hk:rd k = .live b):σ.bx k = .live b:=by
 rcases h k with h | h
 ·rw [←h,hk]
 ·rw [h] at hk;simp at hk
theorem RdR.free {rd:H→BS} (h:RdR σ rd) {k:H} (hk:j4B (rd k)=U):σ.bx k = .free:=by
 rcases h k with h | h
 ·rw [←h]
  revert hk
  cases rd k<;>simp [j4B]
 ·rw [h] at hk;simp [j4B] at hk
def NoM (rd:H→BS):Prop:=∀ (k e:H) (a:Ty) (xs:I a.den) (f:X),rd k = .live (.lst e a xs f)→isM e=J
def RdOk (σ:St) (rd:H→BS):Prop:=RdR σ rd∧NoM rd
theorem RdOk.live {rd:H→BS} (h:RdOk σ rd) {k:H} {b:Bx} (hk:rd k = .live b):σ.bx k = .live b:=h.1.live hk
theorem RdOk.free {rd:H→BS} (h:RdOk σ rd) {k:H} (hk:j4B (rd k)=U):σ.bx k = .free:=h.1.free hk
theorem RdOk.nm {rd:H→BS} (h:RdOk σ rd) {k e:H} {a:Ty} {xs:I a.den} {f:X} (hk:rd k = .live (.lst e a xs f)):isM e=false:=h.2 k e a xs f hk
theorem jt9 {rd:H→BS} {k:H} {b:Bx} (h:mskM rd k = .live b):rd k = .live b∧∀ (e:H) (a:Ty) (xs:I a.den) (f:X),b = .lst e a xs f→isM e=false:=by
 unfold mskM at h
 split at h
 ·rename_i e a xs f hk
  split at h
  ·simp at h
  ·rename_i hm
   rw [hk,h]
   refine ⟨rfl,fun e' a' xs' f' hb=> ?_⟩
   simp only [BS.live.injEq] at h
   rw [←h] at hb
   cases hb
   simpa using hm
 ·rename_i hne
  refine ⟨h,fun e a xs f hb=> ?_⟩
  subst hb
  exact absurd h (hne e a xs f)
theorem jta {rd:H→BS} (k:H):mskM rd k=rd k∨mskM rd k = .gone:=by
 unfold mskM
 split
 ·rename_i e a xs f hk
  split
  ·exact .inr rfl
  ·exact .inl hk.symm
 ·exact .inl rfl
theorem jxM (rd:H→BS):NoM (mskM rd):=fun k e a xs f h=>(jt9 h).2 e a xs f rfl
theorem RdR.msk {rd:H→BS} (h:RdR σ rd):RdOk σ (mskM rd):=
 ⟨fun k=>(jta (rd:=rd) k).elim (fun e=>(h k).imp (e.trans ·) (e.trans ·)) .inr,jxM rd⟩
theorem jvD (hR:Rel N np S0 w0 refs σ a w S γ) {k e:H} {t:Ty} {xs:I t.den} {frz:X} (hk:σ.bx k = .live (.lst e t xs frz))
  {g cap:H} (hg:γ k = .slice (D ⟨g,0,B⟩) xs.length cap) {i:H} (hi:i<xs.length) :
  ∃ cs,Rep S w t (xs.getD i t.dflt) cs∧∀ (j:H) (v:O),cs[j]? = D v→w.cell? ⟨g,i*t.size+j,B⟩=D v:=by
 obtain ⟨css,hown,ha,_⟩:=jqV hg (hR.box k _ hk)
 obtain ⟨c,h1,h2,h3⟩:=jfJ (fun x c hx=>Rep.length t x c hx) ha i t.dflt hi
 refine ⟨c,h2,fun j v hv=> ?_⟩
 have:=hown.cells (g:=g) (by rw [hg];rfl) (i*t.size+j) v (h3 j v hv)
 rwa [Î,kj] at this
theorem jvE (hR:Rel N np S0 w0 refs σ a w S γ) {k n:H} {t:Ty} {xs:I t.den} (hk:σ.bx k = .live (.arr n t xs))
  {g:H} (hg:γ k = .pointer (D ⟨g,0,B⟩)) {i:H} (hi:i<n) :
  ∃ cs,Rep S w t (xs.getD i t.dflt) cs∧∀ (j:H) (v:O),cs[j]? = D v→w.cell? ⟨g,i*t.size+j,B⟩=D v:=by
 obtain ⟨g',cur,e,hg',hh,⟨hn,css,ha,he⟩,_⟩:=hR.box k _ hk
 rw [hg] at hg'
 simp at hg'
 subst hg'
 obtain ⟨c,h1,h2,h3⟩:=jfJ (fun x c hx=>Rep.length t x c hx) ha i t.dflt (by rw [hn];exact hi)
 refine ⟨c,h2,fun j v hv=> ?_⟩
 have:=h3 j v hv
 rw [←he] at this
 rw [cell_of_row w g _ cur e (0,0) hh]
 simpa using this
theorem j7A {l:I O} {c n j:H} {v:O} (h:((l.drop c).take n)[j]? = D v):l[c+j]? = D v:=by
 rw [qy] at h
 split at h
 ·rwa [Ö] at h
 ·simp at h
theorem j9N {l:I O} {c n:H} {P:O→Prop} (h:∀ u∈l,P u):∀ u∈(l.drop c).take n,P u:=
 fun u hu=>h u (zk (qp hu))
theorem jnJ {P:Á} {E:Env} (hT:j1Q P E.T) (hR:Rel N np S0 w0 refs σ a w S γ) {rd:H→BS} (hrd:RdOk σ rd) {t:È} {ti:TyI} (ht:E.T t=D ti)
  {x:Leaf} {c:Cel} {u:O} (h:jhw rd ti x=D c) (hx:j0b S w γ σ.bx x u) :
  ∃ z,(Þ t u).run P w = .ok z w∧j0k S w γ σ.bx c z:=by
 have fin:∀ (g o:H) (ls:I Leaf) (cs:I O),u = .pointer (D ⟨g,o,B⟩)→jkK ti ls=D c→All2 (j0b S w γ σ.bx) ls cs→(∀ u∈cs,One u)→
   (∀ (j:H) (v:O),cs[j]? = D v→w.cell? ⟨g,o+j,B⟩=D v)→∃ z,(Þ t u).run P w = .ok z w∧j0k S w γ σ.bx c z:=by
  intro g o ls cs hu hm hr h1 hl
  obtain ⟨z,hz,hc⟩:=jrU (P:=P) hT ht hm hr h1 hl
  exact ⟨z,by subst hu;simp only [Þ,Z,Ô,Â,W,hz],hc⟩
 cases x with
 | bp k o=>
  obtain ⟨_,_,hb⟩:=hx
  simp only [jhw] at h
  split at h
  ·rename_i ls frz hk
   have hk:=hrd.live hk
   obtain ⟨g,hg,hu⟩:=hb _ hk
   obtain ⟨g',cur,e,hg',hh,ha,h1,_⟩:=hR.box k _ hk
   rw [hg] at hg';simp at hg';subst hg'
   refine fin g o _ (((cur.toList.take ls.length).drop o).take ti.size) hu h ((ha.drop o).take ti.size) (j9N h1) (fun j v hv=> ?_)
   rw [cell_of_row w g _ cur e (0,0) hh]
   have hv:=j7A hv
   rw [qy] at hv
   split at hv
   ·simpa using hv
   ·simp at hv
  ·rename_i n el xs hk
   split at h
   ·rename_i hc
    obtain ⟨rfl,hty⟩:=hc
    simp at h;subst h
    have hk:=hrd.live hk
    obtain ⟨g,hg,hu⟩:=hb _ hk
    obtain ⟨g',cur,e,hg',hh,hrep,_⟩:=hR.box k _ hk
    rw [hg] at hg';simp at hg';subst hg'
    obtain ⟨hud,_,_⟩:=jhA hT ht hty
    obtain ⟨i,d,hi,hd,hs,_,hag,_,hh'⟩:=j4D hT ht
    have hsz:cur.size=ti.size:=by
     have:=Rep.length _ _ _ hrep
     rw [j8X hT ht hty] at this
     simpa using this
    refine ⟨.agg cur,?_,cur,rfl,hrep⟩
    subst hu
    have:=run_loadVar_row (P:=P) w g e t cur (0,0) d hh hd (by rw [hud] at hd;cases hd;rfl) (by rw [hi];simp [hs,hsz])
    simp only [Þ,Z,Ô,Â,W,this]
   ·simp at h
  ·simp at h
 | ep k i o=>
  obtain ⟨_,_,hb⟩:=hx
  simp only [jhw] at h
  split at h
  ·rename_i e el xs frz hk
   have hk:=hrd.live hk
   obtain ⟨_,hi,g,cap,hg,hu⟩:=hb _ hk
   obtain ⟨cs,hrep,hcell⟩:=jvD hR hk hg hi
   refine fin g _ _ ((cs.drop o).take ti.size) hu h (((j7z (j6b el _ cs hrep)).drop o).take ti.size) (j9N (Rep.one _ _ _ hrep)) (fun j v hv=> ?_)
   rw [Ï]
   exact hcell _ v (j7A hv)
  ·rename_i n el xs hk
   have hk:=hrd.live hk
   obtain ⟨hi,g,hg,hu⟩:=hb _ hk
   obtain ⟨cs,hrep,hcell⟩:=jvE hR hk hg hi
   refine fin g _ _ ((cs.drop o).take ti.size) hu h (((j7z (j6b el _ cs hrep)).drop o).take ti.size) (j9N (Rep.one _ _ _ hrep)) (fun j v hv=> ?_)
   rw [Ï]
   exact hcell _ v (j7A hv)
  ·rename_i e el n ls hk
   split at h
   ·have hk:=hrd.live hk
    obtain ⟨_,hi,g,cap,hg,hu⟩:=hb _ hk
    obtain ⟨_,⟨cs,hown,ha,h1⟩,_⟩:=hR.box k _ hk
    refine fin g _ _ ((cs.drop (i*el.size+o)).take ti.size) hu h ((ha.drop _).take ti.size) (j9N h1) (fun j v hv=> ?_)
    have:=hown.cells (g:=g) (by rw [hg];rfl) _ v (j7A hv)
    rwa [Î,kj] at this
   ·simp at h
  ·simp at h
 | ip ls=>
  obtain ⟨g,o,cs,hu,ha,hl⟩:=hx
  simp only [jhw] at h
  refine fin g o _ (cs.take ti.size) hu h ((j7z ha).take ti.size) (fun u hu=> ?_) (fun j v hv=> ?_)
  ·obtain ⟨x,_,hx⟩:=ha.mem_right u (qp hu)
   exact Rep.one _ _ _ hx u smp_
  ·rw [qy] at hv
   split at hv
   ·exact (hl j v hv).2
   ·simp at hv
 | _=>simp [jhw] at h
theorem jkL {P:Á} {T:H→F TyI} (hT:j1Q P T) {f:Field} {tf:TyI} (hf:T f.type=D tf) (hs:0<tf.size) (g o:H) :
  (fieldPlace ⟨g,o,B⟩ f).run P w = .ok ⟨g,o+f.offset,B⟩ w:=by
 have h0:tf.size≠0:=omg_
 simp only [fieldPlace,Z,j29 hT hf,W,Ø,if_neg h0,Â,Î]
theorem jck {rd:H→BS} {k:H} (h:isLive (rd k)=U):∃ b,rd k = .live b:=by
 revert h
 cases rd k<;>simp [isLive]
theorem jrV {P:Á} {E:Env} (hT:j1Q P E.T) {rd:H→BS} (hrd:RdOk σ rd) {t:È} {ti:TyI} (ht:E.T t=D ti) {i:H} {x l:Leaf} {u:O}
  (h:jdS rd ti i x=D l) (hx:j0b S w γ σ.bx x u) :
  ∃ z,(ã t u i).run P w = .ok z w∧j0b S w γ σ.bx l z∧One z:=by
 have fin:∀ (g o:H) (f:H×H),u = .pointer (D ⟨g,o,B⟩)→ti.flds[i]? = D f→
   (ã t u i).run P w = .ok (.pointer (D ⟨g,o+f.1,B⟩)) w:=by
  intro g o f hu hf
  obtain ⟨fs,hd,fl,hfl,hoff,hty,tf,htf,hs⟩:=jt4 hT ht hf
  subst hu
  simp only [ã,Z,run_underlying hd,W,hfl,Ô,Â,jkL hT (hty▸htf) hs,hoff]
 cases x with
 | bp k o=>
  obtain ⟨hfr,_,hb⟩:=hx
  simp only [jdS] at h
  split at h
  ·rename_i f hf
   split at h
   ·rename_i hl
    simp at h;subst h
    obtain ⟨b,hk⟩:=jck hl
    obtain ⟨g,hg,hu⟩:=hb b (hrd.live hk)
    exact ⟨_,fin g o f hu hf,⟨hfr,rfl,fun b' hb'=>by obtain ⟨g',hg',hu'⟩:=hb b' hb';rw [hu] at hu';simp at hu';subst hu';exact ⟨g,hg',rfl⟩⟩,rfl⟩
   ·simp at h
  ·simp at h
 | ep k j o=>
  obtain ⟨hfr,_,hb⟩:=hx
  simp only [jdS] at h
  split at h
  ·rename_i f hf
   split at h
   ·rename_i hl
    simp at h;subst h
    obtain ⟨b,hk⟩:=jck hl
    have h0:=hb b (hrd.live hk)
    have hbk:=hrd.live hk
    cases b with
    | cell _ _=>exact h0.elim
    | lst e el xs frz=>
     obtain ⟨hnm,hi,g,cap,hg,hu⟩:=h0
     refine ⟨_,fin g _ f hu hf,⟨hfr,rfl,fun b' hb'=> ?_⟩,rfl⟩
     rw [hbk] at hb';cases hb'
     exact ⟨hnm,hi,g,cap,hg,by rw [Ï]⟩
    | arr n el xs=>
     obtain ⟨hi,g,hg,hu⟩:=h0
     refine ⟨_,fin g _ f hu hf,⟨hfr,rfl,fun b' hb'=> ?_⟩,rfl⟩
     rw [hbk] at hb';cases hb'
     exact ⟨hi,g,hg,by rw [Ï]⟩
    | row e el n ls=>
     obtain ⟨hnm,hi,g,cap,hg,hu⟩:=h0
     refine ⟨_,fin g _ f hu hf,⟨hfr,rfl,fun b' hb'=> ?_⟩,rfl⟩
     rw [hbk] at hb';cases hb'
     exact ⟨hnm,hi,g,cap,hg,by rw [Ï]⟩
   ·simp at h
  ·simp at h
 | ip ls=>
  obtain ⟨g,o,cs,hu,ha,hl⟩:=hx
  simp only [jdS] at h
  split at h
  ·rename_i f hf
   simp at h;subst h
   refine ⟨_,fin g o f hu hf,⟨g,o+f.1,cs.drop f.1,rfl,ha.drop f.1,fun j v hv=> ?_⟩,rfl⟩
   rw [Ö] at hv
   have:=hl _ v hv
   rwa [←Ï] at this
  ·simp at h
 | _=>simp [jdS] at h
theorem jek {i:Å} {n:H}:inR i n=U↔0≤i∧i<n:=by simp [inR]
theorem jd2 {P:Á} {T:H→F TyI} (hT:j1Q P T) {t:È} {ti:TyI} (ht:T t=D ti) {a':Ty} {k:Ð} {i:Å} {len cap g o:H} (hty:ti.ty=D (.list a')) (hi:0≤i∧i<len) :
  (Ó t (.slice (D ⟨g,o,B⟩) len cap) (.int k i)).run P w = .ok (.pointer (D ⟨g,o+i.toNat*a'.size,B⟩)) w:=by
 obtain ⟨hd,_,te,hte,htea⟩:=j51 hT ht hty
 have hs:=j8X hT hte htea
 simp only [Ó,asIntOf,Z,Â,W,run_underlying hd,Ø,if_pos hi,j29 hT hte,hs,Î]
theorem jii {P:Á} {T:H→F TyI} (hT:j1Q P T) {t:È} {ti:TyI} (ht:T t=D ti) {n:H} {a':Ty} {k:Ð} {i:Å} {g o:H} (hty:ti.ty=D (.arr n a')) (hi:0≤i∧i<n) :
  (Ó t (.pointer (D ⟨g,o,B⟩)) (.int k i)).run P w = .ok (.pointer (D ⟨g,o+i.toNat*a'.size,B⟩)) w:=by
 obtain ⟨hd,_,te,hte,htea⟩:=jhA hT ht hty
 have hs:=j8X hT hte htea
 simp only [Ó,asIntOf,Z,Â,W,run_underlying hd,Ô,Ø,if_pos hi,j29 hT hte,hs,Î]
theorem jhC {t:F Ty} (h:jbd t=U):∃ a,t=D (.list a):=by
 unfold jbd at h
 split at h
 ·exact ⟨_,rfl⟩
 ·simp at h
theorem jrW {P:Á} {E:Env} (hT:j1Q P E.T) (hR:Rel N np S0 w0 refs σ a w S γ) {rd:H→BS} (hrd:RdOk σ rd) {t:È} {ti:TyI} (ht:E.T t=D ti)
  {x y l:Leaf} {u v:O} (h:jgv rd ti x y=D (U,l)) (hx:j0b S w γ σ.bx x u) (hy:j0b S w γ σ.bx y v) :
  ∃ z,(Ó t u v).run P w = .ok z w∧j0b S w γ σ.bx l z∧One z:=by
 unfold jgv at h
 split at h
 ·rename_i k kd i
  have hv:v = .int kd i:=j8k (S:=S) (w:=w) hy
  subst hv
  split at h
  ·rename_i e el xs frz hk
   split at h
   ·rename_i hty
    simp only [jb,jf] at h
    obtain ⟨hi,rfl⟩:=h
    have hi':=jek.1 hi
    have hnm:=hrd.nm hk
    have hk:=hrd.live hk
    have hu:=hx.2.2 _ hk
    obtain ⟨css,hown,_⟩:=j5B hnm (hR.box k _ hk)
    rcases hown.2 with ⟨_,hz⟩ | ⟨g,cap,cur,hg,_,hh,_⟩
    ·omega
    ·rw [hu,hg]
     refine ⟨_,jd2 hT ht hty hi',⟨hx.1,rfl,fun b hb=> ?_⟩,rfl⟩
     rw [hk] at hb;cases hb
     exact ⟨hnm,omg_,g,cap,hg,smp_⟩
   ·simp at h
  ·rename_i e el n ls hk
   split at h
   ·rename_i hty
    simp only [jb,jf] at h
    obtain ⟨hi,rfl⟩:=h
    have hi':=jek.1 hi
    have hk:=hrd.live hk
    have hu:=hx.2.2 _ hk
    obtain ⟨hnm,⟨cs,hown,_,_⟩,_⟩:=hR.box k _ hk
    rcases hown.2 with ⟨_,hz⟩ | ⟨g,cap,cur,hg,_,hh,_⟩
    ·omega
    ·have hj:cond (Ì n 1) 0 (Ã i)=i.toNat:=by
      cases hb:Ì n 1 with
      | true=>have:=zv hb;simp only [jc];omega
      | false=>rfl
     rw [hu,hg,hj]
     refine ⟨_,jd2 hT ht hty hi',⟨hx.1,rfl,fun b hb=> ?_⟩,rfl⟩
     rw [hk] at hb;cases hb
     exact ⟨hnm,omg_,g,cap,hg,smp_⟩
   ·simp at h
  ·simp at h
 ·rename_i el xs kd i
  have hv:v = .int kd i:=j8k (S:=S) (w:=w) hy
  subst hv
  split at h
  ·rename_i hty
   simp only [jb,jf] at h
   obtain ⟨hi,rfl⟩:=h
   have hi':=jek.1 hi
   obtain ⟨ad,cap,hu,hle,hcm,hn,hb⟩:=hx
   simp at hu
   subst hu
   cases ad with
   | none=>have:=hn rfl;omega
   | some b=>
    obtain ⟨hsp,css,ha,hl⟩:=hb b rfl
    obtain ⟨g,o,sp⟩:=b
    have hsp:=hsp (fun e=>by rw [e] at hi';simp at hi';omega)
    simp at hsp;subst hsp
    refine ⟨_,jd2 hT ht hty hi',?_,rfl⟩
    obtain ⟨c,h1,h2,h3⟩:=jfJ (fun x c hx=>Rep.length el x c hx) ha i.toNat el.dflt omg_
    exact ⟨g,_,c,rfl,j6b el _ c h2,fun j v hv=>by rw [Ï];exact hl _ v (h3 j v hv)⟩
  ·simp at h
 ·rename_i k kd i
  have hv:v = .int kd i:=j8k (S:=S) (w:=w) hy
  subst hv
  split at h
  ·rename_i n el xs hk
   split at h
   ·rename_i hty
    simp only [jb,jf] at h
    obtain ⟨hi,rfl⟩:=h
    have hi':=jek.1 hi
    have hk:=hrd.live hk
    obtain ⟨g,hg,hu⟩:=hx.2.2 _ hk
    subst hu
    refine ⟨_,jii hT ht hty hi',⟨hx.1,rfl,fun b hb=> ?_⟩,rfl⟩
    rw [hk] at hb;cases hb
    exact ⟨omg_,g,hg,smp_⟩
   ·simp at h
  ·rename_i ls frz hk
   split at h
   ·rename_i n el hty
    split at h
    ·rename_i hil
     simp only [jb,jf] at h
     obtain ⟨hi,rfl⟩:=h
     have hi':=jek.1 hi
     have hk:=hrd.live hk
     obtain ⟨g,hg,hu⟩:=hx.2.2 _ hk
     subst hu
     obtain ⟨a',ha'⟩:=jhC hil
     cases ha'
     refine ⟨_,jii hT ht hty hi',⟨hx.1,rfl,fun b hb=> ?_⟩,rfl⟩
     exact ⟨g,hg,by simp [Ty.size]⟩
    ·simp at h
   ·simp at h
  ·simp at h
 ·rename_i k j kd i
  have hv:v = .int kd i:=j8k (S:=S) (w:=w) hy
  subst hv
  split at h
  ·rename_i e el xs frz hk
   split at h
   ·rename_i hty
    simp only [jb,jf] at h
    obtain ⟨hi,rfl⟩:=h
    have hi':=jek.1 hi
    have hnm:=hrd.nm hk
    have hk:=hrd.live hk
    obtain ⟨_,hj,ad,cap',hg',hu⟩:=hx.2.2 _ hk
    obtain ⟨css,hown,_⟩:=j5B hnm (hR.box k _ hk)
    rcases hown.2 with ⟨_,hz⟩ | ⟨g,cap,cur,hg,_,hh,hnc,_⟩
    ·omega
    ·rw [hg] at hg'
     simp only [Value.slice.injEq,qm] at hg'
     obtain ⟨rfl,rfl⟩:=hg'
     rw [if_neg (show ¬ cap=j by omega)] at hu
     simp only [kz,Î,kj] at hu
     subst hu
     refine ⟨_,jd2 hT ht hty hi',⟨hx.1,rfl,fun b hb=> ?_⟩,rfl⟩
     rw [hk] at hb;cases hb
     refine ⟨hnm,omg_,g,cap,hg,?_⟩
     simp [ð]
   ·simp at h
  ·simp at h
 ·simp at h
theorem jpx {P:Á} {T:H→F TyI} (hT:j1Q P T) {n:H} {ti:TyI} (hn:T n=D ti) (ht:ti.ty=D .str):P.underlying n=D .string:=by
 obtain ⟨i,d,hi,hd,hs,_,ha,_,h⟩:=j4D hT hn
 have:=(h _ ht).2.2
 cases d<;>simp_all [j7y,Ty.agg]
theorem jtb {P:Á} {E:Env} (hT:j1Q P E.T) {t:H} {ti:TyI} (ht:E.T t=D ti) (hty:ti.ty=D .str) (s:Ë) (kd:Ð) (j:Å) (hj:inR j s.size=U) :
  (á t (.string s) (.int kd j)).run P w = .ok (.int .u8 (j3J s j)) w:=by
 have hd:=jpx hT ht hty
 have hi:=jek.1 hj
 have hlt:j.toNat<s.size:=omg_
 have hlt':j.toNat<s.data.size:=hlt
 have hg:s[j.toNat]? = D s[j.toNat]:=by simp [hlt]
 simp only [á,Z,asIntOf,Â,W,run_underlying hd]
 rw [if_pos hi.1,hg]
 simp only [Â]
 congr 2
 unfold j3J
 have:s.data.getD j.toNat 0=s.data[j.toNat]:=by rw [zr,ju hlt'];rfl
 rw [this];rfl
theorem jvF {P:Á} {E:Env} (hT:j1Q P E.T) {bx:H→BS} {t:È} {ti:TyI} (ht:E.T t=D ti)
  {c c':Cel} {y:Leaf} {u v:O} (h:idxV ti c y=D (U,c')) (hc:j0k S w γ bx c u) (hy:j0b S w γ bx y v) :
  ∃ z,(á t u v).run P w = .ok z w∧j0k S w γ bx c' z:=by
 unfold idxV at h
 split at h
 ·rename_i n el xs kd i
  have hv:v = .int kd i:=j8k (S:=S) (w:=w) hy
  subst hv
  split at h
  ·rename_i hty
   simp only [jb,jf] at h
   obtain ⟨hi,rfl⟩:=h
   have hi':=jek.1 hi
   obtain ⟨cs,rfl,hn,css,ha,he⟩:=hc
   obtain ⟨hd,hpos,te,hte,htea⟩:=jhA hT ht hty
   have hsz:=j8X hT hte htea
   obtain ⟨c,h1,h2,h3⟩:=jfJ (fun x c hx=>Rep.length el x c hx) ha i.toNat el.dflt omg_
   have hcl:=Rep.length el _ c h2
   have hex:∀ j,j<te.size→cs.toList[i.toNat*el.size+j]? = c[j]? := by
    intro j hj
    rw [he]
    have:c[j]? = D c[j]:=jv omg_
    rw [this]
    exact h3 j _ this
   obtain ⟨ii,dd,hii,hdd,_,_,hag,_,hd'⟩:=j4D hT hte
   have hpart:∃ z,(part ti.elem cs (i.toNat*te.size)).run P w = .ok z w∧j0k S w γ bx (jbc el (xs.getD i.toNat el.dflt)) z:=by
    have hdesc:=(hd' _ htea).2.2
    rw [←hsz]
    by_cases hagg:te.agg=U
    ·refine ⟨.agg (cs.extract (i.toNat*el.size) (i.toNat*el.size+te.size)),?_,?_⟩
     ·simp only [part,Z,jhz hT hte,hagg,W,if_true,j29 hT hte,Â]
     ·have hcc:(cs.extract (i.toNat*el.size) (i.toNat*el.size+te.size))=c.toArray:=by
       apply q9
       simp only [Array.toList_extract,List.extract_eq_take_drop]
       apply zp
       intro j
       rw [qy]
       split
       ·rename_i hj
        rw [Ö]
        exact hex j omg_
       ·rename_i hj
        exact (qk omg_).symm
      rw [hcc]
      refine jhB el _ c _ h2 (fun _=>rfl) (fun hf hna=> ?_)
      exfalso
      rw [hagg] at hag
      cases dd with
      | struct fs=>simp [j7y] at hdesc;rw [hdesc] at hf;simp at hf
      | array m e=>cases el<;>simp [j7y] at hdesc;exact hna _ _ rfl
      | _=>simp [aggD] at hag
    ·have hf:te.agg=false:=by simpa using hagg
     have hel:el.agg=J∧∀ n a,el ≠ .arr n a:=by
      rw [hf] at hag
      cases dd with
      | struct fs=>simp [aggD] at hag
      | array m e=>simp [aggD] at hag
      | int k=>simp [j7y] at hdesc;subst hdesc;exact ⟨rfl,smp_⟩
      | bool=>simp [j7y] at hdesc;subst hdesc;exact ⟨rfl,smp_⟩
      | string=>simp [j7y] at hdesc;subst hdesc;exact ⟨rfl,smp_⟩
      | slice e=>cases el<;>simp [j7y] at hdesc;exact ⟨rfl,smp_⟩
      | _=>simp [j7y] at hdesc
     have hone:∃ z,c=[z]:=by
      have:el.size=1:=by
       cases el<;>first | rfl | (exfalso;simp [Ty.agg] at hel)
      rw [this] at hcl
      exact List.length_eq_one_iff.1 hcl
     obtain ⟨z,rfl⟩:=hone
     have hz:cs[i.toNat*el.size]? = D z:=by
      have:=hex 0 omg_
      simpa using this
     refine ⟨z,?_,jhB el _ [z] z h2 (fun ho=> ?_) (fun _ _=>rfl)⟩
     ·simp only [part,Z,jhz hT hte,hf,W,qf,zd,hz,Â]
     ·rcases ho with ho | ⟨n,a,ho⟩
      ·rw [hel.1] at ho;simp at ho
      ·exact absurd ho (hel.2 _ _)
   obtain ⟨z,hz,hcz⟩:=hpart
   refine ⟨z,?_,hcz⟩
   simp only [á,asIntOf,Z,Â,W,run_underlying hd,Ø,if_pos hi',j29 hT hte,hz]
  ·simp at h
 ·rename_i s kd i
  have hv:v = .int kd i:=j8k (S:=S) (w:=w) hy
  subst hv
  split at h
  ·rename_i hty
   simp only [jb,jf] at h
   obtain ⟨hi,rfl⟩:=h
   have hu:u = .string s:=jjl (S:=S) (w:=w) hc.1
   subst hu
   exact ⟨_,jtb hT ht hty s kd i hi,rfl,fun _=>rfl⟩
  ·simp at h
 ·simp at h
theorem jvG {P:Á} {E:Env} (hT:j1Q P E.T) (hR:Rel N np S0 w0 refs σ a w S γ) {rd:H→BS} (hrd:RdOk σ rd) {t ty:È} {ti:TyI} (ht:E.T t=D ti) {x l:Leaf} {u:O}
  (h:lenC rd ti.ty x=D l) (hx:j0b S w γ σ.bx x u):∃ z,(ß #[t] ty #[u]).run P w = .ok z w∧j0b S w γ σ.bx l z∧One z:=by
 have sl:∀ (ad:F Addr) (n c:H),jbd ti.ty=U→(ß #[t] ty #[.slice ad n c]).run P w = .ok (.int .i64 n) w:=by
  intro ad n c hl
  obtain ⟨a',hty⟩:=jhC hl
  obtain ⟨hd,_⟩:=j51 hT ht hty
  simp [ß,run_underlying hd,goInt]
 unfold lenC at h
 split at h
 ·split at h
  ·rename_i hl
   simp at h;subst h
   have hu:u = .slice B 0 0:=hx
   subst hu
   exact ⟨_,sl B 0 0 hl,rfl,rfl⟩
  ·simp at h
 ·rename_i k
  split at h
  ·rename_i e el xs frz hk
   split at h
   ·rename_i hl
    simp at h;subst h
    have hnm:=hrd.nm hk
    have hk:=hrd.live hk
    have hu:=hx.2.2 _ hk
    obtain ⟨css,hown,_⟩:=j5B hnm (hR.box k _ hk)
    rcases hown.2 with ⟨hg,hz⟩ | ⟨g,cap,cur,hg,_⟩
    ·rw [hu,hg,hz];exact ⟨_,sl _ _ _ hl,rfl,rfl⟩
    ·rw [hu,hg];exact ⟨_,sl _ _ _ hl,rfl,rfl⟩
   ·simp at h
  ·rename_i e el n ls hk
   split at h
   ·rename_i hl
    simp at h;subst h
    have hk:=hrd.live hk
    have hu:=hx.2.2 _ hk
    obtain ⟨hnm,⟨cs,hown,_,_⟩,_⟩:=hR.box k _ hk
    rcases hown.2 with ⟨hg,hz⟩ | ⟨g,cap,cur,hg,_⟩
    ·rw [hu,hg,hz];exact ⟨_,sl _ _ _ hl,rfl,rfl⟩
    ·rw [hu,hg];exact ⟨_,sl _ _ _ hl,rfl,rfl⟩
   ·simp at h
  ·simp at h
 ·rename_i el xs
  split at h
  ·rename_i hl
   simp at h;subst h
   obtain ⟨ad,cap,hu,_⟩:=hx
   simp at hu;subst hu
   exact ⟨_,sl _ _ _ hl,rfl,rfl⟩
  ·simp at h
 ·rename_i s
  split at h
  ·rename_i hty
   simp at h;subst h
   have hu:u = .string s:=jjl (S:=S) (w:=w) hx
   subst hu
   have hd:=jpx hT ht hty
   exact ⟨_,by simp [ß,run_underlying hd,goInt],rfl,rfl⟩
  ·simp at h
 ·rename_i k j
  split at h
  ·rename_i e el xs frz hk
   split at h
   ·rename_i hl
    simp at h;subst h
    have hk:=hrd.live hk
    obtain ⟨_,hj,ad,cap',hg',hu⟩:=hx.2.2 _ hk
    rw [hu]
    refine ⟨_,sl _ _ _ hl,?_,rfl⟩
    show [Value.int .i64 _]=[Value.int .i64 _]
    congr 2
   ·simp at h
  ·simp at h
 ·rename_i k j
  split at h
  ·rename_i e el xs frz hk
   split at h
   ·rename_i hl
    simp at h;subst h
    have hk:=hrd.live hk
    obtain ⟨_,hj,ad,cap',hg',hu⟩:=hx.2.2 _ hk
    rw [hu]
    exact ⟨_,sl _ _ _ hl,rfl,rfl⟩
   ·simp at h
  ·simp at h
 ·simp at h
end
section
variable {N:NT} {np:H} {S0:j0e} {w0:À} {refs:Refs} {σ:St} {a:Ý} {w:À} {S:j0e} {γ:H→O}
theorem Rel.step (hR:Rel N np S0 w0 refs σ a w S γ) {bx':H→BS} {w':À} {S':j0e} {γ':H→O} (hk:j2O S w S' w') (hb:BxLe γ σ.bx γ' bx')
   (box:∀ k b,bx' k = .live b→j1X S' w' γ' bx' k b) (own:∀ k b g,bx' k = .live b→blk (γ' k)=D g→Own w0 refs g∨(g∈refs∧parK np k=U))
   (apart:∀ k k' b b' g,k≠k'→bx' k = .live b→bx' k' = .live b'→blk (γ' k)=D g→blk (γ' k')≠D g)
   (new:∀ g o,S' g o→S0 g o∨Own w0 refs g) (here:∀ g o,S' g o→g<w'.heap.size) (below:∀ g,g<w0.heap.size→g∉refs→w'.heap[g]? = w0.heap[g]?)
   (grow:w0.heap.size≤w'.heap.size) (os:w'.os=w0.os) (tape:w'.tape=w0.tape) (output:w'.output=w0.output)
   (kept:∀ g,g<w.heap.size→refs.kw g≠B→(∀ k b,σ.bx k = .live b→blk (γ k)≠D g)→w'.heap[g]? = w.heap[g]? ∧ ∀ k b,bx' k = .live b→blk (γ' k)≠D g) :
   Rel N np S0 w0 refs { σ with bx:=bx' } a w' S' γ':=
 ⟨hR.size,hR.defers,fun i=>j43.keep hk hb (hR.slot i),box,own,apart,fun g o h=>(hk g o (hR.ext g o h)).1,new,here,below,grow,os,tape,output,fun k v h=>⟨(hR.par k v h).1,(hb k (hR.par k v h).2.1).1,(hb k (hR.par k v h).2.1).2.1.trans (hR.par k v h).2.2⟩,
  fun g o h=>by
   obtain ⟨h1,h2⟩:=hR.kept g o h
   obtain ⟨h3,h4⟩:=kept g (jn.1 h1).1 (by rw [h];simp) h2
   exact ⟨h3.trans h1,h4⟩,hR.fix⟩
theorem j1X.keep {S':j0e} {w':À} {γ':H→O} {bx bx':H→BS} (hk:j2O S w S' w') (hb:BxLe γ bx γ' bx') {k:H} {b:Bx} (hg:γ' k=γ k)
  (hblk:∀ g,blk (γ k)=D g→w'.heap[g]? = w.heap[g]? ∧ ∀ o,S' g o↔S g o) (h:j1X S w γ bx k b):j1X S' w' γ' bx' k b:=by
 cases b with
 | cell ls frz=>
  obtain ⟨g,cur,e,h1,h2,h3,h4,h5,h6⟩:=h
  obtain ⟨e1,e2⟩:=hblk g (by rw [h1];rfl)
  exact ⟨g,cur,e,hg.trans h1,e1.trans h2,h3.mono (fun x u hx=>j0b.keep hk hb hx),h4,fun hf o hs=>h5 hf o ((e2 o).1 hs),fun hf o ho=>(e2 o).2 (h6 hf o ho)⟩
 | lst e t xs frz=>
  obtain ⟨h1,h3⟩:=h
  refine ⟨?_,fun g hg'=> ?_⟩
  ·rw [hg];exact h1.keep hk fun g hg'=>(hblk g hg').1
  ·rw [hg] at hg'
   obtain ⟨e1,e2⟩:=hblk g hg'
   obtain ⟨h4,h5⟩:=h3 g hg'
   exact ⟨fun hf o hs=>h4 hf o ((e2 o).1 hs),fun hf o=>(e2 o).trans (h5 hf o)⟩
 | arr n t xs=>
  obtain ⟨g,cur,e,h1,h2,h3,h4⟩:=h
  obtain ⟨e1,e2⟩:=hblk g (by rw [h1];rfl)
  exact ⟨g,cur,e,hg.trans h1,e1.trans h2,Rep.keep hk _ _ _ h3,fun o hs=>h4 o ((e2 o).1 hs)⟩
 | row e t n ls=>
  obtain ⟨hm,⟨cs,h1,h2,h3⟩,h4⟩:=h
  refine ⟨hm,⟨cs,⟨h1.1,?_⟩,h2.mono (fun x u hx=>j0b.keep hk hb hx),h3⟩,fun g hg' o hs=> ?_⟩
  ·rw [hg]
   rcases h1.2 with hn | ⟨g,cap,cur,hv,hb0,hh,rest⟩
   ·exact .inl hn
   ·exact .inr ⟨g,cap,cur,hv,hb0,(hblk g (by rw [hv];rfl)).1.trans hh,rest⟩
  ·rw [hg] at hg'
   exact h4 g hg' o (((hblk g hg').2 o).1 hs)
theorem j0r (σ:St) (k:H) (b:BS):(σ.setB k b).bx k=b:=by simp [St.setB]
theorem j09 (σ:St) {k k':H} (b:BS) (h:k'≠k):(σ.setB k b).bx k'=σ.bx k':=by simp [St.setB,h]
theorem jvH (hR:Rel N np S0 w0 refs σ a w S γ) {k e:H} {t:Ty} {xs:I t.den} {f:X} (hm:isM e=J) (hk:σ.bx k = .live (.lst e t xs f)) {S':j0e} {w':À} (hst:j2O S w S' w')
  (hs:∀ g o,blk (γ k)=D g→o<xs.length*t.size→S' g o∧w'.cell? ⟨g,o,B⟩=w.cell? ⟨g,o,B⟩):Rep S' w' (.list t) xs [γ k]:=by
 obtain ⟨css,hown,ha,_⟩:=j5B hm (hR.box k _ hk)
 rcases hown.2 with ⟨hg,hz⟩ | ⟨g,cap,cur,hg,_,hh,hle,hcm,hcs,htake⟩
 ·refine ⟨B,0,?_,?_,?_,fun _=>rfl,fun b hb=>by simp at hb⟩
  ·rw [hg];show [Value.slice B 0 0]=[Value.slice B (Ä xs) 0];rw [show Ä xs=0 from hz]
  ·show Ä xs≤0;rw [show Ä xs=0 from hz];exact jz _
  ·simp [maxLen]
 ·refine ⟨D ⟨g,0,B⟩,cap,by rw [hg],hle,hcm,smp_,fun b hb=> ?_⟩
  simp at hb;subst hb
  refine ⟨fun _=>rfl,css,ha.mono (fun x c hx=>Rep.keep hst _ _ _ hx),fun j v hv=> ?_⟩
  have hlen:=All2.flatten_length (fun x c hx=>Rep.length t x c hx) ha
  have hj:j<xs.length*t.size:=by
   rw [←hlen];exact (kb.1 hv).1
  obtain ⟨h1,h2⟩:=hs g j (by rw [hg];rfl) hj
  simp only [kj]
  refine ⟨h1,h2.trans ?_⟩
  have:=hown.cells (g:=g) (by rw [hg];rfl) j v hv
  rwa [Î,kj] at this
theorem jhD (hR:Rel N np S0 w0 refs σ a w S γ) {k e:H} {t:Ty} {xs:I t.den} {f:X} (hm:isM e=J) (hk:σ.bx k = .live (.lst e t xs f)) (hp:parK np k=J) :
  ∃ S',Rel N np S0 w0 refs (σ.setB k (.live (.lst e t xs U))) a w S' γ∧j2O S w S' w∧Rep S' w (.list t) xs [γ k]:=by
 let S':j0e:=fun g o=>S g o∨(blk (γ k)=D g∧o<xs.length*t.size)
 have hst:j2O S w S' w:=fun g o h=>⟨.inl h,rfl⟩
 have hdata:Rep S' w (.list t) xs [γ k]:=jvH hR hm hk hst (fun g o hb ho=>⟨.inr ⟨hb,ho⟩,rfl⟩)
 have hble:BxLe γ σ.bx γ (σ.setB k (.live (.lst e t xs U))).bx:=by
  intro k' hk'
  by_cases hkk:k'=k
  ·subst hkk
   rw [j0r]
   exact ⟨smp_,rfl,fun b hb=>by simp at hb;subst hb;exact ⟨_,hk,rfl,rfl,fun _=>rfl⟩⟩
  ·rw [j09 σ _ hkk]
   exact ⟨hk',rfl,fun b hb=>⟨b,hb,.refl b⟩⟩
 have live':∀ k' b,(σ.setB k (.live (.lst e t xs U))).bx k' = .live b→∃ b',σ.bx k' = .live b':=by
  intro k' b hb
  by_cases hkk:k'=k
  ·subst hkk;exact ⟨_,hk⟩
  ·rw [j09 σ _ hkk] at hb;exact ⟨b,hb⟩
 refine ⟨S',?_,hst,hdata⟩
 have hbox:∀ k' b,(σ.setB k (.live (.lst e t xs U))).bx k' = .live b→j1X S' w γ (σ.setB k (.live (.lst e t xs U))).bx k' b:=by
  intro k' b hb
  by_cases hkk:k'=k
  ·subst hkk
   rw [j0r] at hb
   simp at hb;subst hb
   obtain ⟨css,hown,ha,hS⟩:=j5B hm (hR.box k' _ hk)
   refine jhy hm ⟨css,hown,ha.mono (fun x c hx=>Rep.keep hst _ _ _ hx),fun g hg=>⟨smp_,fun _ o=> ?_⟩⟩
   obtain ⟨h1,h2⟩:=hS g hg
   constructor
   ·intro hs
    rcases hs with hs | hs
    ·cases f with
     | false=>exact absurd hs (h1 rfl o)
     | true=>exact (h2 rfl o).1 hs
    ·exact hs.2
   ·exact fun ho=> .inr ⟨hg,ho⟩
  ·rw [j09 σ _ hkk] at hb
   refine j1X.keep hst hble rfl (fun g hg=>⟨rfl,fun o=>⟨fun hs=> ?_,.inl⟩⟩) (hR.box k' b hb)
   rcases hs with hs | hs
   ·exact hs
   ·exact absurd hs.1 (hR.apart k' k b _ g hkk hb hk hg)
 refine Rel.step hR hst hble hbox ?_ ?_ ?_ ?_ hR.below hR.grow hR.os hR.tape hR.output (fun g _ _ h=>⟨rfl,fun k' b' hb'=>by obtain ⟨b2,hb2⟩:=live' k' b' hb';exact h k' b2 hb2⟩)
 ·intro k' b g hb hg
  obtain ⟨b',hb'⟩:=live' k' b hb
  exact hR.own k' b' g hb' hg
 ·intro k1 k2 b1 b2 g hne h1 h2 hg
  obtain ⟨b1',h1'⟩:=live' k1 b1 h1
  obtain ⟨b2',h2'⟩:=live' k2 b2 h2
  exact hR.apart k1 k2 b1' b2' g hne h1' h2' hg
 ·intro g o hs
  rcases hs with hs | hs
  ·exact hR.new g o hs
  ·rcases hR.own k _ g hk hs.1 with h | h
   ·exact .inr h
   ·rw [hp] at h;simp at h
 ·intro g o hs
  rcases hs with hs | hs
  ·exact hR.here g o hs
  ·obtain ⟨css,hown,_⟩:=j5B hm (hR.box k _ hk)
   rcases hown.2 with ⟨hn,_⟩ | ⟨g',cap,cur,hg,_,hh,_⟩
   ·rw [hn] at hs;simp [blk] at hs
   ·rw [hg] at hs;simp [blk] at hs;rw [←hs.1];exact (jn.1 hh).1
def FrzL (np:H) (bx:H→BS) (u:Ups):Prop:=
 ∀ x∈u,parK np x.1=J∧∃ e t xs f,bx x.1 = .live (.lst e t xs f)∧x.2 = .live (.lst e t xs U)∧isM e=J
def Froz (bx:H→BS) (γ:H→O) (S:j0e) (w:À) (u:Ups):Prop:=
 ∀ x∈u,∀ e t xs f,bx x.1 = .live (.lst e t xs f)→Rep S w (.list t) xs [γ x.1]
theorem FrzL.app {bx:H→BS} {u v:Ups}:FrzL np bx (u++v)↔FrzL np bx u∧FrzL np bx v:=by
 simp only [FrzL,js]
 exact ⟨fun h=>⟨fun x hx=>h x (.inl hx),fun x hx=>h x (.inr hx)⟩,fun h x hx=>hx.elim (h.1 x) (h.2 x)⟩
theorem Froz.app {bx:H→BS} {u v:Ups}:Froz bx γ S w (u++v)↔Froz bx γ S w u∧Froz bx γ S w v:=by
 simp only [Froz,js]
 exact ⟨fun h=>⟨fun x hx=>h x (.inl hx),fun x hx=>h x (.inr hx)⟩,fun h x hx=>hx.elim (h.1 x) (h.2 x)⟩
theorem FrzL.nil {bx:H→BS}:FrzL np bx []:=fun _ h=>by simp at h
theorem Froz.nil {bx:H→BS}:Froz bx γ S w []:=fun _ h=>by simp at h
theorem Froz.keep {bx:H→BS} {u:Ups} {S':j0e} {w':À} (hk:j2O S w S' w') (h:Froz bx γ S w u):Froz bx γ S' w' u:=
 fun x hx e t xs f hb=>Rep.keep hk _ _ _ (h x hx e t xs f hb)
def je8 (bx bx':H→BS):Prop:=
 ∀ k,bx' k=bx k∨∃ e t xs f f',bx k = .live (.lst e t xs f)∧bx' k = .live (.lst e t xs f')
theorem je8.refl (bx:H→BS):je8 bx bx:=fun _=> .inl rfl
theorem je8.trans {b1 b2 b3:H→BS} (h:je8 b1 b2) (h':je8 b2 b3):je8 b1 b3:=by
 intro k
 rcases h k with e | ⟨e,t,xs,f,f',h1,h2⟩
 ·rcases h' k with e' | ⟨e2,t,xs,f,f',h1,h2⟩
  ·exact .inl (e'.trans e)
  ·exact .inr ⟨e2,t,xs,f,f',e▸h1,h2⟩
 ·rcases h' k with e' | ⟨e2,t2,xs2,f2,f2',h3,h4⟩
  ·exact .inr ⟨e,t,xs,f,f',h1,e'.trans h2⟩
  ·rw [h2] at h3;cases h3;exact .inr ⟨e,t,xs,f,f2',h1,h4⟩
theorem je8.free {b1 b2:H→BS} (h:je8 b1 b2) {k:H} (hk:b1 k = .free):b2 k = .free:=by
 rcases h k with e | ⟨e,t,xs,f,f',h1,h2⟩
 ·rw [e,hk]
 ·rw [h1] at hk;simp at hk
theorem je8.cell {b1 b2:H→BS} (h:je8 b1 b2) {k:H} {ls:I Leaf} {f:X} (hk:b1 k = .live (.cell ls f)):b2 k = .live (.cell ls f):=by
 rcases h k with e | ⟨e,t,xs,f,f',h1,h2⟩
 ·rw [e,hk]
 ·rw [h1] at hk;simp at hk
theorem je8.arr {b1 b2:H→BS} (h:je8 b1 b2) {k n:H} {t:Ty} {xs:I t.den} (hk:b1 k = .live (.arr n t xs)):b2 k = .live (.arr n t xs):=by
 rcases h k with e | ⟨e,t,xs,f,f',h1,h2⟩
 ·rw [e,hk]
 ·rw [h1] at hk;simp at hk
theorem je8.lst {b1 b2:H→BS} (h:je8 b1 b2) {k e:H} {t:Ty} {xs:I t.den} {f:X} (hk:b1 k = .live (.lst e t xs f)):∃ f',b2 k = .live (.lst e t xs f'):=by
 rcases h k with e | ⟨e,t,xs,f,f',h1,h2⟩
 ·exact ⟨f,by rw [e,hk]⟩
 ·rw [h1] at hk;cases hk;exact ⟨f',h2⟩
theorem je8.le {b1 b2:H→BS} (h:je8 b1 b2):BxLe γ b1 γ b2:=by
 intro k hk
 rcases h k with e | ⟨e,t,xs,f,f',h1,h2⟩
 ·rw [e];exact ⟨hk,rfl,fun b hb=>⟨b,hb,.refl b⟩⟩
 ·rw [h2];exact ⟨smp_,rfl,fun b hb=>by simp at hb;subst hb;exact ⟨_,h1,rfl,rfl,fun _=>rfl⟩⟩
theorem jgz:∀ (u:Ups) (σ:St),(σ.upd u).sl=σ.sl
 | [],_=>rfl
 | e::u,σ=>jgz u (σ.setB e.1 e.2)
theorem j3O:∀ (u v:Ups) (σ:St),σ.upd (u++v)=(σ.upd u).upd v
 | [],_,_=>rfl
 | e::u,v,σ=>j3O u v (σ.setB e.1 e.2)
theorem j2B:∀ (u:Ups) (σ:St) (S:j0e),Rel N np S0 w0 refs σ a w S γ→FrzL np σ.bx u→
  ∃ S',Rel N np S0 w0 refs (σ.upd u) a w S' γ∧j2O S w S' w∧Froz σ.bx γ S' w u∧je8 σ.bx (σ.upd u).bx
 | [],σ,S,hR,_=>⟨S,hR,.refl S w,.nil,.refl _⟩
 | x::u,σ,S,hR,hf=>by
  obtain ⟨hp,e,t,xs,f,hb,hx,hm⟩:=hf x smp_
  obtain ⟨S1,hR1,hst1,hd1⟩:=jhD hR hm hb hp
  rw [←hx] at hR1
  have hs1:je8 σ.bx (σ.setB x.1 x.2).bx:=by
   intro k
   by_cases hk:k=x.1
   ·subst hk;exact .inr ⟨e,t,xs,f,U,hb,by rw [j0r,hx]⟩
   ·exact .inl (j09 σ _ hk)
  have hf1:FrzL np (σ.setB x.1 x.2).bx u:=by
   intro y hy
   obtain ⟨hp',e',t',xs',f',hb',hy'⟩:=hf y (by simp [hy])
   obtain ⟨f2,h2⟩:=hs1.lst hb'
   exact ⟨hp',e',t',xs',f2,h2,hy'⟩
  obtain ⟨S2,hR2,hst2,hd2,hs2⟩:=j2B u _ S1 hR1 hf1
  refine ⟨S2,hR2,hst1.trans hst2,fun y hy e' t' xs' f' hb'=> ?_,hs1.trans hs2⟩
  rcases jl.1 hy with rfl | hy
  ·rw [hb] at hb';cases hb'
   exact Rep.keep hst2 _ _ _ hd1
  ·obtain ⟨f2,h2⟩:=hs1.lst hb'
   exact hd2 y hy e' t' xs' f2 h2
def RdF (np:H) (σ:St) (rd:H→BS):Prop:=(∀ k,(rd k=σ.bx k∧parK np k=J)∨rd k = .gone)∧NoM rd
theorem RdF.ok {rd:H→BS} (h:RdF np σ rd):RdOk σ rd:=⟨fun k=>(h.1 k).imp (·.1) id,h.2⟩
theorem RdF.par {rd:H→BS} (h:RdF np σ rd) {k:H} {b:Bx} (hk:rd k = .live b):parK np k=false:=by
 rcases h.1 k with h | h
 ·exact h.2
 ·rw [h] at hk;simp at hk
def jnK (S:j0e) (w:À) (γ:H→O) (bx:H→BS):Prop:=∀ k b,bx k = .live b→j1X S w γ bx k b
theorem jrX {rd:H→BS} (hrd:RdF np σ rd) (hB:jnK S w γ σ.bx) {t:Ty} {l:Leaf} {v:t.den} {u:Ups} {z:O} (h:j7l rd t l=D (v,u)) (hl:j0b S w γ σ.bx l z) :
  FrzL np σ.bx u∧∀ S' w',j2O S w S' w'→Froz σ.bx γ S' w' u→Rep S' w' t v [z]:=by
 unfold j7l at h
 split at h
 ·split at h
  ·rename_i t' v' v'' hto
   simp only [jb,jf] at h
   obtain ⟨rfl,rfl⟩:=h
   have:=jfh hto
   cases this
   exact ⟨.nil,fun S' w' hk _=>Rep.keep hk _ _ _ hl⟩
  ·simp at h
 ·split at h
  ·simp only [jb,jf] at h
   obtain ⟨rfl,rfl⟩:=h
   have hz:z = .slice B 0 0:=hl
   subst hz
   exact ⟨.nil,fun S' w' _ _=>⟨B,0,rfl,jz _,by simp [maxLen],fun _=>rfl,fun b hb=>by simp at hb⟩⟩
  ·simp at h
 ·rename_i k
  split at h
  ·rename_i e el xs f hk
   split at h
   ·rename_i v' hto
    simp only [jb,jf] at h
    obtain ⟨rfl,rfl⟩:=h
    have:=jfh hto
    cases this
    have hk':=hrd.ok.live hk
    refine ⟨fun x hx=> ?_,fun S' w' _ hf=> ?_⟩
    ·have hx':=qj.1 hx
     subst hx'
     exact ⟨hrd.par hk,e,el,xs,f,hk',rfl,hrd.ok.nm hk⟩
    ·have:=hf (k,_) (qj.2 rfl) e el xs f hk'
     rw [hl.2.2 _ hk']
     exact this
   ·simp at h
  ·simp at h
 ·simp at h
theorem jjm {n cap:H} {ad:F Addr} (h1:n≤cap) (h2:cap≤maxLen) (h3:ad=B→cap=0) (h4:∀ b,ad=D b→n≠0→b.spot=B) {t:Ty} {v:t.den} (hv:hdr t n=D v):Rep S w t v [.slice ad n cap]:=by
 unfold hdr at hv
 split at hv
 ·simp only [jb] at hv
  subst hv
  have hl:(Ç n ()).length=n:=zw ..
  refine ⟨ad,cap,by rw [hl],by rw [hl];exact h1,h2,h3,fun b hb=>⟨fun hne=>h4 b hb (fun h0=>hne (by rw [h0];rfl)),Ç n [],?_,?_⟩⟩
  ·clear hl h1 h4
   induction n with
   | zero=>trivial
   | succ n ih=>exact ⟨rfl,ih⟩
  ·have:(Ç n ([]:I O)).flatten=[]:=by
    clear hl h1 h4
    induction n with
    | zero=>rfl
    | succ n ih=>rw [List.replicate_succ,kx,ih];rfl
   rw [this]
   intro j v hj
   simp at hj
 ·simp at hv
theorem jtc {rd:H→BS} (hrd:RdF np σ rd) (hB:jnK S w γ σ.bx) {t:Ty} {l:Leaf} {v:t.den} {z:O} (h:je7 rd t l=D v) (hl:j0b S w γ σ.bx l z):∀ S' w',Rep S' w' t v [z]:=by
 intro S' w'
 unfold je7 at h
 split at h
 case h_2=>simp at h
 rename_i n hn
 unfold lenL at hn
 split at hn
 ·simp at hn
 ·simp only [jb] at hn
  subst hn
  obtain ⟨ad,cap,hz,h1,h2,h3,h4⟩:=hl
  cases hz
  exact jjm h1 h2 h3 (fun b hb hne=>(h4 b hb).1 (fun h0=>hne (by rw [h0];rfl))) h
 ·split at hn
  ·rename_i k _ e a xs f hk
   simp only [jb] at hn
   subst hn
   have hk':=hrd.ok.live hk
   obtain ⟨css,hown,_,_⟩:=j5B (hrd.ok.nm hk) (hB k _ hk')
   have hz:z=γ k:=hl.2.2 _ hk'
   rw [hz]
   rcases hown.2 with ⟨hs,hn0⟩ | ⟨g,cap,cur,hs,_,hh,hle,hcm,_⟩
   ·rw [hs]
    rw [hn0] at h
    exact jjm (jz _) (by simp [maxLen]) (fun _=>rfl) (fun b hb=>by simp at hb) h
   ·rw [hs]
    exact jjm hle hcm (fun h0=>by simp at h0) (fun b hb _=>by simp at hb;subst hb;rfl) h
  ·rename_i k _ e a n' ls hk
   simp only [jb] at hn
   subst hn
   have hk':=hrd.ok.live hk
   obtain ⟨_,⟨cs,hown,_,_⟩,_⟩:=hB k _ hk'
   have hz:z=γ k:=hl.2.2 _ hk'
   rw [hz]
   rcases hown.2 with ⟨hs,hn0⟩ | ⟨g,cap,cur,hs,_,hh,hle,hcm,_⟩
   ·rw [hs]
    rw [hn0] at h
    exact jjm (jz _) (by simp [maxLen]) (fun _=>rfl) (fun b hb=>by simp at hb) h
   ·rw [hs]
    exact jjm hle hcm (fun h0=>by simp at h0) (fun b hb _=>by simp at hb;subst hb;rfl) h
  ·simp at hn
 ·simp at hn
theorem j8Z {rd:H→BS} (hrd:RdF np σ rd) (hB:jnK S w γ σ.bx) {t:Ty} {l:Leaf} {v:t.den} {u:Ups} {z:O} (h:jbQ rd t l=D (v,u)) (hl:j0b S w γ σ.bx l z) :
  FrzL np σ.bx u∧∀ S' w',j2O S w S' w'→Froz σ.bx γ S' w' u→Rep S' w' t v [z]:=by
 unfold jbQ at h
 split at h
 ·rename_i v' hv
  simp only [jb,jf] at h
  obtain ⟨rfl,rfl⟩:=h
  exact ⟨.nil,fun S' w' _ _=>jtc hrd hB hv hl S' w'⟩
 ·exact jrX hrd hB h hl
theorem jbf {rd:H→BS} (hrd:RdF np σ rd) (hB:jnK S w γ σ.bx):∀ (t:Ty) {ls r:I Leaf} {v:t.den} {u:Ups} {zs:I O},gath rd t ls=D (v,r,u)→All2 (j0b S w γ σ.bx) ls zs→
  FrzL np σ.bx u∧r=ls.drop t.size∧∀ S' w',j2O S w S' w'→Froz σ.bx γ S' w' u→Rep S' w' t v (zs.take t.size)
 | .unit,ls,r,v,u,zs,h,ha=>by
  simp only [gath,jb,jf] at h
  obtain ⟨_,rfl,rfl⟩:=h
  exact ⟨.nil,rfl,fun S' w' _ _=>rfl⟩
 | .wrap b,ls,r,v,u,zs,h,ha=>by
  simp only [gath] at h
  split at h
  ·rename_i x r' u' hx
   simp only [jb,jf] at h
   obtain ⟨rfl,rfl,rfl⟩:=h
   exact jbf hrd hB b hx ha
  ·simp at h
 | .pair b c,ls,r,v,u,zs,h,ha=>by
  simp only [gath] at h
  split at h
  ·rename_i x r1 u1 hx
   split at h
   ·rename_i y r2 u2 hy
    simp only [jb,jf] at h
    obtain ⟨rfl,rfl,rfl⟩:=h
    obtain ⟨f1,e1,p1⟩:=jbf hrd hB b hx ha
    have ha2:All2 (j0b S w γ σ.bx) r1 (zs.drop b.size):=by rw [e1];exact ha.drop _
    obtain ⟨f2,e2,p2⟩:=jbf hrd hB c hy ha2
    refine ⟨FrzL.app.2 ⟨f1,f2⟩,?_,fun S' w' hk hf=> ?_⟩
    ·rw [e2,e1,â];rfl
    ·obtain ⟨hf1,hf2⟩:=Froz.app.1 hf
     refine ⟨zs.take b.size,(zs.drop b.size).take c.size,?_,p1 S' w' hk hf1,p2 S' w' hk hf2⟩
     show zs.take (b.size+c.size)=_
     rw [List.take_add]
   ·simp at h
  ·simp at h
 | .arr _ _,_,_,_,_,_,h,_=>by simp [gath] at h
 | .int k,l::ls,r,v,u,z::zs,h,ha=>by
  simp only [gath] at h
  split at h
  ·rename_i v' u' hv
   simp only [jb,jf] at h
   obtain ⟨rfl,rfl,rfl⟩:=h
   obtain ⟨f,p⟩:=j8Z hrd hB hv ha.1
   exact ⟨f,rfl,p⟩
  ·simp at h
 | .bool,l::ls,r,v,u,z::zs,h,ha=>by
  simp only [gath] at h
  split at h
  ·rename_i v' u' hv
   simp only [jb,jf] at h
   obtain ⟨rfl,rfl,rfl⟩:=h
   obtain ⟨f,p⟩:=j8Z hrd hB hv ha.1
   exact ⟨f,rfl,p⟩
  ·simp at h
 | .str,l::ls,r,v,u,z::zs,h,ha=>by
  simp only [gath] at h
  split at h
  ·rename_i v' u' hv
   simp only [jb,jf] at h
   obtain ⟨rfl,rfl,rfl⟩:=h
   obtain ⟨f,p⟩:=j8Z hrd hB hv ha.1
   exact ⟨f,rfl,p⟩
  ·simp at h
 | .list b,l::ls,r,v,u,z::zs,h,ha=>by
  simp only [gath] at h
  split at h
  ·rename_i v' u' hv
   simp only [jb,jf] at h
   obtain ⟨rfl,rfl,rfl⟩:=h
   obtain ⟨f,p⟩:=j8Z hrd hB hv ha.1
   exact ⟨f,rfl,p⟩
  ·simp at h
 | .int _,[],_,_,_,_,h,_=>by simp [gath] at h
 | .bool,[],_,_,_,_,h,_=>by simp [gath] at h
 | .str,[],_,_,_,_,h,_=>by simp [gath] at h
 | .list _,[],_,_,_,_,h,_=>by simp [gath] at h
 | .int _,_::_,_,_,_,[],_,ha=>ha.elim
 | .bool,_::_,_,_,_,[],_,ha=>ha.elim
 | .str,_::_,_,_,_,[],_,ha=>ha.elim
 | .list _,_::_,_,_,_,[],_,ha=>ha.elim
def cellsOf (u:O):I Value:=u.cells.toList
theorem jcl {u:O} (h:One u):u.cells.toList=[u]:=by
 cases u<;>first | rfl | simp [One,Value.oneCell'] at h
theorem jjn (rd:H→BS):∀ (t:Ty) {ls r:I Leaf} {v:t.den} {u:Ups},gath rd t ls=D (v,r,u)→r.length+t.size=ls.length:=by
 intro t
 induction t with
 | unit=>intro ls r v u h;simp only [gath,jb,jf] at h;rw [←h.2.1];rfl
 | wrap a ih=>
  intro ls r v u h
  simp only [gath] at h
  split at h
  ·rename_i x r' u' hx
   simp only [jb,jf] at h
   rw [←h.2.1];exact ih hx
  ·simp at h
 | pair a b iha ihb=>
  intro ls r v u h
  simp only [gath] at h
  split at h
  ·rename_i x r1 u1 hx
   split at h
   ·rename_i y r2 u2 hy
    simp only [jb,jf] at h
    rw [←h.2.1]
    have e1:=iha hx
    have e2:=ihb hy
    simp only [Ty.size];omega
   ·simp at h
  ·simp at h
 | arr n a _=>intro ls r v u h;simp [gath] at h
 | int k=>
  intro ls r v u h
  cases ls<;>simp only [gath] at h
  ·simp at h
  ·split at h
   ·simp only [jb,jf] at h;rw [←h.2.1];simp [Ty.size]
   ·simp at h
 | bool=>
  intro ls r v u h
  cases ls<;>simp only [gath] at h
  ·simp at h
  ·split at h
   ·simp only [jb,jf] at h;rw [←h.2.1];simp [Ty.size]
   ·simp at h
 | str=>
  intro ls r v u h
  cases ls<;>simp only [gath] at h
  ·simp at h
  ·split at h
   ·simp only [jb,jf] at h;rw [←h.2.1];simp [Ty.size]
   ·simp at h
 | list a _=>
  intro ls r v u h
  cases ls<;>simp only [gath] at h
  ·simp at h
  ·split at h
   ·simp only [jb,jf] at h;rw [←h.2.1];simp [Ty.size]
   ·simp at h
theorem jtd (rd:H→BS):∀ (t:Ty) {ls r:I Leaf} {v:t.den} {u:Ups},gath rd t (.dead::ls)=D (v,r,u)→r = .dead::ls:=by
 intro t
 induction t with
 | unit=>intro ls r v u h;simp only [gath,jb,jf] at h;exact h.2.1.symm
 | wrap a ih=>
  intro ls r v u h
  simp only [gath] at h
  split at h
  ·rename_i x r' u' hx
   simp only [jb,jf] at h
   rw [←h.2.1];exact ih hx
  ·simp at h
 | pair a b iha ihb=>
  intro ls r v u h
  simp only [gath] at h
  split at h
  ·rename_i x r1 u1 hx
   have h1:=iha hx
   subst h1
   split at h
   ·rename_i y r2 u2 hy
    simp only [jb,jf] at h
    rw [←h.2.1];exact ihb hy
   ·simp at h
  ·simp at h
 | arr n a _=>intro ls r v u h;simp [gath] at h
 | int k=>intro ls r v u h;simp [gath,jbQ,je7,lenL,j7l] at h
 | bool=>intro ls r v u h;simp [gath,jbQ,je7,lenL,j7l] at h
 | str=>intro ls r v u h;simp [gath,jbQ,je7,lenL,j7l] at h
 | list a _=>intro ls r v u h;simp [gath,jbQ,je7,lenL,j7l] at h
theorem jnL {t:Ty} (h:t.agg=U):jb5 t=true:=by
 revert h;cases t<;>simp [jb5,Ty.agg]
theorem jeV {rd:H→BS} (hrd:RdF np σ rd) (hB:jnK S w γ σ.bx) {t:Ty} {c:Cel} {v:t.den} {u:Ups} {z:O} (h:jfp rd t c=D (v,u)) (hc:j0k S w γ σ.bx c z) :
  FrzL np σ.bx u∧(∀ S' w',j2O S w S' w'→Froz σ.bx γ S' w' u→VRep S' w' ⟨t,v⟩ z)∧z.cells.toList.length=t.size:=by
 unfold jfp at h
 split at h
 ·rename_i l
  split at h
  ·simp at h
  rename_i hag
  split at h
  ·rename_i v' u' hv
   simp only [jb,jf] at h
   obtain ⟨rfl,rfl⟩:=h
   obtain ⟨f,e,p⟩:=jbf hrd hB t hv (zs:=[z]) ⟨hc.1,trivial⟩
   have hlen:=jjn rd t hv
   simp at hlen
   have hd:l ≠ .dead:=by
    intro hl
    subst hl
    have:=jtd rd t hv
    simp at this
   have h1:=jcl (hc.2 hd)
   refine ⟨f,fun S' w' hk hf=>⟨?_,fun hm=> ?_,fun _=>hc.2 hd⟩,by simp [h1,hlen]⟩
   ·have:=p S' w' hk hf
    rw [hlen] at this
    rw [h1];exact this
   ·exfalso
    cases t<;>simp [jb5,Ty.agg] at hm hag
    simp [gath] at hv
  ·simp at h
 ·rename_i ls
  split at h
  ·rename_i hag
   split at h
   ·rename_i v' u' hv
    simp only [jb,jf] at h
    obtain ⟨rfl,rfl⟩:=h
    obtain ⟨cs,rfl,ha,h1⟩:=hc
    obtain ⟨f,e,p⟩:=jbf hrd hB t hv ha
    have hlen:=jjn rd t hv
    have hl:=ha.length
    simp at hlen
    have hcs:cs.toList.length=t.size:=omg_
    refine ⟨f,fun S' w' hk hf=>⟨?_,fun _=>⟨cs,rfl⟩,fun hm=> ?_⟩,hcs⟩
    ·have:=p S' w' hk hf
     rwa [List.take_of_length_le omg_] at this
    ·rw [jnL hag] at hm;simp at hm
   ·simp at h
  ·simp at h
 ·split at h
  ·rename_i v' hto
   simp only [jb,jf] at h
   obtain ⟨rfl,rfl⟩:=h
   have:=jfh hto
   cases this
   obtain ⟨cs,rfl,hr⟩:=hc
   exact ⟨.nil,fun S' w' hk _=>⟨Rep.keep hk _ _ _ hr,fun _=>⟨cs,rfl⟩,by simp [jb5]⟩,Rep.length _ _ _ hr⟩
  ·simp at h
end
end Go.Lft
