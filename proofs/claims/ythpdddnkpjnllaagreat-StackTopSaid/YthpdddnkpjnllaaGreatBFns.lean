/- Plain functions, printed by a program out of the given code. -/
import Derived.Test.YthpdddnkpjnllaaGreatBLS
open Go Go.Lft
set_option linter.unusedVariables false
namespace Go.Proofs.Pw
noncomputable section
abbrev Tn2:Type:=(List (Int×Int))
abbrev Tn3:Type:=(Int×(Int×Int))
abbrev Tn14:Type:=(List Tn3)
abbrev Tn13:Type:=(Int×Tn2)
abbrev Tn19:Type:=(ByteArray×(Int×(List Int)))
abbrev Tn20:Type:=(List Tn13)
abbrev Tn24:Type:=(Int×(Int×Tn3))
abbrev Tn26:Type:=(List Tn19)
abbrev Tn29:Type:=(List Tn24)
abbrev Tn38:Type:=(Int×(Int×Tn24))
abbrev Tn42:Type:=(List Tn38)
abbrev Tn44:Type:=(ByteArray×(Int×(Tn2×(Int×(Int×Bool)))))
abbrev Tn48:Type:=(List Tn44)
abbrev Tn52:Type:=(ByteArray×(Int×Tn42))
abbrev Tn54:Type:=(List Tn52)
abbrev Tn59:Type:=(ByteArray×(Int×((Int×Int)×(Int×(Int×((List Int)×(Tn2×(Int×Int))))))))
abbrev Tn60:Type:=(List Tn59)
abbrev Tn64:Type:=(ByteArray×(Tn60×Tn29))
abbrev Tn65:Type:=(List Tn64)
abbrev Tn71:Type:=(Tn54×(Tn48×(Tn26×Tn65)))
abbrev Tn73:Type:=(Tn71×Tn20)
abbrev unc2 {A0 A1 R:Type} (f:A0→A1→R) (h:A0×A1):R:=f h.1 h.2
abbrev unc4 {A0 A1 A2 A3 R:Type} (f:A0→A1→A2→A3→R) (h:A0×A1×A2×A3):R:=f h.1 h.2.1 h.2.2.1 h.2.2.2
abbrev unc5 {A0 A1 A2 A3 A4 R:Type} (f:A0→A1→A2→A3→A4→R) (h:A0×A1×A2×A3×A4):R:=f h.1 h.2.1 h.2.2.1 h.2.2.2.1 h.2.2.2.2
abbrev unc7 {A0 A1 A2 A3 A4 A5 A6 R:Type} (f:A0→A1→A2→A3→A4→A5→A6→R) (h:A0×A1×A2×A3×A4×A5×A6):R:=f h.1 h.2.1 h.2.2.1 h.2.2.2.1 h.2.2.2.2.1 h.2.2.2.2.2.1 h.2.2.2.2.2.2
abbrev unc14 {A0 A1 A2 A3 A4 A5 A6 A7 A8 A9 A10 A11 A12 A13 R:Type} (f:A0→A1→A2→A3→A4→A5→A6→A7→A8→A9→A10→A11→A12→A13→R) (h:A0×A1×A2×A3×A4×A5×A6×A7×A8×A9×A10×A11×A12×A13):R:=f h.1 h.2.1 h.2.2.1 h.2.2.2.1 h.2.2.2.2.1 h.2.2.2.2.2.1 h.2.2.2.2.2.2.1 h.2.2.2.2.2.2.2.1 h.2.2.2.2.2.2.2.2.1 h.2.2.2.2.2.2.2.2.2.1 h.2.2.2.2.2.2.2.2.2.2.1 h.2.2.2.2.2.2.2.2.2.2.2.1 h.2.2.2.2.2.2.2.2.2.2.2.2.1 h.2.2.2.2.2.2.2.2.2.2.2.2.2
def j0g2 (a0_l:(List Int)):Option (Bool):=
 let t4:=(Int.ofNat (List.length a0_l))
 some (decide (t4≤500))
def j0ex  : Option (Tn54×Tn48×Tn26×Tn65):=
 let t5:Tn54:=[((ByteArray.mk #[122]),(0,([]:Tn42)))]
 let t9:Tn48:=[((ByteArray.mk #[97]),(0,(([]:Tn2),(0,(0,false))))),((ByteArray.mk #[98]),(0,(([]:Tn2),(0,(0,false))))),((ByteArray.mk #[99]),(0,(([]:Tn2),(0,(0,false)))))]
 let t12:(List Int):=[0,1]
 let t15:(List Int):=[2]
 let t17:Tn2:=[(0,86400)]
 let t21:Tn60:=[((ByteArray.mk #[108,111,119]),(0,((4,0),(2,(1,(t12,(([]:Tn2),(0,0)))))))),((ByteArray.mk #[116,111,112]),(0,((4,0),(2,(1,(t15,(t17,(0,0))))))))]
 let t23:Tn65:=[((ByteArray.mk #[115]),(t21,([]:Tn29)))]
 some (t5,t9,([]:Tn26),t23)
def j08d (a0_z:Tn52):Option (ByteArray):=
 some a0_z.1
def j0a4 (a0_c:Int):Option (Bool):=
 some (cond (decide (a0_c≥97)) (decide (a0_c≤122)) false)
def j0ey (a0_c:Int):Option (Bool):=
 some (cond (decide (a0_c≥48)) (decide (a0_c≤57)) false)
def j04W (s0:ByteArray) (s19 s20:Int):Option ((ByteArray×Int×Int) ⊕ (Bool ⊕ Unit)):=
 cond (decide (s20<s19)) (
 cond (inR s20 (ByteArray.size s0)) (
 let t25_1:=(strAt s0 s20)
 (j0a4 t25_1).bind fun r27_1=>
 cond (!r27_1) (
 (j0ey t25_1).bind fun r31_1=>
 cond (cond (cond (!r31_1) (t25_1 != 95) false) (t25_1 != 45) false) (
 some (.inr (.inl false))) (
 let t42_2:=(w64 (s20+1))
 some (.inl (s0,s19,t42_2)))) (
 let t42_3:=(w64 (s20+1))
 some (.inl (s0,s19,t42_3)))) none) (
 some (.inr (.inr ())))
def j04z [LP] (s0:ByteArray) (s19 s20:Int):Option (Bool ⊕ Unit):=
 LP.lp (fun h=>j04W h.1 h.2.1 h.2.2) (s0,s19,s20)
theorem j0g3 (s0:ByteArray) (s19 s20:Int):j04z s0 s19 s20=lpK (j04W s0 s19 s20) (fun h=>j04z h.1 h.2.1 h.2.2):=j004 _ _
def j047 [LP] (a0_s:ByteArray):Option (Bool):=
 let t9:=(Int.ofNat (ByteArray.size a0_s))
 let t11:Bool:=(cond (ByteArray.toList a0_s==ByteArray.toList ByteArray.empty) true (decide (t9>24)))
 cond ((inR 0 (ByteArray.size a0_s)) || !(!t11)) (
 let t14:=(strAt a0_s 0)
 cond t11 (
 some false) (
 (j0a4 t14).bind fun r15=>
 cond (!r15) (
 some false) (
 let t19:=(Int.ofNat (ByteArray.size a0_s))
 (j04z a0_s t19 0).bind fun q0=>
 sumC q0 (fun a=>
 some a) (fun b=>
 some true)))) none
def j02L [LP] (a0_s:ByteArray) (a1_seen:(List (ByteArray×Bool))):Option (Int×(List (ByteArray×Bool))):=
 (j047 a0_s).bind fun r6=>
 cond (!r6) (
 some (2,a1_seen)) (
 cond (mapGet false a1_seen a0_s) (
 some (4,a1_seen)) (
 let m2:(List (ByteArray×Bool)):=(mapSet a1_seen a0_s true)
 some (0,m2)))
def zone_in (a0_n a1_lo a2_hi:Int):Option (Bool):=
 some (cond (decide (a0_n≥a1_lo)) (decide (a0_n≤a2_hi)) false)
def j0do (a0_r:Tn38):Option (Int):=
 (zone_in a0_r.1 1970 2240).bind fun r5=>
 cond (!r5) (
 some 1) (
 (zone_in a0_r.2.1 a0_r.1 2240).bind fun r12=>
 cond (!r12) (
 some 1) (
 (zone_in a0_r.2.2.1 1 12).bind fun r18=>
 cond (!r18) (
 some 1) (
 (zone_in a0_r.2.2.2.1 1 5).bind fun r24=>
 cond (!r24) (
 some 1) (
 (zone_in a0_r.2.2.2.2.1 0 6).bind fun r30=>
 cond (!r30) (
 some 1) (
 (zone_in a0_r.2.2.2.2.2.1 0 86399).bind fun r36=>
 cond (!r36) (
 some 1) (
 (zone_in a0_r.2.2.2.2.2.2 (-64800) 64800).bind fun r42=>
 cond (!r42) (
 some 1) (
 some 0)))))))
def j0g4 (a0_year:Int):Option (Bool):=
 let t4:=(Int.tmod a0_year 4)
 let t8:=(Int.tmod a0_year 100)
 let t12:=(Int.tmod a0_year 400)
 some (cond (t4==0) (cond (t8 != 0) true (t12==0)) false)
def j067 (a0_year a1_month:Int):Option (Int):=
 cond (cond (decide (a1_month<1)) true (decide (a1_month>12))) (
 some 0) (
 let t12:(List Int):=[31,28,31,30,31,30,31,31,30,31,30,31]
 let t5:(List Int):=(List.replicate 12 0)
 cond (a1_month==2) (
 (j0g4 a0_year).bind fun r18=>
 cond r18 (
 some 29) (
 let t21:=(w64 (a1_month-1))
 cond (inR t21 12) (
 let t23:=(List.getD t12 (Int.toNat t21) 0)
 some t23) none)) (
 let t21_1:=(w64 (a1_month-1))
 cond (inR t21_1 12) (
 let t23_1:=(List.getD t12 (Int.toNat t21_1) 0)
 some t23_1) none))
def j0a5 (a0_d:Tn3):Option (Bool):=
 cond (decide (a0_d.1≥1970)) (
 cond (decide (a0_d.1≤2240)) (
 cond (decide (a0_d.2.2≥1)) (
 (j067 a0_d.1 a0_d.2.1).bind fun r23=>
 some (decide (a0_d.2.2≤r23))) (
 some false)) (
 some false)) (
 some false)
def j06F (a0_a a1_b:Int):Option (Int):=
 cond (!(a1_b==0)) (
 let t8:=(w64 (Int.tdiv a0_a a1_b))
 cond (!(a1_b==0)) (
 let t11:=(Int.tmod a0_a a1_b)
 cond (decide (t11<0)) (
 let t14:=(w64 (t8-1))
 some t14) (
 some t8)) none) none
def j04g (a0_year:Int):Option (Int):=
 let t5:=(w64 (a0_year-1))
 let t7:=(w64 (a0_year-1970))
 let t8:=(w64 (365*t7))
 (j06F t5 4).bind fun r10=>
 let t11:=(w64 (t8+r10))
 (j06F t5 100).bind fun r13=>
 let t14:=(w64 (t11-r13))
 (j06F t5 400).bind fun r16=>
 let t17:=(w64 (t14+r16))
 let t18:=(w64 (t17-477))
 some t18
def j02M (s3 s4 b1 b1_1 b1_2:Int):Option ((Int×Int×Int×Int×Int) ⊕ (Int)):=
 cond (decide (s4<b1_1)) (
 (j067 b1 s4).bind fun r22_1=>
 let t23_1:=(w64 (s3+r22_1))
 let t17_1:=(w64 (s4+1))
 some (.inl (t23_1,t17_1,b1,b1_1,b1_2))) (
 some (.inr s3))
def j04h [LP] (s3 s4 b1 b1_1 b1_2:Int):Option (Int):=
 LP.lp (fun h=>j02M h.1 h.2.1 h.2.2.1 h.2.2.2.1 h.2.2.2.2) (s3,s4,b1,b1_1,b1_2)
theorem j0a6 (s3 s4 b1 b1_1 b1_2:Int):j04h s3 s4 b1 b1_1 b1_2=lpK (j02M s3 s4 b1 b1_1 b1_2) (fun h=>j04h h.1 h.2.1 h.2.2.1 h.2.2.2.1 h.2.2.2.2):=j004 _ _
def j05L [LP] (a0_d:Tn3):Option (Int):=
 (j04g a0_d.1).bind fun r7=>
 let t10:=(w64 (r7+a0_d.2.2))
 let t11:=(w64 (t10-1))
 (j04h t11 1 a0_d.1 a0_d.2.1 a0_d.2.2).bind fun q0=>
 some q0
def j04A (a0_day:Int):Option (Int):=
 let t4:=(Int.tmod a0_day 7)
 let t5:=(w64 (t4+10))
 let t6:=(Int.tmod t5 7)
 some t6
def j0ar [LP] (a0_year a1_month a2_week a3_weekday:Int):Option (Int×Int):=
 (j0a5 (a0_year,(a1_month,1))).bind fun r17=>
 let t26:Bool:=(cond (cond (!r17) true (decide (a2_week<1))) true (decide (a2_week>5)))
 let t34:Bool:=(cond (cond t26 true (decide (a3_weekday<0))) true (decide (a3_weekday>6)))
 cond t34 (
 some (0,1)) (
 (j05L (a0_year,(a1_month,1))).bind fun r36=>
 (j04A r36).bind fun r40=>
 let t41:=(w64 (a3_weekday-r40))
 let t42:=(w64 (t41+7))
 let t43:=(Int.tmod t42 7)
 let t44:=(w64 (r36+t43))
 let t46:=(w64 (a2_week-1))
 let t47:=(w64 (7*t46))
 let t48:=(w64 (t44+t47))
 (j067 a0_year a1_month).bind fun r53=>
 let t54:=(w64 (r36+r53))
 cond (decide (t48≥t54)) (
 let t57:=(w64 (t48-7))
 some (t57,0)) (
 some (t48,0)))
def j068 (a0_a a1_b:(Int×Int)):Option (Int):=
 let t9:=(w64 (a0_a.1-a1_b.1))
 some t9
def j00e (s1 s2 s8 s9:Int) (b0:Tn2):Option ((Int×Int×Int×Int×Tn2) ⊕ ((Int×Int×Int×Tn2))):=
 cond (decide (s9>s1)) (
 cond (inR s9 (List.length b0)) (
 let t26_2:=(List.getD b0 (Int.toNat s9) (0,0)).1
 let t26_3:=(List.getD b0 (Int.toNat s9) (0,0)).2
 let t29_1:=(w64 (s9-1))
 cond (inR t29_1 (List.length b0)) (
 let t31_2:=(List.getD b0 (Int.toNat t29_1) (0,0)).1
 let t31_3:=(List.getD b0 (Int.toNat t29_1) (0,0)).2
 (j068 (t26_2,t26_3) (t31_2,t31_3)).bind fun r32_1=>
 cond (decide (r32_1<0)) (
 let t41_1:=(w64 (s9-1))
 let t44_1:=(w64 (s9-1))
 cond (inR t44_1 (List.length b0)) (
 let t46_2:=(List.getD b0 (Int.toNat t44_1) (0,0)).1
 let t46_3:=(List.getD b0 (Int.toNat t44_1) (0,0)).2
 cond (inR s9 (List.length b0)) (
 let t50_2:=(List.getD b0 (Int.toNat s9) (0,0)).1
 let t50_3:=(List.getD b0 (Int.toNat s9) (0,0)).2
 cond (inR s9 (List.length b0)) (
 let m15_1:Tn2:=(List.set b0 (Int.toNat s9) (t46_2,t46_3))
 cond (inR t41_1 (List.length m15_1)) (
 let m17_1:Tn2:=(List.set m15_1 (Int.toNat t41_1) (t50_2,t50_3))
 let t36_1:=(w64 (s9-1))
 some (.inl (s1,s2,s8,t36_1,m17_1))) none) none) none) none) (
 some (.inr (s1,s2,s8,b0)))) none) none) (
 some (.inr (s1,s2,s8,b0)))
def j00a [LP] (s1 s2 s8 s9:Int) (b0:Tn2):Option ((Int×Int×Int×Tn2)):=
 LP.lp (fun h=>j00e h.1 h.2.1 h.2.2.1 h.2.2.2.1 h.2.2.2.2) (s1,s2,s8,s9,b0)
theorem j01z (s1 s2 s8 s9:Int) (b0:Tn2):j00a s1 s2 s8 s9 b0=lpK (j00e s1 s2 s8 s9 b0) (fun h=>j00a h.1 h.2.1 h.2.2.1 h.2.2.2.1 h.2.2.2.2):=j004 _ _
def j003 [LP] (s1 s2 s8:Int) (b0:Tn2):Option ((Int×Int×Int×Tn2) ⊕ (Tn2)):=
 cond (decide (s8<s2)) (
 (j00a s1 s2 s8 s8 b0).bind fun q2_1=>
 let t16_1:=(w64 (q2_1.2.2.1+1))
 some (.inl (q2_1.1,q2_1.2.1,t16_1,q2_1.2.2.2))) (
 some (.inr b0))
def j00b [LP] (s1 s2 s8:Int) (b0:Tn2):Option (Tn2):=
 LP.lp (fun h=>j003 h.1 h.2.1 h.2.2.1 h.2.2.2) (s1,s2,s8,b0)
theorem j00H (s1 s2 s8:Int) (b0:Tn2):j00b s1 s2 s8 b0=lpK (j003 s1 s2 s8 b0) (fun h=>j00b h.1 h.2.1 h.2.2.1 h.2.2.2):=j004 _ _
def j006 [LP] (a0_data:Tn2) (a1_a a2_b:Int):Option (Tn2):=
 let t11:=(w64 (a1_a+1))
 (j00b a1_a a2_b t11 a0_data).bind fun q0=>
 some q0
def j008 [LP] (s1 s6 s7 s8:Int) (b0:Tn2):Option ((Int×Int×Int×Int×Tn2) ⊕ ((Int×Int×Int×Tn2))):=
 cond (decide (s8≤s1)) (
 (j006 b0 s7 s8).bind fun r18_1=>
 let t22_1:=(w64 (s8+s6))
 some (.inl (s1,s6,s8,t22_1,r18_1))) (
 some (.inr (s1,s6,s7,b0)))
def j00l [LP] (s1 s6 s7 s8:Int) (b0:Tn2):Option ((Int×Int×Int×Tn2)):=
 LP.lp (fun h=>j008 h.1 h.2.1 h.2.2.1 h.2.2.2.1 h.2.2.2.2) (s1,s6,s7,s8,b0)
theorem j04j (s1 s6 s7 s8:Int) (b0:Tn2):j00l s1 s6 s7 s8 b0=lpK (j008 s1 s6 s7 s8 b0) (fun h=>j00l h.1 h.2.1 h.2.2.1 h.2.2.2.1 h.2.2.2.2):=j004 _ _
def j01S (s1 s6 s7 s8:Int) (b0:Tn2):Option ((Int×Int×Int×Int×Tn2) ⊕ ((Int×Int×Int×Tn2))):=
 cond (decide (s8≤s1)) (
 let t40_1:=(w64 (s7+s6))
 none) (
 some (.inr (s1,s6,s7,b0)))
def j01n [LP] (s1 s6 s7 s8:Int) (b0:Tn2):Option ((Int×Int×Int×Tn2)):=
 LP.lp (unc5 (j01S)) (s1,s6,s7,s8,b0)
def j009 [LP] (s1 s6:Int) (b0:Tn2):Option ((Int×Int×Tn2) ⊕ (Tn2)):=
 cond (decide (s6<s1)) (
 let t32_1:=(w64 (2*s6))
 (j01n s1 s6 0 t32_1 b0).bind fun q4_1=>
 let t51_1:=(w64 (q4_1.2.2.1+q4_1.2.1))
 cond (decide (t51_1<q4_1.1)) (
 none) (
 let t62_1:=(w64 (q4_1.2.1*2))
 some (.inl (q4_1.1,t62_1,q4_1.2.2.2)))) (
 some (.inr b0))
def j00m [LP] (s1 s6:Int) (b0:Tn2):Option (Tn2):=
 LP.lp (fun h=>j009 h.1 h.2.1 h.2.2) (s1,s6,b0)
theorem j04k (s1 s6:Int) (b0:Tn2):j00m s1 s6 b0=lpK (j009 s1 s6 b0) (fun h=>j00m h.1 h.2.1 h.2.2):=j004 _ _
def j00u [LP] (a0_data:Tn2) (a1_n:Int):Option (Tn2):=
 (j00l a1_n 20 0 20 a0_data).bind fun q0=>
 (j006 q0.2.2.2 q0.2.2.1 q0.1).bind fun r27=>
 (j00m q0.1 q0.2.1 r27).bind fun q2=>
 some q2
def j005 [LP] (a0_x:Tn2):Option (Tn2):=
 let t6:=(Int.ofNat (List.length a0_x))
 (j00u a0_x t6).bind fun r8=>
 some r8
def j01T (s4:Int) (s23:Tn42) (s24 s25:Int) (b1:ByteArray) (b1_1:Int) (b1_2:Tn42):Option ((Int×Tn42×Int×Int×ByteArray×Int×Tn42) ⊕ (Int ⊕ (Int×ByteArray×Int×Tn42))):=
 cond (decide (s25<s24)) (
 cond (inR s25 (List.length s23)) (
 let t27_1:=(List.getD s23 (Int.toNat s25) (0,(0,(0,(0,(0,(0,0)))))))
 (j0do (t27_1.1,(t27_1.2.1,(t27_1.2.2.1,(t27_1.2.2.2.1,(t27_1.2.2.2.2.1,(t27_1.2.2.2.2.2.1,t27_1.2.2.2.2.2.2))))))).bind fun r30_1=>
 cond (r30_1 != 0) (
 some (.inr (.inl r30_1))) (
 let t39_1:=(w64 (t27_1.2.1-t27_1.1))
 let t40_1:=(w64 (t39_1+1))
 let t41_1:=(w64 (s4+t40_1))
 let t42_1:=(w64 (s25+1))
 some (.inl (t41_1,s23,s24,t42_1,b1,b1_1,b1_2)))) none) (
 some (.inr (.inr (s4,b1,b1_1,b1_2))))
def j01U [LP] (s4:Int) (s23:Tn42) (s24 s25:Int) (b1:ByteArray) (b1_1:Int) (b1_2:Tn42):Option (Int ⊕ (Int×ByteArray×Int×Tn42)):=
 LP.lp (fun h=>j01T h.1 h.2.1 h.2.2.1 h.2.2.2.1 h.2.2.2.2.1 h.2.2.2.2.2.1 h.2.2.2.2.2.2) (s4,s23,s24,s25,b1,b1_1,b1_2)
theorem j071 (s4:Int) (s23:Tn42) (s24 s25:Int) (b1:ByteArray) (b1_1:Int) (b1_2:Tn42):j01U s4 s23 s24 s25 b1 b1_1 b1_2=lpK (j01T s4 s23 s24 s25 b1 b1_1 b1_2) (fun h=>j01U h.1 h.2.1 h.2.2.1 h.2.2.2.1 h.2.2.2.2.1 h.2.2.2.2.2.1 h.2.2.2.2.2.2):=j004 _ _
def j00I [LP] (s11:Int) (s46:Tn42) (s47 s48 b10 b10_1 b10_2 b10_3 b10_4 b10_5 b10_6:Int) (l8:Tn2):Option ((Int×Tn42×Int×Int×Int×Int×Int×Int×Int×Int×Int×Tn2) ⊕ ((Tn42×Int×Int×Tn2))):=
 cond (decide (s11≤b10_1)) (
 (j0ar s11 b10_2 b10_3 b10_4).bind fun r68_4=>
 let t73_4:=(w64 (r68_4.1*86400))
 let t76_4:=(w64 (t73_4+b10_5))
 let t80_4:Tn2:=[(t76_4,b10_6)]
 cond (decide (List.length l8+List.length t80_4≤sizeMax)) (
 let t81_4:Tn2:=(l8++t80_4)
 let t59_4:=(w64 (s11+1))
 some (.inl (t59_4,s46,s47,s48,b10,b10_1,b10_2,b10_3,b10_4,b10_5,b10_6,t81_4))) none) (
 some (.inr (s46,s47,s48,l8)))
def j02q [LP] (s11:Int) (s46:Tn42) (s47 s48 b10 b10_1 b10_2 b10_3 b10_4 b10_5 b10_6:Int) (l8:Tn2):Option ((Tn42×Int×Int×Tn2)):=
 LP.lp (fun h=>j00I h.1 h.2.1 h.2.2.1 h.2.2.2.1 h.2.2.2.2.1 h.2.2.2.2.2.1 h.2.2.2.2.2.2.1 h.2.2.2.2.2.2.2.1 h.2.2.2.2.2.2.2.2.1 h.2.2.2.2.2.2.2.2.2.1 h.2.2.2.2.2.2.2.2.2.2.1 h.2.2.2.2.2.2.2.2.2.2.2) (s11,s46,s47,s48,b10,b10_1,b10_2,b10_3,b10_4,b10_5,b10_6,l8)
theorem j072 (s11:Int) (s46:Tn42) (s47 s48 b10 b10_1 b10_2 b10_3 b10_4 b10_5 b10_6:Int) (l8:Tn2):j02q s11 s46 s47 s48 b10 b10_1 b10_2 b10_3 b10_4 b10_5 b10_6 l8=lpK (j00I s11 s46 s47 s48 b10 b10_1 b10_2 b10_3 b10_4 b10_5 b10_6 l8) (fun h=>j02q h.1 h.2.1 h.2.2.1 h.2.2.2.1 h.2.2.2.2.1 h.2.2.2.2.2.1 h.2.2.2.2.2.2.1 h.2.2.2.2.2.2.2.1 h.2.2.2.2.2.2.2.2.1 h.2.2.2.2.2.2.2.2.2.1 h.2.2.2.2.2.2.2.2.2.2.1 h.2.2.2.2.2.2.2.2.2.2.2):=j004 _ _
def j00J [LP] (s46:Tn42) (s47 s48:Int) (l8:Tn2):Option ((Tn42×Int×Int×Tn2) ⊕ (Tn2)):=
 cond (decide (s48<s47)) (
 cond (inR s48 (List.length s46)) (
 let t50_2:=(List.getD s46 (Int.toNat s48) (0,(0,(0,(0,(0,(0,0)))))))
 (j02q t50_2.1 s46 s47 s48 t50_2.1 t50_2.2.1 t50_2.2.2.1 t50_2.2.2.2.1 t50_2.2.2.2.2.1 t50_2.2.2.2.2.2.1 t50_2.2.2.2.2.2.2 l8).bind fun q4_2=>
 let t82_2:=(w64 (q4_2.2.2.1+1))
 some (.inl (q4_2.1,q4_2.2.1,t82_2,q4_2.2.2.2))) none) (
 some (.inr l8))
def j01V [LP] (s46:Tn42) (s47 s48:Int) (l8:Tn2):Option (Tn2):=
 LP.lp (fun h=>j00J h.1 h.2.1 h.2.2.1 h.2.2.2) (s46,s47,s48,l8)
theorem j073 (s46:Tn42) (s47 s48:Int) (l8:Tn2):j01V s46 s47 s48 l8=lpK (j00J s46 s47 s48 l8) (fun h=>j01V h.1 h.2.1 h.2.2.1 h.2.2.2):=j004 _ _
def j02N [LP] (a0_z:Tn52):Option (Tn2×Int):=
 (zone_in a0_z.2.1 (-64800) 64800).bind fun r16=>
 cond (!r16) (
 some (([]:Tn2),1)) (
 let t20:=(Int.ofNat (List.length a0_z.2.2))
 cond (decide (t20>16)) (
 some (([]:Tn2),5)) (
 let t24:=(Int.ofNat (List.length a0_z.2.2))
 (j01U 0 a0_z.2.2 t24 0 a0_z.1 a0_z.2.1 a0_z.2.2).bind fun q0=>
 sumC q0 (fun a=>
 some (([]:Tn2),a)) (fun b=>
 cond (decide (b.1>640)) (
 some (([]:Tn2),5)) (
 let t47:=(Int.ofNat (List.length b.2.2.2))
 (j01V b.2.2.2 t47 0 ([]:Tn2)).bind fun q2=>
 (j005 q2).bind fun r84=>
 some (r84,0)))))
def j01W (s7 s23 s24:Int) (l6 l22:Tn2):Option ((Int×Int×Int×Tn2×Tn2) ⊕ (Int ⊕ Tn2)):=
 cond (decide (s24<s23)) (
 cond (inR s24 (List.length l22)) (
 let t27_4:=(List.getD l22 (Int.toNat s24) (0,0)).1
 let t27_5:=(List.getD l22 (Int.toNat s24) (0,0)).2
 cond (t27_5==s7) (
 let t77_4:=(w64 (s24+1))
 some (.inl (s7,s23,t77_4,l6,l22))) (
 let t35_2:=(w64 (t27_4-s7))
 let t39_2:=(w64 (t27_5-s7))
 cond (cond (decide (t39_2≥86400)) true (decide (t39_2≤(-86400)))) (
 let t53_2:=(Int.ofNat (List.length l6))
 let t59_2:=(Int.ofNat (List.length l6))
 let t60_4:=(w64 (t59_2-1))
 cond ((inR t60_4 (List.length l6)) || !((!true)&&(decide (t53_2>0)))) (
 let t63_2:=(List.getD l6 (Int.toNat t60_4) (0,0)).1
 let t64_2:=(w64 (t63_2+604800))
 some (.inr (.inl 6))) none) (
 (zone_in t35_2 0 8589934592).bind fun r48_2=>
 let t53_3:=(Int.ofNat (List.length l6))
 let t59_3:=(Int.ofNat (List.length l6))
 let t60_5:=(w64 (t59_3-1))
 cond ((inR t60_5 (List.length l6)) || !((!(!r48_2))&&(decide (t53_3>0)))) (
 let t63_3:=(List.getD l6 (Int.toNat t60_5) (0,0)).1
 let t64_3:=(w64 (t63_3+604800))
 cond (cond (!r48_2) true (cond (decide (t53_3>0)) (decide (t35_2<t64_3)) false)) (
 some (.inr (.inl 6))) (
 let t73_2:Tn2:=[(t35_2,t27_5)]
 cond (decide (List.length l6+List.length t73_2≤sizeMax)) (
 let t74_2:Tn2:=(l6++t73_2)
 let t77_5:=(w64 (s24+1))
 some (.inl (t27_5,s23,t77_5,t74_2,l22))) none)) none))) none) (
 some (.inr (.inr l6)))
def j01X [LP] (s7 s23 s24:Int) (l6 l22:Tn2):Option (Int ⊕ Tn2):=
 LP.lp (fun h=>j01W h.1 h.2.1 h.2.2.1 h.2.2.2.1 h.2.2.2.2) (s7,s23,s24,l6,l22)
theorem j074 (s7 s23 s24:Int) (l6 l22:Tn2):j01X s7 s23 s24 l6 l22=lpK (j01W s7 s23 s24 l6 l22) (fun h=>j01X h.1 h.2.1 h.2.2.1 h.2.2.2.1 h.2.2.2.2):=j004 _ _
def j01D [LP] (a0_z:Tn52):Option (Tn2×Int):=
 (j02N (a0_z.1,(a0_z.2.1,a0_z.2.2))).bind fun r14=>
 cond (r14.2 != 0) (
 some (([]:Tn2),r14.2)) (
 let t23:=(Int.ofNat (List.length r14.1))
 (j01X a0_z.2.1 t23 0 ([]:Tn2) r14.1).bind fun q0=>
 sumC q0 (fun a=>
 some (([]:Tn2),a)) (fun b=>
 some (b,0)))
def j075 [LP] (a0_z:Tn52):Option (Int):=
 (j01D (a0_z.1,(a0_z.2.1,a0_z.2.2))).bind fun r7=>
 some r7.2
def j05M (a0_r:Tn38):Option (Bool):=
 let t5:=(Int.tmod a0_r.2.2.2.2.2.2 60)
 some (t5 != 0)
def j00f (s0:Tn42) (s7 s8:Int):Option ((Tn42×Int×Int) ⊕ (Int ⊕ Unit)):=
 cond (decide (s8<s7)) (
 cond (inR s8 (List.length s0)) (
 let t14_1:=(List.getD s0 (Int.toNat s8) (0,(0,(0,(0,(0,(0,0)))))))
 (j05M (t14_1.1,(t14_1.2.1,(t14_1.2.2.1,(t14_1.2.2.2.1,(t14_1.2.2.2.2.1,(t14_1.2.2.2.2.2.1,t14_1.2.2.2.2.2.2))))))).bind fun r16_1=>
 cond r16_1 (
 some (.inr (.inl s8))) (
 let t18_1:=(w64 (s8+1))
 some (.inl (s0,s7,t18_1)))) none) (
 some (.inr (.inr ())))
def j00c [LP] (s0:Tn42) (s7 s8:Int):Option (Int ⊕ Unit):=
 LP.lp (fun h=>j00f h.1 h.2.1 h.2.2) (s0,s7,s8)
theorem j01E (s0:Tn42) (s7 s8:Int):j00c s0 s7 s8=lpK (j00f s0 s7 s8) (fun h=>j00c h.1 h.2.1 h.2.2):=j004 _ _
def j00i [LP] (a0_s:Tn42):Option (Int):=
 let t7:=(Int.ofNat (List.length a0_s))
 (j00c a0_s t7 0).bind fun q0=>
 sumC q0 (fun a=>
 some a) (fun b=>
 some (-1))
def j00d [LP] (a0_s:Tn42):Option (Bool):=
 (j00i a0_s).bind fun r7=>
 some (decide (r7≥0))
def j024 [LP] (a0_z:Tn52):Option (Int):=
 (j075 (a0_z.1,(a0_z.2.1,a0_z.2.2))).bind fun r4=>
 let t9:=(Int.tmod a0_z.2.1 60)
 cond (cond (r4 != 0) true (t9 != 0)) (
 some 8) (
 (j00d a0_z.2.2).bind fun r15=>
 cond r15 (
 some 8) (
 some 0))
def j00p [LP] (s13:Tn54) (s14 s15:Int) (l7:(List (ByteArray×Bool))):Option ((Tn54×Int×Int×(List (ByteArray×Bool))) ⊕ (Int ⊕ Unit)):=
 cond (decide (s15<s14)) (
 cond (inR s15 (List.length s13)) (
 let t17_1:=(List.getD s13 (Int.toNat s15) (ByteArray.empty,(0,([]:Tn42))))
 (j08d (t17_1.1,(t17_1.2.1,t17_1.2.2))).bind fun r21_1=>
 (j02L r21_1 l7).bind fun r23_1=>
 cond (r23_1.1 != 0) (
 some (.inr (.inl r23_1.1))) (
 (j024 (t17_1.1,(t17_1.2.1,t17_1.2.2))).bind fun r29_1=>
 cond (r29_1 != 0) (
 some (.inr (.inl r29_1))) (
 let t33_1:=(w64 (s15+1))
 some (.inl (s13,s14,t33_1,r23_1.2))))) none) (
 some (.inr (.inr ())))
def j00U [LP] (s13:Tn54) (s14 s15:Int) (l7:(List (ByteArray×Bool))):Option (Int ⊕ Unit):=
 LP.lp (fun h=>j00p h.1 h.2.1 h.2.2.1 h.2.2.2) (s13,s14,s15,l7)
theorem j04B (s13:Tn54) (s14 s15:Int) (l7:(List (ByteArray×Bool))):j00U s13 s14 s15 l7=lpK (j00p s13 s14 s15 l7) (fun h=>j00U h.1 h.2.1 h.2.2.1 h.2.2.2):=j004 _ _
def j01i [LP] (a0_l:Tn54):Option (Int):=
 let t12:(List (ByteArray×Bool)):=([]:(List (ByteArray×Bool)))
 let t14:=(Int.ofNat (List.length a0_l))
 (j00U a0_l t14 0 t12).bind fun q0=>
 sumC q0 (fun a=>
 some a) (fun b=>
 some 0)
def j01L (a0_i a1_n:Int):Option (Bool):=
 some (cond (decide (a0_i≥0)) (decide (a0_i<a1_n)) false)
def j03v (s0 s8:Tn2) (s9 s10:Int):Option ((Tn2×Tn2×Int×Int) ⊕ (Int ⊕ Unit)):=
 cond (decide (s10<s9)) (
 cond (inR s10 (List.length s8)) (
 let t13_1:=(List.getD s8 (Int.toNat s10) (0,0))
 let t30_1:Bool:=(cond (cond (decide (t13_1.1<0)) true (decide (t13_1.1≥t13_1.2))) true (decide (t13_1.2>604800)))
 cond t30_1 (
 some (.inr (.inl 1))) (
 cond (decide (s10>0)) (
 let t39_1:=(w64 (s10-1))
 cond (inR t39_1 (List.length s0)) (
 let t40_1:=(List.getD s0 (Int.toNat t39_1) (0,0))
 cond (decide (t13_1.1<t40_1.2)) (
 some (.inr (.inl 6))) (
 let t45_2:=(w64 (s10+1))
 some (.inl (s0,s8,s9,t45_2)))) none) (
 let t45_3:=(w64 (s10+1))
 some (.inl (s0,s8,s9,t45_3))))) none) (
 some (.inr (.inr ())))
def j064 [LP] (s0 s8:Tn2) (s9 s10:Int):Option (Int ⊕ Unit):=
 LP.lp (fun h=>j03v h.1 h.2.1 h.2.2.1 h.2.2.2) (s0,s8,s9,s10)
theorem j0bs (s0 s8:Tn2) (s9 s10:Int):j064 s0 s8 s9 s10=lpK (j03v s0 s8 s9 s10) (fun h=>j064 h.1 h.2.1 h.2.2.1 h.2.2.2):=j004 _ _
def j076 [LP] (a0_l:Tn2):Option (Int):=
 let t6:=(Int.ofNat (List.length a0_l))
 cond (decide (t6>14)) (
 some 5) (
 let t9:=(Int.ofNat (List.length a0_l))
 (j064 a0_l a0_l t9 0).bind fun q0=>
 sumC q0 (fun a=>
 some a) (fun b=>
 some 0))
def j069 (a0_n a1_lo a2_hi:Int):Option (Bool):=
 some (cond (decide (a0_n≥a1_lo)) (decide (a0_n≤a2_hi)) false)
def j03T (a0_n:Int):Option (Bool):=
 (j069 a0_n 0 604800).bind fun r4=>
 let t7:=(Int.tmod a0_n 3600)
 some (cond r4 (t7==0) false)
def j01e [LP] (a0_c:Tn71) (a1_p:Tn44):Option (Int):=
 let t10:=(Int.ofNat (List.length a0_c.1))
 (j01L a1_p.2.1 t10).bind fun r11=>
 cond (!r11) (
 some 3) (
 (j076 a1_p.2.2.1).bind fun r16=>
 cond (r16 != 0) (
 some 8) (
 (j03T a1_p.2.2.2.1).bind fun r21=>
 cond (!r21) (
 some 1) (
 (j03T a1_p.2.2.2.2.1).bind fun r26=>
 cond (!r26) (
 some 1) (
 some 0))))
def j08e (a0_x:Tn19):Option (ByteArray):=
 some a0_x.1
def j0a7 (s0 s3:Int):Option ((Int×Int) ⊕ (Int)):=
 let t8_1:=(w64 (s3+1))
 (j04g t8_1).bind fun r9_1=>
 cond (decide (r9_1≤s0)) (
 let t13_1:=(w64 (s3+1))
 some (.inl (s0,t13_1))) (
 some (.inr s3))
def j0bt [LP] (s0 s3:Int):Option (Int):=
 LP.lp (unc2 (j0a7)) (s0,s3)
def j0bu [LP] (a0_day:Int):Option (Int):=
 (j06F a0_day 366).bind fun r5=>
 let t6:=(w64 (1970+r5))
 (j0bt a0_day t6).bind fun q0=>
 some q0
def j08f (s5 b2 b2_1 b2_2 b4 b4_1 b4_2:Int):Option ((Int×Int×Int×Int×Int×Int×Int) ⊕ ((Int×Int×Int×Int×Int×Int×Int))):=
 (j067 b4 b4_1).bind fun r28_1=>
 cond (decide (s5≥r28_1)) (
 (j067 b4 b4_1).bind fun r35_1=>
 let t36_1:=(w64 (s5-r35_1))
 let t39_1:=(w64 (b4_1+1))
 some (.inl (t36_1,b2,b2_1,b2_2,b4,t39_1,b4_2))) (
 some (.inr (s5,b2,b2_1,b2_2,b4,b4_1,b4_2)))
def j09z [LP] (s5 b2 b2_1 b2_2 b4 b4_1 b4_2:Int):Option ((Int×Int×Int×Int×Int×Int×Int)):=
 LP.lp (unc7 (j08f)) (s5,b2,b2_1,b2_2,b4,b4_1,b4_2)
def j04C [LP] (a0_day:Int):Option (Tn3×Int):=
 (j04g 1970).bind fun r7=>
 cond (decide (a0_day<r7)) (
 some ((0,(0,0)),1)) (
 (j04g 2241).bind fun r11=>
 cond (decide (a0_day≥r11)) (
 some ((0,(0,0)),1)) (
 (j0bu a0_day).bind fun r16=>
 (j04g r16).bind fun r21=>
 let t22:=(w64 (a0_day-r21))
 (j09z t22 0 0 0 r16 1 0).bind fun q0=>
 let t42:=(w64 (q0.1+1))
 some ((q0.2.2.2.2.1,(q0.2.2.2.2.2.1,t42)),0)))
def j00V [LP] (a0_n:Int):Option (Bool):=
 (j04C a0_n).bind fun r7=>
 some (r7.2==0)
def j01o [LP] (a0_n:Int):Option (Bool):=
 (j00V a0_n).bind fun r4=>
 some (!r4)
def j00k [LP] (s0:(List Int)) (s7 s8:Int):Option (((List Int)×Int×Int) ⊕ (Int ⊕ Unit)):=
 cond (decide (s8<s7)) (
 cond (inR s8 (List.length s0)) (
 let t14_1:=(List.getD s0 (Int.toNat s8) 0)
 (j01o t14_1).bind fun r16_1=>
 cond r16_1 (
 some (.inr (.inl s8))) (
 let t18_1:=(w64 (s8+1))
 some (.inl (s0,s7,t18_1)))) none) (
 some (.inr (.inr ())))
def j00X [LP] (s0:(List Int)) (s7 s8:Int):Option (Int ⊕ Unit):=
 LP.lp (fun h=>j00k h.1 h.2.1 h.2.2) (s0,s7,s8)
theorem j048 (s0:(List Int)) (s7 s8:Int):j00X s0 s7 s8=lpK (j00k s0 s7 s8) (fun h=>j00X h.1 h.2.1 h.2.2):=j004 _ _
def j01p [LP] (a0_s:(List Int)):Option (Int):=
 let t7:=(Int.ofNat (List.length a0_s))
 (j00X a0_s t7 0).bind fun q0=>
 sumC q0 (fun a=>
 some a) (fun b=>
 some (-1))
def j00Y [LP] (a0_s:(List Int)):Option (Bool):=
 (j01p a0_s).bind fun r7=>
 some (decide (r7≥0))
def j01f (s25 s26:Int) (b3:ByteArray) (b3_1:Int) (b3_2:(List Int)):Option ((Int×Int×ByteArray×Int×(List Int)) ⊕ (Int ⊕ Unit)):=
 cond (decide (s26<s25)) (
 cond (decide (s26>0)) (
 cond (inR s26 (List.length b3_2)) (
 let t35_1:=(List.getD b3_2 (Int.toNat s26) 0)
 let t40_1:=(w64 (s26-1))
 cond (inR t40_1 (List.length b3_2)) (
 let t41_1:=(List.getD b3_2 (Int.toNat t40_1) 0)
 cond (decide (t35_1≤t41_1)) (
 some (.inr (.inl 6))) (
 let t45_2:=(w64 (s26+1))
 some (.inl (s25,t45_2,b3,b3_1,b3_2)))) none) none) (
 let t45_3:=(w64 (s26+1))
 some (.inl (s25,t45_3,b3,b3_1,b3_2)))) (
 some (.inr (.inr ())))
def j01q [LP] (s25 s26:Int) (b3:ByteArray) (b3_1:Int) (b3_2:(List Int)):Option (Int ⊕ Unit):=
 LP.lp (fun h=>j01f h.1 h.2.1 h.2.2.1 h.2.2.2.1 h.2.2.2.2) (s25,s26,b3,b3_1,b3_2)
theorem j059 (s25 s26:Int) (b3:ByteArray) (b3_1:Int) (b3_2:(List Int)):j01q s25 s26 b3 b3_1 b3_2=lpK (j01f s25 s26 b3 b3_1 b3_2) (fun h=>j01q h.1 h.2.1 h.2.2.1 h.2.2.2.1 h.2.2.2.2):=j004 _ _
def j018 [LP] (a0_c:Tn71) (a1_x:Tn19):Option (Int):=
 let t11:=(Int.ofNat (List.length a0_c.1))
 (j01L a1_x.2.1 t11).bind fun r12=>
 cond (!r12) (
 some 3) (
 let t17:=(Int.ofNat (List.length a1_x.2.2))
 cond (decide (t17>64)) (
 some 5) (
 (j00Y a1_x.2.2).bind fun r22=>
 cond r22 (
 some 1) (
 let t25:=(Int.ofNat (List.length a1_x.2.2))
 (j01q t25 0 a1_x.1 a1_x.2.1 a1_x.2.2).bind fun q1=>
 sumC q1 (fun a=>
 some a) (fun b=>
 some 0))))
def j03w [LP] (a0_x:Tn19) (a1:Tn54) (a1_1:Tn48) (a1_2:Tn26) (a1_3:Tn65):Option (Int):=
 (j018 (a1,(a1_1,(a1_2,a1_3))) (a0_x.1,(a0_x.2.1,a0_x.2.2))).bind fun r6=>
 some r6
def j00g [LP] (s2:Tn54) (s2_1:Tn48) (s2_2:Tn26) (s2_3:Tn65) (s13:Tn26) (s14 s15:Int) (l7:(List (ByteArray×Bool))):Option ((Tn54×Tn48×Tn26×Tn65×Tn26×Int×Int×(List (ByteArray×Bool))) ⊕ (Int ⊕ Unit)):=
 cond (decide (s15<s14)) (
 cond (inR s15 (List.length s13)) (
 let t17_1:=(List.getD s13 (Int.toNat s15) (ByteArray.empty,(0,([]:(List Int)))))
 (j08e (t17_1.1,(t17_1.2.1,t17_1.2.2))).bind fun r21_1=>
 (j02L r21_1 l7).bind fun r23_1=>
 cond (r23_1.1 != 0) (
 some (.inr (.inl r23_1.1))) (
 (j03w (t17_1.1,(t17_1.2.1,t17_1.2.2)) s2 s2_1 s2_2 s2_3).bind fun r29_1=>
 cond (r29_1 != 0) (
 some (.inr (.inl r29_1))) (
 let t33_1:=(w64 (s15+1))
 some (.inl (s2,s2_1,s2_2,s2_3,s13,s14,t33_1,r23_1.2))))) none) (
 some (.inr (.inr ())))
def j00x [LP] (s2:Tn54) (s2_1:Tn48) (s2_2:Tn26) (s2_3:Tn65) (s13:Tn26) (s14 s15:Int) (l7:(List (ByteArray×Bool))):Option (Int ⊕ Unit):=
 LP.lp (fun h=>j00g h.1 h.2.1 h.2.2.1 h.2.2.2.1 h.2.2.2.2.1 h.2.2.2.2.2.1 h.2.2.2.2.2.2.1 h.2.2.2.2.2.2.2) (s2,s2_1,s2_2,s2_3,s13,s14,s15,l7)
theorem j03x (s2:Tn54) (s2_1:Tn48) (s2_2:Tn26) (s2_3:Tn65) (s13:Tn26) (s14 s15:Int) (l7:(List (ByteArray×Bool))):j00x s2 s2_1 s2_2 s2_3 s13 s14 s15 l7=lpK (j00g s2 s2_1 s2_2 s2_3 s13 s14 s15 l7) (fun h=>j00x h.1 h.2.1 h.2.2.1 h.2.2.2.1 h.2.2.2.2.1 h.2.2.2.2.2.1 h.2.2.2.2.2.2.1 h.2.2.2.2.2.2.2):=j004 _ _
def j00N [LP] (a0_l:Tn26) (a2_check:Tn54) (a2_check_1:Tn48) (a2_check_2:Tn26) (a2_check_3:Tn65):Option (Int):=
 let t12:(List (ByteArray×Bool)):=([]:(List (ByteArray×Bool)))
 let t14:=(Int.ofNat (List.length a0_l))
 (j00x a2_check a2_check_1 a2_check_2 a2_check_3 a0_l t14 0 t12).bind fun q0=>
 sumC q0 (fun a=>
 some a) (fun b=>
 some 0)
def j08g (a0_s:Tn64):Option (ByteArray):=
 some a0_s.1
def j03W (a0_l:Tn59):Option (ByteArray):=
 some a0_l.1
def j05b (a0_m:Int) (a1:Tn54) (a1_1:Tn48) (a1_2:Tn26) (a1_3:Tn65):Option (Bool):=
 let t7:=(Int.ofNat (List.length a1_1))
 (j01L a0_m t7).bind fun r8=>
 some (!r8)
def j00A (s0:(List Int)) (s1:Tn54) (s1_1:Tn48) (s1_2:Tn26) (s1_3:Tn65) (s7 s8:Int):Option (((List Int)×Tn54×Tn48×Tn26×Tn65×Int×Int) ⊕ (Int ⊕ Unit)):=
 cond (decide (s8<s7)) (
 cond (inR s8 (List.length s0)) (
 let t14_1:=(List.getD s0 (Int.toNat s8) 0)
 (j05b t14_1 s1 s1_1 s1_2 s1_3).bind fun r16_1=>
 cond r16_1 (
 some (.inr (.inl s8))) (
 let t18_1:=(w64 (s8+1))
 some (.inl (s0,s1,s1_1,s1_2,s1_3,s7,t18_1)))) none) (
 some (.inr (.inr ())))
def j00D [LP] (s0:(List Int)) (s1:Tn54) (s1_1:Tn48) (s1_2:Tn26) (s1_3:Tn65) (s7 s8:Int):Option (Int ⊕ Unit):=
 LP.lp (fun h=>j00A h.1 h.2.1 h.2.2.1 h.2.2.2.1 h.2.2.2.2.1 h.2.2.2.2.2.1 h.2.2.2.2.2.2) (s0,s1,s1_1,s1_2,s1_3,s7,s8)
theorem j03n (s0:(List Int)) (s1:Tn54) (s1_1:Tn48) (s1_2:Tn26) (s1_3:Tn65) (s7 s8:Int):j00D s0 s1 s1_1 s1_2 s1_3 s7 s8=lpK (j00A s0 s1 s1_1 s1_2 s1_3 s7 s8) (fun h=>j00D h.1 h.2.1 h.2.2.1 h.2.2.2.1 h.2.2.2.2.1 h.2.2.2.2.2.1 h.2.2.2.2.2.2):=j004 _ _
def j00Z [LP] (a0_s:(List Int)) (a1_f:Tn54) (a1_f_1:Tn48) (a1_f_2:Tn26) (a1_f_3:Tn65):Option (Int):=
 let t7:=(Int.ofNat (List.length a0_s))
 (j00D a0_s a1_f a1_f_1 a1_f_2 a1_f_3 t7 0).bind fun q0=>
 sumC q0 (fun a=>
 some a) (fun b=>
 some (-1))
def j00E [LP] (a0_s:(List Int)) (a1_f:Tn54) (a1_f_1:Tn48) (a1_f_2:Tn26) (a1_f_3:Tn65):Option (Bool):=
 (j00Z a0_s a1_f a1_f_1 a1_f_2 a1_f_3).bind fun r7=>
 some (decide (r7≥0))
def j01M [LP] (a0_c:Tn71) (a1_l:Tn59):Option (Int):=
 let t10:=(Int.ofNat (List.length a0_c.1))
 (j01L a1_l.2.1 t10).bind fun r11=>
 cond (!r11) (
 some 3) (
 cond (decide (a1_l.2.2.1.1<1)) (
 some 1) (
 (j00V a1_l.2.2.1.1).bind fun r22=>
 cond (!r22) (
 some 1) (
 (j069 a1_l.2.2.1.2 0 86399).bind fun r29=>
 cond (!r29) (
 some 1) (
 (j069 a1_l.2.2.2.1 0 2).bind fun r35=>
 cond (!r35) (
 some 1) (
 (j069 a1_l.2.2.2.2.1 1 400).bind fun r41=>
 cond (!r41) (
 some 1) (
 let t47:=(Int.ofNat (List.length a1_l.2.2.2.2.2.1))
 cond (t47==0) (
 some 7) (
 let t52:=(Int.ofNat (List.length a1_l.2.2.2.2.2.1))
 cond (decide (t52>12)) (
 some 5) (
 (j00E a1_l.2.2.2.2.2.1 a0_c.1 a0_c.2.1 a0_c.2.2.1 a0_c.2.2.2).bind fun r58=>
 cond r58 (
 some 3) (
 (j076 a1_l.2.2.2.2.2.2.1).bind fun r62=>
 cond (r62 != 0) (
 some 8) (
 (j069 a1_l.2.2.2.2.2.2.2.2 0 2).bind fun r67=>
 cond (!r67) (
 some 1) (
 let t78:=(Int.ofNat (List.length a0_c.2.2.1))
 cond (a1_l.2.2.2.2.2.2.2.2 != 0) (
 (j01L a1_l.2.2.2.2.2.2.2.1 t78).bind fun r79=>
 cond (!r79) (
 some 3) (
 cond (cond (a1_l.2.2.2.2.2.2.2.2==0) (a1_l.2.2.2.2.2.2.2.1 != 0) false) (
 some 1) (
 some 0))) (
 cond (cond (a1_l.2.2.2.2.2.2.2.2==0) (a1_l.2.2.2.2.2.2.2.1 != 0) false) (
 some 1) (
 some 0)))))))))))))
def j01r [LP] (a0_l:Tn59) (a1:Tn54) (a1_1:Tn48) (a1_2:Tn26) (a1_3:Tn65):Option (Int):=
 (j01M (a1,(a1_1,(a1_2,a1_3))) (a0_l.1,(a0_l.2.1,((a0_l.2.2.1.1,a0_l.2.2.1.2),(a0_l.2.2.2.1,(a0_l.2.2.2.2.1,(a0_l.2.2.2.2.2.1,(a0_l.2.2.2.2.2.2.1,(a0_l.2.2.2.2.2.2.2.1,a0_l.2.2.2.2.2.2.2.2))))))))).bind fun r6=>
 some r6
def j00n [LP] (s2:Tn54) (s2_1:Tn48) (s2_2:Tn26) (s2_3:Tn65) (s13:Tn60) (s14 s15:Int) (l7:(List (ByteArray×Bool))):Option ((Tn54×Tn48×Tn26×Tn65×Tn60×Int×Int×(List (ByteArray×Bool))) ⊕ (Int ⊕ Unit)):=
 cond (decide (s15<s14)) (
 cond (inR s15 (List.length s13)) (
 let t17_1:=(List.getD s13 (Int.toNat s15) (ByteArray.empty,(0,((0,0),(0,(0,(([]:(List Int)),(([]:Tn2),(0,0)))))))))
 (j03W (t17_1.1,(t17_1.2.1,((t17_1.2.2.1.1,t17_1.2.2.1.2),(t17_1.2.2.2.1,(t17_1.2.2.2.2.1,(t17_1.2.2.2.2.2.1,(t17_1.2.2.2.2.2.2.1,(t17_1.2.2.2.2.2.2.2.1,t17_1.2.2.2.2.2.2.2.2))))))))).bind fun r21_1=>
 (j02L r21_1 l7).bind fun r23_1=>
 cond (r23_1.1 != 0) (
 some (.inr (.inl r23_1.1))) (
 (j01r (t17_1.1,(t17_1.2.1,((t17_1.2.2.1.1,t17_1.2.2.1.2),(t17_1.2.2.2.1,(t17_1.2.2.2.2.1,(t17_1.2.2.2.2.2.1,(t17_1.2.2.2.2.2.2.1,(t17_1.2.2.2.2.2.2.2.1,t17_1.2.2.2.2.2.2.2.2)))))))) s2 s2_1 s2_2 s2_3).bind fun r29_1=>
 cond (r29_1 != 0) (
 some (.inr (.inl r29_1))) (
 let t33_1:=(w64 (s15+1))
 some (.inl (s2,s2_1,s2_2,s2_3,s13,s14,t33_1,r23_1.2))))) none) (
 some (.inr (.inr ())))
def j00O [LP] (s2:Tn54) (s2_1:Tn48) (s2_2:Tn26) (s2_3:Tn65) (s13:Tn60) (s14 s15:Int) (l7:(List (ByteArray×Bool))):Option (Int ⊕ Unit):=
 LP.lp (fun h=>j00n h.1 h.2.1 h.2.2.1 h.2.2.2.1 h.2.2.2.2.1 h.2.2.2.2.2.1 h.2.2.2.2.2.2.1 h.2.2.2.2.2.2.2) (s2,s2_1,s2_2,s2_3,s13,s14,s15,l7)
theorem j04s (s2:Tn54) (s2_1:Tn48) (s2_2:Tn26) (s2_3:Tn65) (s13:Tn60) (s14 s15:Int) (l7:(List (ByteArray×Bool))):j00O s2 s2_1 s2_2 s2_3 s13 s14 s15 l7=lpK (j00n s2 s2_1 s2_2 s2_3 s13 s14 s15 l7) (fun h=>j00O h.1 h.2.1 h.2.2.1 h.2.2.2.1 h.2.2.2.2.1 h.2.2.2.2.2.1 h.2.2.2.2.2.2.1 h.2.2.2.2.2.2.2):=j004 _ _
def j01d [LP] (a0_l:Tn60) (a2_check:Tn54) (a2_check_1:Tn48) (a2_check_2:Tn26) (a2_check_3:Tn65):Option (Int):=
 let t12:(List (ByteArray×Bool)):=([]:(List (ByteArray×Bool)))
 let t14:=(Int.ofNat (List.length a0_l))
 (j00O a2_check a2_check_1 a2_check_2 a2_check_3 a0_l t14 0 t12).bind fun q0=>
 sumC q0 (fun a=>
 some a) (fun b=>
 some 0)
def j025 [LP] (a0_c:Tn71) (a1_x:Tn24):Option (Int):=
 let t8:=(Int.ofNat (List.length a0_c.2.1))
 (j069 a1_x.1 0 2).bind fun r12=>
 cond (!r12) (
 some 1) (
 (j01L a1_x.2.1 t8).bind fun r18=>
 cond (cond (!r18) (!(cond (a1_x.1==1) (a1_x.2.1==(-1)) false)) false) (
 cond (cond (!r18) (!(cond (a1_x.1==1) (a1_x.2.1==(-1)) false)) false) (
 some 3) (
 cond (cond (a1_x.1 != 2) (a1_x.2.2.1 != 0) false) (
 some 1) (
 cond (cond (a1_x.1==2) (a1_x.2.1==a1_x.2.2.1) false) (
 some 4) (
 let t73:=(w64 (Int.tdiv a1_x.2.2.2.2 86400))
 cond (cond (decide (a1_x.2.2.2.1<0)) true (decide (a1_x.2.2.2.2<0))) (
 some 1) (
 (j00V t73).bind fun r74=>
 cond (!r74) (
 some 1) (
 cond (decide (a1_x.2.2.2.1≥a1_x.2.2.2.2)) (
 some 6) (
 some 0))))))) (
 cond (a1_x.1==2) (
 (j01L a1_x.2.2.1 t8).bind fun r38=>
 cond (!r38) (
 some 3) (
 cond (cond (a1_x.1 != 2) (a1_x.2.2.1 != 0) false) (
 some 1) (
 cond (cond (a1_x.1==2) (a1_x.2.1==a1_x.2.2.1) false) (
 some 4) (
 let t73_1:=(w64 (Int.tdiv a1_x.2.2.2.2 86400))
 cond (cond (decide (a1_x.2.2.2.1<0)) true (decide (a1_x.2.2.2.2<0))) (
 some 1) (
 (j00V t73_1).bind fun r74_1=>
 cond (!r74_1) (
 some 1) (
 cond (decide (a1_x.2.2.2.1≥a1_x.2.2.2.2)) (
 some 6) (
 some 0))))))) (
 cond (cond (a1_x.1 != 2) (a1_x.2.2.1 != 0) false) (
 some 1) (
 cond (cond (a1_x.1==2) (a1_x.2.1==a1_x.2.2.1) false) (
 some 4) (
 let t73_2:=(w64 (Int.tdiv a1_x.2.2.2.2 86400))
 cond (cond (decide (a1_x.2.2.2.1<0)) true (decide (a1_x.2.2.2.2<0))) (
 some 1) (
 (j00V t73_2).bind fun r74_2=>
 cond (!r74_2) (
 some 1) (
 cond (decide (a1_x.2.2.2.1≥a1_x.2.2.2.2)) (
 some 6) (
 some 0))))))))
def j00t [LP] (s27:Tn29) (s28 s29:Int) (b2:Tn54) (b2_1:Tn48) (b2_2:Tn26) (b2_3:Tn65):Option ((Tn29×Int×Int×Tn54×Tn48×Tn26×Tn65) ⊕ (Int ⊕ Unit)):=
 cond (decide (s29<s28)) (
 cond (inR s29 (List.length s27)) (
 let t31_1:=(List.getD s27 (Int.toNat s29) (0,(0,(0,(0,0)))))
 (j025 (b2,(b2_1,(b2_2,b2_3))) (t31_1.1,(t31_1.2.1,(t31_1.2.2.1,(t31_1.2.2.2.1,t31_1.2.2.2.2))))).bind fun r35_1=>
 cond (r35_1 != 0) (
 some (.inr (.inl r35_1))) (
 let t39_1:=(w64 (s29+1))
 some (.inl (s27,s28,t39_1,b2,b2_1,b2_2,b2_3)))) none) (
 some (.inr (.inr ())))
def j01s [LP] (s27:Tn29) (s28 s29:Int) (b2:Tn54) (b2_1:Tn48) (b2_2:Tn26) (b2_3:Tn65):Option (Int ⊕ Unit):=
 LP.lp (fun h=>j00t h.1 h.2.1 h.2.2.1 h.2.2.2.1 h.2.2.2.2.1 h.2.2.2.2.2.1 h.2.2.2.2.2.2) (s27,s28,s29,b2,b2_1,b2_2,b2_3)
theorem j05a (s27:Tn29) (s28 s29:Int) (b2:Tn54) (b2_1:Tn48) (b2_2:Tn26) (b2_3:Tn65):j01s s27 s28 s29 b2 b2_1 b2_2 b2_3=lpK (j00t s27 s28 s29 b2 b2_1 b2_2 b2_3) (fun h=>j01s h.1 h.2.1 h.2.2.1 h.2.2.2.1 h.2.2.2.2.1 h.2.2.2.2.2.1 h.2.2.2.2.2.2):=j004 _ _
def j019 [LP] (a0_c:Tn71) (a1_s:Tn64):Option (Int):=
 let t11:=(Int.ofNat (List.length a1_s.2.1))
 let t16:=(Int.ofNat (List.length a1_s.2.2))
 cond (cond (decide (t11>6)) true (decide (t16>48))) (
 some 5) (
 (j01d a1_s.2.1 a0_c.1 a0_c.2.1 a0_c.2.2.1 a0_c.2.2.2).bind fun r22=>
 cond (r22 != 0) (
 some r22) (
 let t28:=(Int.ofNat (List.length a1_s.2.2))
 (j01s a1_s.2.2 t28 0 a0_c.1 a0_c.2.1 a0_c.2.2.1 a0_c.2.2.2).bind fun q0=>
 sumC q0 (fun a=>
 some a) (fun b=>
 some 0)))
def j03y [LP] (a0_s:Tn64) (a1:Tn54) (a1_1:Tn48) (a1_2:Tn26) (a1_3:Tn65):Option (Int):=
 (j019 (a1,(a1_1,(a1_2,a1_3))) (a0_s.1,(a0_s.2.1,a0_s.2.2))).bind fun r6=>
 some r6
def j00h [LP] (s2:Tn54) (s2_1:Tn48) (s2_2:Tn26) (s2_3 s13:Tn65) (s14 s15:Int) (l7:(List (ByteArray×Bool))):Option ((Tn54×Tn48×Tn26×Tn65×Tn65×Int×Int×(List (ByteArray×Bool))) ⊕ (Int ⊕ Unit)):=
 cond (decide (s15<s14)) (
 cond (inR s15 (List.length s13)) (
 let t17_1:=(List.getD s13 (Int.toNat s15) (ByteArray.empty,(([]:Tn60),([]:Tn29))))
 (j08g (t17_1.1,(t17_1.2.1,t17_1.2.2))).bind fun r21_1=>
 (j02L r21_1 l7).bind fun r23_1=>
 cond (r23_1.1 != 0) (
 some (.inr (.inl r23_1.1))) (
 (j03y (t17_1.1,(t17_1.2.1,t17_1.2.2)) s2 s2_1 s2_2 s2_3).bind fun r29_1=>
 cond (r29_1 != 0) (
 some (.inr (.inl r29_1))) (
 let t33_1:=(w64 (s15+1))
 some (.inl (s2,s2_1,s2_2,s2_3,s13,s14,t33_1,r23_1.2))))) none) (
 some (.inr (.inr ())))
def j00y [LP] (s2:Tn54) (s2_1:Tn48) (s2_2:Tn26) (s2_3 s13:Tn65) (s14 s15:Int) (l7:(List (ByteArray×Bool))):Option (Int ⊕ Unit):=
 LP.lp (fun h=>j00h h.1 h.2.1 h.2.2.1 h.2.2.2.1 h.2.2.2.2.1 h.2.2.2.2.2.1 h.2.2.2.2.2.2.1 h.2.2.2.2.2.2.2) (s2,s2_1,s2_2,s2_3,s13,s14,s15,l7)
theorem j03z (s2:Tn54) (s2_1:Tn48) (s2_2:Tn26) (s2_3 s13:Tn65) (s14 s15:Int) (l7:(List (ByteArray×Bool))):j00y s2 s2_1 s2_2 s2_3 s13 s14 s15 l7=lpK (j00h s2 s2_1 s2_2 s2_3 s13 s14 s15 l7) (fun h=>j00y h.1 h.2.1 h.2.2.1 h.2.2.2.1 h.2.2.2.2.1 h.2.2.2.2.2.1 h.2.2.2.2.2.2.1 h.2.2.2.2.2.2.2):=j004 _ _
def j016 [LP] (a0_l:Tn65) (a2_check:Tn54) (a2_check_1:Tn48) (a2_check_2:Tn26) (a2_check_3:Tn65):Option (Int):=
 let t12:(List (ByteArray×Bool)):=([]:(List (ByteArray×Bool)))
 let t14:=(Int.ofNat (List.length a0_l))
 (j00y a2_check a2_check_1 a2_check_2 a2_check_3 a0_l t14 0 t12).bind fun q0=>
 sumC q0 (fun a=>
 some a) (fun b=>
 some 0)
def j01a [LP] (s39:Tn48) (s40 s41:Int) (b1:Tn54) (b1_1:Tn48) (b1_2:Tn26) (b1_3:Tn65) (l4:(List (ByteArray×Bool))):Option ((Tn48×Int×Int×Tn54×Tn48×Tn26×Tn65×(List (ByteArray×Bool))) ⊕ (Int ⊕ (Tn54×Tn48×Tn26×Tn65))):=
 cond (decide (s41<s40)) (
 cond (inR s41 (List.length s39)) (
 let t43_1:=(List.getD s39 (Int.toNat s41) (ByteArray.empty,(0,(([]:Tn2),(0,(0,false))))))
 (j02L t43_1.1 l4).bind fun r48_1=>
 let t51:Bool:=(ByteArray.toList t43_1.1==ByteArray.toList (ByteArray.mk #[110,111,98,111,100,121]))
 cond t51 (
 cond (2==0) (
 (j01e (b1,(b1_1,(b1_2,b1_3))) (t43_1.1,(t43_1.2.1,(t43_1.2.2.1,(t43_1.2.2.2.1,(t43_1.2.2.2.2.1,t43_1.2.2.2.2.2)))))).bind fun r56_2=>
 cond (r56_2 != 0) (
 some (.inr (.inl r56_2))) (
 let t60_4:=(w64 (s41+1))
 some (.inl (s39,s40,t60_4,b1,b1_1,b1_2,b1_3,r48_1.2)))) (
 cond (2 != 0) (
 some (.inr (.inl 2))) (
 let t60_5:=(w64 (s41+1))
 some (.inl (s39,s40,t60_5,b1,b1_1,b1_2,b1_3,r48_1.2))))) (
 cond (r48_1.1==0) (
 (j01e (b1,(b1_1,(b1_2,b1_3))) (t43_1.1,(t43_1.2.1,(t43_1.2.2.1,(t43_1.2.2.2.1,(t43_1.2.2.2.2.1,t43_1.2.2.2.2.2)))))).bind fun r56_3=>
 cond (r56_3 != 0) (
 some (.inr (.inl r56_3))) (
 let t60_6:=(w64 (s41+1))
 some (.inl (s39,s40,t60_6,b1,b1_1,b1_2,b1_3,r48_1.2)))) (
 cond (r48_1.1 != 0) (
 some (.inr (.inl r48_1.1))) (
 let t60_7:=(w64 (s41+1))
 some (.inl (s39,s40,t60_7,b1,b1_1,b1_2,b1_3,r48_1.2)))))) none) (
 some (.inr (.inr (b1,b1_1,b1_2,b1_3))))
def j02O [LP] (s39:Tn48) (s40 s41:Int) (b1:Tn54) (b1_1:Tn48) (b1_2:Tn26) (b1_3:Tn65) (l4:(List (ByteArray×Bool))):Option (Int ⊕ (Tn54×Tn48×Tn26×Tn65)):=
 LP.lp (fun h=>j01a h.1 h.2.1 h.2.2.1 h.2.2.2.1 h.2.2.2.2.1 h.2.2.2.2.2.1 h.2.2.2.2.2.2.1 h.2.2.2.2.2.2.2) (s39,s40,s41,b1,b1_1,b1_2,b1_3,l4)
theorem j099 (s39:Tn48) (s40 s41:Int) (b1:Tn54) (b1_1:Tn48) (b1_2:Tn26) (b1_3:Tn65) (l4:(List (ByteArray×Bool))):j02O s39 s40 s41 b1 b1_1 b1_2 b1_3 l4=lpK (j01a s39 s40 s41 b1 b1_1 b1_2 b1_3 l4) (fun h=>j02O h.1 h.2.1 h.2.2.1 h.2.2.2.1 h.2.2.2.2.1 h.2.2.2.2.2.1 h.2.2.2.2.2.2.1 h.2.2.2.2.2.2.2):=j004 _ _
def j03U [LP] (a0_c:Tn71):Option (Int):=
 let t11:=(Int.ofNat (List.length a0_c.1))
 let t16:=(Int.ofNat (List.length a0_c.2.1))
 let t22:=(Int.ofNat (List.length a0_c.2.2.1))
 let t24:Bool:=(cond (cond (decide (t11>16)) true (decide (t16>32))) true (decide (t22>8)))
 let t28:=(Int.ofNat (List.length a0_c.2.2.2))
 cond (cond t24 true (decide (t28>12))) (
 some 5) (
 (j01i a0_c.1).bind fun r33=>
 cond (r33 != 0) (
 some r33) (
 let t37:(List (ByteArray×Bool)):=([]:(List (ByteArray×Bool)))
 let t40:=(Int.ofNat (List.length a0_c.2.1))
 (j02O a0_c.2.1 t40 0 a0_c.1 a0_c.2.1 a0_c.2.2.1 a0_c.2.2.2 t37).bind fun q0=>
 sumC q0 (fun a=>
 some a) (fun b=>
 (j00N b.2.2.1 b.1 b.2.1 b.2.2.1 b.2.2.2).bind fun r64=>
 cond (r64 != 0) (
 some r64) (
 (j016 b.2.2.2 b.1 b.2.1 b.2.2.1 b.2.2.2).bind fun r71=>
 some r71))))
def zone_Of [LP] (a0_z:Tn52):Option (Tn13×Int):=
 (j01D (a0_z.1,(a0_z.2.1,a0_z.2.2))).bind fun r8=>
 some ((a0_z.2.1,r8.1),r8.2)
def j01A [LP] (s8:Tn54) (s9 s10:Int) (l3:Tn20):Option ((Tn54×Int×Int×Tn20) ⊕ (Tn20)):=
 cond (decide (s10<s9)) (
 cond (inR s10 (List.length s8)) (
 let t12_2:=(List.getD s8 (Int.toNat s10) (ByteArray.empty,(0,([]:Tn42))))
 (zone_Of (t12_2.1,(t12_2.2.1,t12_2.2.2))).bind fun r16_2=>
 let t21_2:Tn20:=[(r16_2.1.1,r16_2.1.2)]
 cond (decide (List.length l3+List.length t21_2≤sizeMax)) (
 let t22_2:Tn20:=(l3++t21_2)
 let t23_2:=(w64 (s10+1))
 some (.inl (s8,s9,t23_2,t22_2))) none) none) (
 some (.inr l3))
def j03X [LP] (s8:Tn54) (s9 s10:Int) (l3:Tn20):Option (Tn20):=
 LP.lp (fun h=>j01A h.1 h.2.1 h.2.2.1 h.2.2.2) (s8,s9,s10,l3)
theorem j0b5 (s8:Tn54) (s9 s10:Int) (l3:Tn20):j03X s8 s9 s10 l3=lpK (j01A s8 s9 s10 l3) (fun h=>j03X h.1 h.2.1 h.2.2.1 h.2.2.2):=j004 _ _
def j086 [LP] (a0_l:Tn54):Option (Tn20):=
 let t9:=(Int.ofNat (List.length a0_l))
 (j03X a0_l t9 0 ([]:Tn20)).bind fun q0=>
 some q0
def j0as [LP] (a0_c:Tn71):Option (Tn73):=
 (j086 a0_c.1).bind fun r6=>
 some ((a0_c.1,(a0_c.2.1,(a0_c.2.2.1,a0_c.2.2.2))),r6)
def duty_Of [LP] (a0_c:Tn71):Option (Tn73×Bool):=
 (j03U (a0_c.1,(a0_c.2.1,(a0_c.2.2.1,a0_c.2.2.2)))).bind fun r5=>
 cond (r5 != 0) (
 some (((([]:Tn54),(([]:Tn48),(([]:Tn26),([]:Tn65)))),([]:Tn20)),false)) (
 (j0as (a0_c.1,(a0_c.2.1,(a0_c.2.2.1,a0_c.2.2.2)))).bind fun r9=>
 some (((r9.1.1,(r9.1.2.1,(r9.1.2.2.1,r9.1.2.2.2))),r9.2),true))
def j0cr (a0_c:Tn71) (a1_schedule:Int):Option (Bool):=
 let t11:=(Int.ofNat (List.length a0_c.2.2.2))
 some (cond (decide (a1_schedule≥0)) (decide (a1_schedule<t11)) false)
def j0iS (a0_from a1_to:Int):Option (Bool):=
 let t15:Bool:=(cond (cond (decide (a0_from≥0)) (decide (a0_from≤8589934592)) false) (decide (a1_to≥a0_from)) false)
 let t23:=(w64 (a1_to-a0_from))
 let t25:Bool:=(cond (cond t15 (decide (a1_to≤8589934592)) false) (decide (t23≤34560000)) false)
 some t25
def j0a8 [LP] (a0_c:Tn71) (a1_schedule a2_from a3_to:Int):Option (Tn73×Int):=
 (duty_Of (a0_c.1,(a0_c.2.1,(a0_c.2.2.1,a0_c.2.2.2)))).bind fun r14=>
 cond (!r14.2) (
 some (((r14.1.1.1,(r14.1.1.2.1,(r14.1.1.2.2.1,r14.1.1.2.2.2))),r14.1.2),8)) (
 (j0cr (a0_c.1,(a0_c.2.1,(a0_c.2.2.1,a0_c.2.2.2))) a1_schedule).bind fun r24=>
 cond (!r24) (
 some (((r14.1.1.1,(r14.1.1.2.1,(r14.1.1.2.2.1,r14.1.1.2.2.2))),r14.1.2),3)) (
 (j0iS a2_from a3_to).bind fun r30=>
 cond (!r30) (
 some (((r14.1.1.1,(r14.1.1.2.1,(r14.1.1.2.2.1,r14.1.1.2.2.2))),r14.1.2),1)) (
 some (((r14.1.1.1,(r14.1.1.2.1,(r14.1.1.2.2.1,r14.1.1.2.2.2))),r14.1.2),0))))
def j014 (a0_s:Tn60):Option (Tn60):=
 some a0_s
def j08h (a0_l:Tn59):Option (Int):=
 cond (a0_l.2.2.2.1==2) (
 let t8:=(w64 (7*a0_l.2.2.2.2.1))
 some t8) (
 some a0_l.2.2.2.2.1)
def j06a (a0_i a1:Int) (a1_1:Tn2) (a2:Int):Option (Bool):=
 cond (inR a0_i (List.length a1_1)) (
 let t8:=(List.getD a1_1 (Int.toNat a0_i) (0,0))
 some (decide (t8.1>a2))) none
def j02r (s1:Int) (s1_1:Tn2) (s1_2 s5 s6:Int):Option ((Int×Tn2×Int×Int×Int) ⊕ (Int)):=
 cond (decide (s5<s6)) (
 let t14_1:=(w64 (s5+s6))
 let t15_1:Int:=(IntKind.wrap .u64 t14_1)
 let t16_1:Int:=(Int.fdiv t15_1 2)
 let t17:=(w64 t16_1)
 (j06a t17 s1 s1_1 s1_2).bind fun r20_1=>
 cond (!r20_1) (
 let t23_1:=(w64 (t17+1))
 some (.inl (s1,s1_1,s1_2,t23_1,s6))) (
 some (.inl (s1,s1_1,s1_2,s5,t17)))) (
 some (.inr s5))
def j04X [LP] (s1:Int) (s1_1:Tn2) (s1_2 s5 s6:Int):Option (Int):=
 LP.lp (fun h=>j02r h.1 h.2.1 h.2.2.1 h.2.2.2.1 h.2.2.2.2) (s1,s1_1,s1_2,s5,s6)
theorem j0b6 (s1:Int) (s1_1:Tn2) (s1_2 s5 s6:Int):j04X s1 s1_1 s1_2 s5 s6=lpK (j02r s1 s1_1 s1_2 s5 s6) (fun h=>j04X h.1 h.2.1 h.2.2.1 h.2.2.2.1 h.2.2.2.2):=j004 _ _
def j087 [LP] (a0_n a1_f:Int) (a1_f_1:Tn2) (a1_f_2:Int):Option (Int):=
 (j04X a1_f a1_f_1 a1_f_2 0 a0_n).bind fun q0=>
 some q0
def j02h [LP] (a0_b:Tn13) (a1_t:Int):Option (Int):=
 let t7:=(Int.ofNat (List.length a0_b.2))
 (j087 t7 a0_b.1 a0_b.2 a1_t).bind fun r9=>
 some r9
def j031 (a0_b:Tn13) (a1_i:Int):Option (Int):=
 cond (a1_i==0) (
 some a0_b.1) (
 let t12:=(w64 (a1_i-1))
 cond (inR t12 (List.length a0_b.2)) (
 let t13:=(List.getD a0_b.2 (Int.toNat t12) (0,0))
 some t13.2) none)
def j00z [LP] (s1 s2 b3:Int) (b3_1:Tn2) (l7:Tn14):Option ((Int×Int×Int×Tn2×Tn14) ⊕ (Tn14)):=
 cond (decide (s1<s2)) (
 (j02h (b3,b3_1) s1).bind fun r15_2=>
 let t20_2:=(Int.ofNat (List.length b3_1))
 cond (decide (r15_2<t20_2)) (
 cond (inR r15_2 (List.length b3_1)) (
 let t26_2:=(List.getD b3_1 (Int.toNat r15_2) (0,0))
 let t29_2:Int:=(if t26_2.1<s2 then t26_2.1 else s2:Int)
 (j031 (b3,b3_1) r15_2).bind fun r35_4=>
 let t37_4:Tn14:=[(s1,(t29_2,r35_4))]
 cond (decide (List.length l7+List.length t37_4≤sizeMax)) (
 let t38_4:Tn14:=(l7++t37_4)
 some (.inl (t29_2,s2,b3,b3_1,t38_4))) none) none) (
 (j031 (b3,b3_1) r15_2).bind fun r35_5=>
 let t37_5:Tn14:=[(s1,(s2,r35_5))]
 cond (decide (List.length l7+List.length t37_5≤sizeMax)) (
 let t38_5:Tn14:=(l7++t37_5)
 some (.inl (s2,s2,b3,b3_1,t38_5))) none)) (
 some (.inr l7))
def j01J [LP] (s1 s2 b3:Int) (b3_1:Tn2) (l7:Tn14):Option (Tn14):=
 LP.lp (fun h=>j00z h.1 h.2.1 h.2.2.1 h.2.2.2.1 h.2.2.2.2) (s1,s2,b3,b3_1,l7)
theorem j06D (s1 s2 b3:Int) (b3_1:Tn2) (l7:Tn14):j01J s1 s2 b3 b3_1 l7=lpK (j00z s1 s2 b3 b3_1 l7) (fun h=>j01J h.1 h.2.1 h.2.2.1 h.2.2.2.1 h.2.2.2.2):=j004 _ _
def j01I [LP] (a0_b:Tn13) (a1_from a2_to:Int):Option (Tn14):=
 (j01J a1_from a2_to a0_b.1 a0_b.2 ([]:Tn14)).bind fun q0=>
 some q0
def j03h (a0_l:(Int×Int)):Option (Int):=
 let t5:Int:=(if (-1048576)>a0_l.1 then (-1048576) else a0_l.1:Int)
 let t6:Int:=(if 1048576<t5 then 1048576 else t5:Int)
 let t7:=(w64 (t6*86400))
 let t10:=(w64 (t7+a0_l.2))
 some t10
def j011 (s11 s12 b3 b3_1:Int) (l10:Tn14):Option ((Int×Int×Int×Int×Tn14) ⊕ ((Int×Bool) ⊕ Unit)):=
 cond (decide (s12<s11)) (
 cond (inR s12 (List.length l10)) (
 let t15_3:=(List.getD l10 (Int.toNat s12) (0,(0,0))).1
 let t15_4:=(List.getD l10 (Int.toNat s12) (0,(0,0))).2.1
 let t15_5:=(List.getD l10 (Int.toNat s12) (0,(0,0))).2.2
 (j03h (b3,b3_1)).bind fun r19_1=>
 let t22_1:=(w64 (r19_1-t15_5))
 let t23_1:Int:=(if t22_1>t15_3 then t22_1 else t15_3:Int)
 cond (decide (t23_1<t15_4)) (
 some (.inr (.inl (t23_1,true)))) (
 let t29_1:=(w64 (s12+1))
 some (.inl (s11,t29_1,b3,b3_1,l10)))) none) (
 some (.inr (.inr ())))
def j01Y [LP] (s11 s12 b3 b3_1:Int) (l10:Tn14):Option ((Int×Bool) ⊕ Unit):=
 LP.lp (fun h=>j011 h.1 h.2.1 h.2.2.1 h.2.2.2.1 h.2.2.2.2) (s11,s12,b3,b3_1,l10)
theorem j036 (s11 s12 b3 b3_1:Int) (l10:Tn14):j01Y s11 s12 b3 b3_1 l10=lpK (j011 s11 s12 b3 b3_1 l10) (fun h=>j01Y h.1 h.2.1 h.2.2.1 h.2.2.2.1 h.2.2.2.2):=j004 _ _
def j01j [LP] (a0_b:Tn13) (a1_l:(Int×Int)):Option (Int×Bool):=
 (j01I (a0_b.1,a0_b.2) 0 8589934593).bind fun r10=>
 let t11:=(Int.ofNat (List.length r10))
 (j01Y t11 0 a1_l.1 a1_l.2 r10).bind fun q0=>
 sumC q0 (fun a=>
 some (a.1,a.2)) (fun b=>
 some (0,false))
def j00K [LP] (a0_b:Tn13) (a1_l:Tn59) (a2_k:Int):Option (Int×Bool):=
 cond (decide (a2_k>8589934592)) (
 some (0,false)) (
 cond (a1_l.2.2.2.1 != 0) (
 (j08h (a1_l.1,(a1_l.2.1,((a1_l.2.2.1.1,a1_l.2.2.1.2),(a1_l.2.2.2.1,(a1_l.2.2.2.2.1,(a1_l.2.2.2.2.2.1,(a1_l.2.2.2.2.2.2.1,(a1_l.2.2.2.2.2.2.2.1,a1_l.2.2.2.2.2.2.2.2))))))))).bind fun r22=>
 let t23:=(w64 (a2_k*r22))
 let t24:=(w64 (a1_l.2.2.1.1+t23))
 (j01j (a0_b.1,a0_b.2) (t24,a1_l.2.2.1.2)).bind fun r28=>
 some (r28.1,r28.2)) (
 (j01j (a0_b.1,a0_b.2) (a1_l.2.2.1.1,a1_l.2.2.1.2)).bind fun r34=>
 let t40:=(w64 (3600*a1_l.2.2.2.2.1))
 let t42:=(w64 (t40*a2_k))
 let t43:=(w64 (r34.1+t42))
 some (t43,(cond r34.2 (decide (t43≤8589934592)) false))))
def j049 (a0_s:Tn2):Option (Tn2):=
 cond (decide (List.length ([]:List ((Int×Int)))+List.length a0_s≤sizeMax)) (
 some (([]:List ((Int×Int)))++a0_s)) none
def j0bv (a0_s:(Int×Int)):Option (Bool):=
 some (decide (a0_s.2≤a0_s.1))
def j027 (s7 s8:Int) (b0:Tn2):Option ((Int×Int×Tn2) ⊕ (Tn13 ⊕ Tn2)):=
 cond (decide (s8<s7)) (
 cond (inR s8 (List.length b0)) (
 let t15_2:=(List.getD b0 (Int.toNat s8) (0,0)).1
 let t15_3:=(List.getD b0 (Int.toNat s8) (0,0)).2
 (j0bv (t15_2,t15_3)).bind fun r16_1=>
 cond r16_1 (
 some (.inr (.inl (s8,b0)))) (
 let t18_1:=(w64 (s8+1))
 some (.inl (s7,t18_1,b0)))) none) (
 some (.inr (.inr b0)))
def j01F [LP] (s7 s8:Int) (b0:Tn2):Option (Tn13 ⊕ Tn2):=
 LP.lp (fun h=>j027 h.1 h.2.1 h.2.2) (s7,s8,b0)
def j00L [LP] (a0_s:Tn2):Option Tn13:=
 let t7:=(Int.ofNat (List.length a0_s))
 (j01F t7 0 a0_s).bind fun q0=>
 sumC q0 (fun a=>
 some (a.1,a.2)) (fun b=>
 some ((-1),b))
def j026 (s5 s6:Int) (b0:Tn2):Option ((Int×Int×Tn2) ⊕ (Tn13)):=
 let t18_1:=(Int.ofNat (List.length b0))
 cond (decide (s6<t18_1)) (
 cond (inR s6 (List.length b0)) (
 let t25_2:=(List.getD b0 (Int.toNat s6) (0,0)).1
 let t25_3:=(List.getD b0 (Int.toNat s6) (0,0)).2
 (j0bv (t25_2,t25_3)).bind fun r28_1=>
 cond (!r28_1) (
 cond (inR s5 (List.length b0)) (
 let m4_1:Tn2:=(List.set b0 (Int.toNat s5) (t25_2,t25_3))
 let t35_1:=(w64 (s5+1))
 let t21_2:=(w64 (s6+1))
 some (.inl (t35_1,t21_2,m4_1))) none) (
 let t21_3:=(w64 (s6+1))
 some (.inl (s5,t21_3,b0)))) none) (
 some (.inr (s5,b0)))
def j01v [LP] (s5 s6:Int) (b0:Tn2):Option (Tn13):=
 LP.lp (fun h=>j026 h.1 h.2.1 h.2.2) (s5,s6,b0)
def j00B [LP] (a0_s:Tn2):Option Tn13:=
 (j00L a0_s).bind fun r10=>
 cond (r10.1==(-1)) (
 some ((Int.ofNat (List.length r10.2)),r10.2)) (
 let t15:=(w64 (r10.1+1))
 (j01v r10.1 t15 r10.2).bind fun q0=>
 cond (decide (0≤q0.1)&&decide (q0.1≤(Int.ofNat (List.length q0.2)))) (
 let m3:Tn2:=(List.take (Int.toNat q0.1) q0.2++List.replicate (List.length q0.2-(Int.toNat q0.1)) (0,0))
 cond (decide (0≤q0.1)&&decide (q0.1≤(Int.ofNat (List.length m3)))) (
 some ((Int.ofNat (Int.toNat q0.1)),m3)) none) none)
def j09a (a0_a a1_b:(Int×Int)):Option (Int):=
 let t9:=(w64 (a0_a.1-a1_b.1))
 some t9
def j01u (a0_x:Tn2):Option (Tn2):=
 sortP ((.pair (.int .i64) (.int .i64))) (fun x y=>(j09a x y).getD 0) a0_x
def j0a9 (s14 s15:Int) (l4 l13:Tn2):Option ((Int×Int×Tn2×Tn2) ⊕ (Tn2)):=
 cond (decide (s15<s14)) (
 cond (inR s15 (List.length l13)) (
 let t18_4:=(List.getD l13 (Int.toNat s15) (0,0)).1
 let t18_5:=(List.getD l13 (Int.toNat s15) (0,0)).2
 let t20_1:=(Int.ofNat (List.length l4))
 cond (decide (t20_1>0)) (
 let t28_2:=(w64 (t20_1-1))
 cond (inR t28_2 (List.length l4)) (
 let t31_1:=(List.getD l4 (Int.toNat t28_2) (0,0)).2
 cond (decide (t18_4≤t31_1)) (
 let t36_1:=(w64 (t20_1-1))
 let t39_1:=(w64 (t20_1-1))
 cond (inR t39_1 (List.length l4)) (
 let t42_1:=(List.getD l4 (Int.toNat t39_1) (0,0)).2
 let t45_1:Int:=(if t18_5>t42_1 then t18_5 else t42_1:Int)
 cond (inR t36_1 (List.length l4)) (
 let m14_1:Tn2:=(List.set l4 (Int.toNat t36_1) ((List.getD l4 (Int.toNat t36_1) (0,0)).1,t45_1))
 let t52_4:=(w64 (s15+1))
 some (.inl (s14,t52_4,m14_1,l13))) none) none) (
 let t50_3:Tn2:=[(t18_4,t18_5)]
 cond (decide (List.length l4+List.length t50_3≤sizeMax)) (
 let t51_3:Tn2:=(l4++t50_3)
 let t52_5:=(w64 (s15+1))
 some (.inl (s14,t52_5,t51_3,l13))) none)) none) (
 let t50_4:Tn2:=[(t18_4,t18_5)]
 cond (decide (List.length l4+List.length t50_4≤sizeMax)) (
 let t51_4:Tn2:=(l4++t50_4)
 let t52_6:=(w64 (s15+1))
 some (.inl (s14,t52_6,t51_4,l13))) none)) none) (
 some (.inr l4))
def j0bw [LP] (s14 s15:Int) (l4 l13:Tn2):Option (Tn2):=
 LP.lp (fun h=>j0a9 h.1 h.2.1 h.2.2.1 h.2.2.2) (s14,s15,l4,l13)
def j077 [LP] (a0_l:Tn2):Option (Tn2):=
 (j049 a0_l).bind fun r9=>
 (j00B r9).bind fun r10=>
 let t10:Tn2:=(List.take (Int.toNat r10.1) r10.2)
 (j01u t10).bind fun r12=>
 let t14:=(Int.ofNat (List.length r12))
 (j0bw t14 0 ([]:Tn2) r12).bind fun q0=>
 some q0
def j08i (s1:Tn2) (s13 s20 s21:Int) (s45:Tn2) (s46 s47 b11 b11_1 b11_2:Int) (l9:Tn2) (l19:Tn14):Option ((Tn2×Int×Int×Int×Tn2×Int×Int×Int×Int×Int×Tn2×Tn14) ⊕ ((Tn2×Int×Int×Int×Int×Int×Int×Tn2×Tn14))):=
 cond (decide (s47<s46)) (
 cond (inR s47 (List.length s45)) (
 let t49_6:=(List.getD s45 (Int.toNat s47) (0,0))
 let t57_6:=(w64 (s13+t49_6.1))
 let t58_6:Int:=(if t57_6>b11 then t57_6 else b11:Int)
 let t64_6:=(w64 (s13+t49_6.2))
 let t65_6:Int:=(if t64_6<b11_1 then t64_6 else b11_1:Int)
 let t67_6:Tn2:=[(t58_6,t65_6)]
 cond (decide (List.length l9+List.length t67_6≤sizeMax)) (
 let t68_6:Tn2:=(l9++t67_6)
 let t69_6:=(w64 (s47+1))
 some (.inl (s1,s13,s20,s21,s45,s46,t69_6,b11,b11_1,b11_2,t68_6,l19))) none) none) (
 some (.inr (s1,s13,s20,s21,b11,b11_1,b11_2,l9,l19)))
def j09A [LP] (s1:Tn2) (s13 s20 s21:Int) (s45:Tn2) (s46 s47 b11 b11_1 b11_2:Int) (l9:Tn2) (l19:Tn14):Option ((Tn2×Int×Int×Int×Int×Int×Int×Tn2×Tn14)):=
 LP.lp (fun h=>j08i h.1 h.2.1 h.2.2.1 h.2.2.2.1 h.2.2.2.2.1 h.2.2.2.2.2.1 h.2.2.2.2.2.2.1 h.2.2.2.2.2.2.2.1 h.2.2.2.2.2.2.2.2.1 h.2.2.2.2.2.2.2.2.2.1 h.2.2.2.2.2.2.2.2.2.2.1 h.2.2.2.2.2.2.2.2.2.2.2) (s1,s13,s20,s21,s45,s46,s47,b11,b11_1,b11_2,l9,l19)
def j02P [LP] (s1:Tn2) (s13 s20 s21 b11 b11_1 b11_2:Int) (l9:Tn2) (l19:Tn14):Option ((Tn2×Int×Int×Int×Int×Int×Int×Tn2×Tn14) ⊕ ((Tn2×Int×Int×Tn2×Tn14))):=
 cond (decide (s13<b11_1)) (
 let t46_4:=(Int.ofNat (List.length s1))
 (j09A s1 s13 s20 s21 s1 t46_4 0 b11 b11_1 b11_2 l9 l19).bind fun q4_4=>
 let t44_4:=(w64 (q4_4.2.1+604800))
 some (.inl (q4_4.1,t44_4,q4_4.2.2.1,q4_4.2.2.2.1,q4_4.2.2.2.2.1,q4_4.2.2.2.2.2.1,q4_4.2.2.2.2.2.2.1,q4_4.2.2.2.2.2.2.2.1,q4_4.2.2.2.2.2.2.2.2))) (
 some (.inr (s1,s20,s21,l9,l19)))
def j09B [LP] (s1:Tn2) (s13 s20 s21 b11 b11_1 b11_2:Int) (l9:Tn2) (l19:Tn14):Option ((Tn2×Int×Int×Tn2×Tn14)):=
 LP.lp (fun h=>j02P h.1 h.2.1 h.2.2.1 h.2.2.2.1 h.2.2.2.2.1 h.2.2.2.2.2.1 h.2.2.2.2.2.2.1 h.2.2.2.2.2.2.2.1 h.2.2.2.2.2.2.2.2) (s1,s13,s20,s21,b11,b11_1,b11_2,l9,l19)
def j02Q [LP] (s1:Tn2) (s20 s21:Int) (l9:Tn2) (l19:Tn14):Option ((Tn2×Int×Int×Tn2×Tn14) ⊕ (Tn2)):=
 cond (decide (s21<s20)) (
 cond (inR s21 (List.length l19)) (
 let t24_6:=(List.getD l19 (Int.toNat s21) (0,(0,0))).1
 let t24_7:=(List.getD l19 (Int.toNat s21) (0,(0,0))).2.1
 let t24_8:=(List.getD l19 (Int.toNat s21) (0,(0,0))).2.2
 let t29_2:=(w64 (t24_6+t24_8))
 let t30_2:=(w64 (t29_2-(-259200)))
 let t33_2:=(Int.tmod t30_2 604800)
 let t34_2:=(w64 (t30_2-t33_2))
 let t35_2:=(w64 (t34_2+(-259200)))
 let t38_2:=(w64 (t35_2-t24_8))
 (j09B s1 t38_2 s20 s21 t24_6 t24_7 t24_8 l9 l19).bind fun q2_2=>
 let t70_2:=(w64 (q2_2.2.2.1+1))
 some (.inl (q2_2.1,q2_2.2.1,t70_2,q2_2.2.2.2.1,q2_2.2.2.2.2))) none) (
 some (.inr l9))
def j09C [LP] (s1:Tn2) (s20 s21:Int) (l9:Tn2) (l19:Tn14):Option (Tn2):=
 LP.lp (fun h=>j02Q h.1 h.2.1 h.2.2.1 h.2.2.2.1 h.2.2.2.2) (s1,s20,s21,l9,l19)
def j08j [LP] (a0_b:Tn13) (a1_l:Tn2) (a2_from a3_to:Int):Option (Tn2):=
 (j01I (a0_b.1,a0_b.2) a2_from a3_to).bind fun r19=>
 let t20:=(Int.ofNat (List.length r19))
 (j09C a1_l t20 0 ([]:Tn2) r19).bind fun q0=>
 (j077 q0).bind fun r72=>
 some r72
def j078 (s24 s25:Int) (s30:(List Int)) (s31 s32:Int) (b5:ByteArray) (b5_1:Int) (b5_2:(List Int)) (b11 b11_1 b11_2:Int) (l9:Tn2) (l23:Tn14):Option ((Int×Int×(List Int)×Int×Int×ByteArray×Int×(List Int)×Int×Int×Int×Tn2×Tn14) ⊕ ((Int×Int×ByteArray×Int×(List Int)×Tn2×Tn14))):=
 cond (decide (s32<s31)) (
 cond (inR s32 (List.length s30)) (
 let t34_4:=(List.getD s30 (Int.toNat s32) 0)
 let t37_4:=(w64 (t34_4*86400))
 let t40_4:=(w64 (t37_4-b11_2))
 let t45_4:Int:=(if t40_4>b11 then t40_4 else b11:Int)
 let t49_4:=(w64 (t40_4+86400))
 let t50_4:Int:=(if t49_4<b11_1 then t49_4 else b11_1:Int)
 let t52_4:Tn2:=[(t45_4,t50_4)]
 cond (decide (List.length l9+List.length t52_4≤sizeMax)) (
 let t53_4:Tn2:=(l9++t52_4)
 let t54_4:=(w64 (s32+1))
 some (.inl (s24,s25,s30,s31,t54_4,b5,b5_1,b5_2,b11,b11_1,b11_2,t53_4,l23))) none) none) (
 some (.inr (s24,s25,b5,b5_1,b5_2,l9,l23)))
def j07l [LP] (s24 s25:Int) (s30:(List Int)) (s31 s32:Int) (b5:ByteArray) (b5_1:Int) (b5_2:(List Int)) (b11 b11_1 b11_2:Int) (l9:Tn2) (l23:Tn14):Option ((Int×Int×ByteArray×Int×(List Int)×Tn2×Tn14)):=
 LP.lp (fun h=>j078 h.1 h.2.1 h.2.2.1 h.2.2.2.1 h.2.2.2.2.1 h.2.2.2.2.2.1 h.2.2.2.2.2.2.1 h.2.2.2.2.2.2.2.1 h.2.2.2.2.2.2.2.2.1 h.2.2.2.2.2.2.2.2.2.1 h.2.2.2.2.2.2.2.2.2.2.1 h.2.2.2.2.2.2.2.2.2.2.2.1 h.2.2.2.2.2.2.2.2.2.2.2.2) (s24,s25,s30,s31,s32,b5,b5_1,b5_2,b11,b11_1,b11_2,l9,l23)
def j02i [LP] (s24 s25:Int) (b5:ByteArray) (b5_1:Int) (b5_2:(List Int)) (l9:Tn2) (l23:Tn14):Option ((Int×Int×ByteArray×Int×(List Int)×Tn2×Tn14) ⊕ (Tn2)):=
 cond (decide (s25<s24)) (
 cond (inR s25 (List.length l23)) (
 let t28_6:=(List.getD l23 (Int.toNat s25) (0,(0,0))).1
 let t28_7:=(List.getD l23 (Int.toNat s25) (0,(0,0))).2.1
 let t28_8:=(List.getD l23 (Int.toNat s25) (0,(0,0))).2.2
 let t31_2:=(Int.ofNat (List.length b5_2))
 (j07l s24 s25 b5_2 t31_2 0 b5 b5_1 b5_2 t28_6 t28_7 t28_8 l9 l23).bind fun q2_2=>
 let t55_2:=(w64 (q2_2.2.1+1))
 some (.inl (q2_2.1,t55_2,q2_2.2.2.1,q2_2.2.2.2.1,q2_2.2.2.2.2.1,q2_2.2.2.2.2.2.1,q2_2.2.2.2.2.2.2))) none) (
 some (.inr l9))
def j07m [LP] (s24 s25:Int) (b5:ByteArray) (b5_1:Int) (b5_2:(List Int)) (l9:Tn2) (l23:Tn14):Option (Tn2):=
 LP.lp (fun h=>j02i h.1 h.2.1 h.2.2.1 h.2.2.2.1 h.2.2.2.2.1 h.2.2.2.2.2.1 h.2.2.2.2.2.2) (s24,s25,b5,b5_1,b5_2,l9,l23)
def j037 [LP] (a0_v:Tn73) (a1_c:Tn19) (a2_from a3_to:Int):Option (Tn2):=
 cond (inR a1_c.2.1 (List.length a0_v.2)) (
 let t19:=(List.getD a0_v.2 (Int.toNat a1_c.2.1) (0,([]:Tn2)))
 (j01I (t19.1,t19.2) a2_from a3_to).bind fun r23=>
 let t24:=(Int.ofNat (List.length r23))
 (j07m t24 0 a1_c.1 a1_c.2.1 a1_c.2.2 ([]:Tn2) r23).bind fun q0=>
 (j077 q0).bind fun r57=>
 some r57) none
def j08k (s1:Tn2) (s6:Int) (s11:Tn2) (s12 s13 b8 b8_1:Int) (l5:Tn2):Option ((Tn2×Int×Tn2×Int×Int×Int×Int×Tn2) ⊕ ((Tn2×Int×Tn2×Int×Int×Int×Int×Tn2))):=
 let t19_3:=(Int.ofNat (List.length s1))
 cond (decide (s6<t19_3)) (
 cond (inR s6 (List.length s1)) (
 let t24_3:=(List.getD s1 (Int.toNat s6) (0,0))
 cond (decide (t24_3.2≤b8)) (
 let t32_3:=(w64 (s6+1))
 some (.inl (s1,t32_3,s11,s12,s13,b8,b8_1,l5))) (
 some (.inr (s1,s6,s11,s12,s13,b8,b8_1,l5)))) none) (
 some (.inr (s1,s6,s11,s12,s13,b8,b8_1,l5)))
def j09D [LP] (s1:Tn2) (s6:Int) (s11:Tn2) (s12 s13 b8 b8_1:Int) (l5:Tn2):Option ((Tn2×Int×Tn2×Int×Int×Int×Int×Tn2)):=
 LP.lp (fun h=>j08k h.1 h.2.1 h.2.2.1 h.2.2.2.1 h.2.2.2.2.1 h.2.2.2.2.2.1 h.2.2.2.2.2.2.1 h.2.2.2.2.2.2.2) (s1,s6,s11,s12,s13,b8,b8_1,l5)
def j08l (s1:Tn2) (s6 s9 s10:Int) (s11:Tn2) (s12 s13 b8 b8_1:Int) (l5:Tn2):Option ((Tn2×Int×Int×Int×Tn2×Int×Int×Int×Int×Tn2) ⊕ ((Tn2×Int×Int×Tn2×Int×Int×Int×Int×Tn2))):=
 let t38_4:=(Int.ofNat (List.length s1))
 cond (decide (s10<t38_4)) (
 cond (inR s10 (List.length s1)) (
 let t43_4:=(List.getD s1 (Int.toNat s10) (0,0))
 cond (decide (t43_4.1<b8_1)) (
 cond (inR s10 (List.length s1)) (
 let t55_4:=(List.getD s1 (Int.toNat s10) (0,0))
 cond (decide (s9<t55_4.1)) (
 cond (inR s10 (List.length s1)) (
 let t63_4:=(List.getD s1 (Int.toNat s10) (0,0))
 let t67_4:Tn2:=[(s9,t63_4.1)]
 cond (decide (List.length l5+List.length t67_4≤sizeMax)) (
 let t68_4:Tn2:=(l5++t67_4)
 cond (inR s10 (List.length s1)) (
 let t72_8:=(List.getD s1 (Int.toNat s10) (0,0))
 let t75_8:Int:=(if t72_8.2>s9 then t72_8.2 else s9:Int)
 let t51_8:=(w64 (s10+1))
 some (.inl (s1,s6,t75_8,t51_8,s11,s12,s13,b8,b8_1,t68_4))) none) none) none) (
 cond (inR s10 (List.length s1)) (
 let t72_9:=(List.getD s1 (Int.toNat s10) (0,0))
 let t75_9:Int:=(if t72_9.2>s9 then t72_9.2 else s9:Int)
 let t51_9:=(w64 (s10+1))
 some (.inl (s1,s6,t75_9,t51_9,s11,s12,s13,b8,b8_1,l5))) none)) none) (
 some (.inr (s1,s6,s9,s11,s12,s13,b8,b8_1,l5)))) none) (
 some (.inr (s1,s6,s9,s11,s12,s13,b8,b8_1,l5)))
def j09E [LP] (s1:Tn2) (s6 s9 s10:Int) (s11:Tn2) (s12 s13 b8 b8_1:Int) (l5:Tn2):Option ((Tn2×Int×Int×Tn2×Int×Int×Int×Int×Tn2)):=
 LP.lp (fun h=>j08l h.1 h.2.1 h.2.2.1 h.2.2.2.1 h.2.2.2.2.1 h.2.2.2.2.2.1 h.2.2.2.2.2.2.1 h.2.2.2.2.2.2.2.1 h.2.2.2.2.2.2.2.2.1 h.2.2.2.2.2.2.2.2.2) (s1,s6,s9,s10,s11,s12,s13,b8,b8_1,l5)
def j02R [LP] (s1:Tn2) (s6:Int) (s11:Tn2) (s12 s13:Int) (l5:Tn2):Option ((Tn2×Int×Tn2×Int×Int×Tn2) ⊕ (Tn2)):=
 cond (decide (s13<s12)) (
 cond (inR s13 (List.length s11)) (
 let t15_2:=(List.getD s11 (Int.toNat s13) (0,0))
 (j09D s1 s6 s11 s12 s13 t15_2.1 t15_2.2 l5).bind fun q2_2=>
 (j09E q2_2.1 q2_2.2.1 q2_2.2.2.2.2.2.1 q2_2.2.1 q2_2.2.2.1 q2_2.2.2.2.1 q2_2.2.2.2.2.1 q2_2.2.2.2.2.2.1 q2_2.2.2.2.2.2.2.1 q2_2.2.2.2.2.2.2.2).bind fun q4_2=>
 cond (decide (q4_2.2.2.1<q4_2.2.2.2.2.2.2.2.1)) (
 let t85_2:Tn2:=[(q4_2.2.2.1,q4_2.2.2.2.2.2.2.2.1)]
 cond (decide (List.length q4_2.2.2.2.2.2.2.2.2+List.length t85_2≤sizeMax)) (
 let t86_2:Tn2:=(q4_2.2.2.2.2.2.2.2.2++t85_2)
 let t87_4:=(w64 (q4_2.2.2.2.2.2.1+1))
 some (.inl (q4_2.1,q4_2.2.1,q4_2.2.2.2.1,q4_2.2.2.2.2.1,t87_4,t86_2))) none) (
 let t87_5:=(w64 (q4_2.2.2.2.2.2.1+1))
 some (.inl (q4_2.1,q4_2.2.1,q4_2.2.2.2.1,q4_2.2.2.2.2.1,t87_5,q4_2.2.2.2.2.2.2.2.2)))) none) (
 some (.inr l5))
def j09F [LP] (s1:Tn2) (s6:Int) (s11:Tn2) (s12 s13:Int) (l5:Tn2):Option (Tn2):=
 LP.lp (fun h=>j02R h.1 h.2.1 h.2.2.1 h.2.2.2.1 h.2.2.2.2.1 h.2.2.2.2.2) (s1,s6,s11,s12,s13,l5)
def j03Y [LP] (a0_a a1_b:Tn2):Option (Tn2):=
 let t12:=(Int.ofNat (List.length a0_a))
 (j09F a1_b 0 a0_a t12 0 ([]:Tn2)).bind fun q0=>
 some q0
def j09b (s0 s1:Tn2) (s6 s7:Int) (l5:Tn2):Option ((Tn2×Tn2×Int×Int×Tn2) ⊕ (Tn2)):=
 let t11_2:=(Int.ofNat (List.length s0))
 let t16_2:=(Int.ofNat (List.length s1))
 cond (cond (decide (s6<t11_2)) (decide (s7<t16_2)) false) (
 cond (inR s6 (List.length s0)) (
 let t21_2:=(List.getD s0 (Int.toNat s6) (0,0))
 cond (inR s7 (List.length s1)) (
 let t26_2:=(List.getD s1 (Int.toNat s7) (0,0))
 let t29_2:Int:=(if t26_2.1>t21_2.1 then t26_2.1 else t21_2.1:Int)
 cond (inR s6 (List.length s0)) (
 let t32_2:=(List.getD s0 (Int.toNat s6) (0,0))
 cond (inR s7 (List.length s1)) (
 let t37_2:=(List.getD s1 (Int.toNat s7) (0,0))
 let t40_2:Int:=(if t37_2.2<t32_2.2 then t37_2.2 else t32_2.2:Int)
 cond (decide (t29_2<t40_2)) (
 let t49_2:Tn2:=[(t29_2,t40_2)]
 cond (decide (List.length l5+List.length t49_2≤sizeMax)) (
 let t50_2:Tn2:=(l5++t49_2)
 cond (inR s6 (List.length s0)) (
 let t53_4:=(List.getD s0 (Int.toNat s6) (0,0))
 cond (inR s7 (List.length s1)) (
 let t58_4:=(List.getD s1 (Int.toNat s7) (0,0))
 cond (decide (t53_4.2<t58_4.2)) (
 let t63_4:=(w64 (s6+1))
 some (.inl (s0,s1,t63_4,s7,t50_2))) (
 let t65_4:=(w64 (s7+1))
 some (.inl (s0,s1,s6,t65_4,t50_2)))) none) none) none) (
 cond (inR s6 (List.length s0)) (
 let t53_5:=(List.getD s0 (Int.toNat s6) (0,0))
 cond (inR s7 (List.length s1)) (
 let t58_5:=(List.getD s1 (Int.toNat s7) (0,0))
 cond (decide (t53_5.2<t58_5.2)) (
 let t63_5:=(w64 (s6+1))
 some (.inl (s0,s1,t63_5,s7,l5))) (
 let t65_5:=(w64 (s7+1))
 some (.inl (s0,s1,s6,t65_5,l5)))) none) none)) none) none) none) none) (
 some (.inr l5))
def j0at [LP] (s0 s1:Tn2) (s6 s7:Int) (l5:Tn2):Option (Tn2):=
 LP.lp (fun h=>j09b h.1 h.2.1 h.2.2.1 h.2.2.2.1 h.2.2.2.2) (s0,s1,s6,s7,l5)
def j088 [LP] (a0_a a1_b:Tn2):Option (Tn2):=
 (j0at a0_a a1_b 0 0 ([]:Tn2)).bind fun q0=>
 some q0
def j05l [LP] (a0_v:Tn73) (a1_l:Tn59) (a2_from a3_to:Int):Option (Tn2):=
 cond (inR a1_l.2.1 (List.length a0_v.2)) (
 let t17:=(List.getD a0_v.2 (Int.toNat a1_l.2.1) (0,([]:Tn2)))
 (j00K (t17.1,t17.2) (a1_l.1,(a1_l.2.1,((a1_l.2.2.1.1,a1_l.2.2.1.2),(a1_l.2.2.2.1,(a1_l.2.2.2.2.1,(a1_l.2.2.2.2.2.1,(a1_l.2.2.2.2.2.2.1,(a1_l.2.2.2.2.2.2.2.1,a1_l.2.2.2.2.2.2.2.2)))))))) 0).bind fun r20=>
 cond (cond (cond (!r20.2) true (decide (r20.1≥a3_to))) true (decide (a2_from≥a3_to))) (
 some ([]:Tn2)) (
 let t37:Int:=(if r20.1>a2_from then r20.1 else a2_from:Int)
 let t41:Tn2:=[(t37,a3_to)]
 let t44:=(Int.ofNat (List.length a1_l.2.2.2.2.2.2.1))
 cond (decide (t44>0)) (
 cond (inR a1_l.2.1 (List.length a0_v.2)) (
 let t50:=(List.getD a0_v.2 (Int.toNat a1_l.2.1) (0,([]:Tn2)))
 (j08j (t50.1,t50.2) a1_l.2.2.2.2.2.2.1 t37 a3_to).bind fun r56=>
 cond (a1_l.2.2.2.2.2.2.2.2==1) (
 cond (inR a1_l.2.2.2.2.2.2.2.1 (List.length a0_v.1.2.2.1)) (
 let t68:=(List.getD a0_v.1.2.2.1 (Int.toNat a1_l.2.2.2.2.2.2.2.1) (ByteArray.empty,(0,([]:(List Int)))))
 (j037 ((a0_v.1.1,(a0_v.1.2.1,(a0_v.1.2.2.1,a0_v.1.2.2.2))),a0_v.2) (t68.1,(t68.2.1,t68.2.2)) t37 a3_to).bind fun r72=>
 (j03Y r56 r72).bind fun r73=>
 some r73) none) (
 cond (a1_l.2.2.2.2.2.2.2.2==2) (
 cond (inR a1_l.2.2.2.2.2.2.2.1 (List.length a0_v.1.2.2.1)) (
 let t83:=(List.getD a0_v.1.2.2.1 (Int.toNat a1_l.2.2.2.2.2.2.2.1) (ByteArray.empty,(0,([]:(List Int)))))
 (j037 ((a0_v.1.1,(a0_v.1.2.1,(a0_v.1.2.2.1,a0_v.1.2.2.2))),a0_v.2) (t83.1,(t83.2.1,t83.2.2)) t37 a3_to).bind fun r87=>
 (j088 r56 r87).bind fun r88=>
 some r88) none) (
 some r56))) none) (
 cond (a1_l.2.2.2.2.2.2.2.2==1) (
 cond (inR a1_l.2.2.2.2.2.2.2.1 (List.length a0_v.1.2.2.1)) (
 let t68_1:=(List.getD a0_v.1.2.2.1 (Int.toNat a1_l.2.2.2.2.2.2.2.1) (ByteArray.empty,(0,([]:(List Int)))))
 (j037 ((a0_v.1.1,(a0_v.1.2.1,(a0_v.1.2.2.1,a0_v.1.2.2.2))),a0_v.2) (t68_1.1,(t68_1.2.1,t68_1.2.2)) t37 a3_to).bind fun r72_1=>
 (j03Y t41 r72_1).bind fun r73_1=>
 some r73_1) none) (
 cond (a1_l.2.2.2.2.2.2.2.2==2) (
 cond (inR a1_l.2.2.2.2.2.2.2.1 (List.length a0_v.1.2.2.1)) (
 let t83_1:=(List.getD a0_v.1.2.2.1 (Int.toNat a1_l.2.2.2.2.2.2.2.1) (ByteArray.empty,(0,([]:(List Int)))))
 (j037 ((a0_v.1.1,(a0_v.1.2.1,(a0_v.1.2.2.1,a0_v.1.2.2.2))),a0_v.2) (t83_1.1,(t83_1.2.1,t83_1.2.2)) t37 a3_to).bind fun r87_1=>
 (j088 t41 r87_1).bind fun r88_1=>
 some r88_1) none) (
 some t41))))) none
def j02s [LP] (a0_b:Tn13) (a1_t:Int):Option (Int):=
 (j02h (a0_b.1,a0_b.2) a1_t).bind fun r8=>
 (j031 (a0_b.1,a0_b.2) r8).bind fun r9=>
 some r9
def j0dp (a0_n:Int):Option ((Int×Int)):=
 let t5:=(w64 (Int.tdiv a0_n 86400))
 let t7:=(Int.tmod a0_n 86400)
 cond (decide (t7<0)) (
 let t10:=(w64 (t5-1))
 let t14:=(w64 (t10*86400))
 let t15:=(w64 (a0_n-t14))
 some (t10,t15)) (
 let t14_1:=(w64 (t5*86400))
 let t15_1:=(w64 (a0_n-t14_1))
 some (t5,t15_1))
def j00o [LP] (a0_b:Tn13) (a1_t:Int):Option ((Int×Int)):=
 (j02s (a0_b.1,a0_b.2) a1_t).bind fun r8=>
 let t9:=(w64 (a1_t+r8))
 (j0dp t9).bind fun r10=>
 some (r10.1,r10.2)
def j01b [LP] (s2 s9 b3:Int) (b3_1:Tn2) (b4:ByteArray) (b4_1 b4_2 b4_3 b4_4 b4_5:Int) (b4_6:(List Int)) (b4_7:Tn2) (b4_8 b4_9:Int):Option ((Int×Int×Int×Tn2×ByteArray×Int×Int×Int×Int×Int×(List Int)×Tn2×Int×Int) ⊕ ((Int×Int×Int×Tn2×ByteArray×Int×Int×Int×Int×Int×(List Int)×Tn2×Int×Int))):=
 cond (decide (s9>0)) (
 (j00K (b3,b3_1) (b4,(b4_1,((b4_2,b4_3),(b4_4,(b4_5,(b4_6,(b4_7,(b4_8,b4_9)))))))) s9).bind fun r55_1=>
 cond (cond r55_1.2 (decide (r55_1.1≤s2)) false) (
 some (.inr (s2,s9,b3,b3_1,b4,b4_1,b4_2,b4_3,b4_4,b4_5,b4_6,b4_7,b4_8,b4_9))) (
 let t65_1:=(w64 (s9-1))
 some (.inl (s2,t65_1,b3,b3_1,b4,b4_1,b4_2,b4_3,b4_4,b4_5,b4_6,b4_7,b4_8,b4_9)))) (
 some (.inr (s2,s9,b3,b3_1,b4,b4_1,b4_2,b4_3,b4_4,b4_5,b4_6,b4_7,b4_8,b4_9)))
def j03A [LP] (s2 s9 b3:Int) (b3_1:Tn2) (b4:ByteArray) (b4_1 b4_2 b4_3 b4_4 b4_5:Int) (b4_6:(List Int)) (b4_7:Tn2) (b4_8 b4_9:Int):Option ((Int×Int×Int×Tn2×ByteArray×Int×Int×Int×Int×Int×(List Int)×Tn2×Int×Int)):=
 LP.lp (fun h=>j01b h.1 h.2.1 h.2.2.1 h.2.2.2.1 h.2.2.2.2.1 h.2.2.2.2.2.1 h.2.2.2.2.2.2.1 h.2.2.2.2.2.2.2.1 h.2.2.2.2.2.2.2.2.1 h.2.2.2.2.2.2.2.2.2.1 h.2.2.2.2.2.2.2.2.2.2.1 h.2.2.2.2.2.2.2.2.2.2.2.1 h.2.2.2.2.2.2.2.2.2.2.2.2.1 h.2.2.2.2.2.2.2.2.2.2.2.2.2) (s2,s9,b3,b3_1,b4,b4_1,b4_2,b4_3,b4_4,b4_5,b4_6,b4_7,b4_8,b4_9)
theorem j09c (s2 s9 b3:Int) (b3_1:Tn2) (b4:ByteArray) (b4_1 b4_2 b4_3 b4_4 b4_5:Int) (b4_6:(List Int)) (b4_7:Tn2) (b4_8 b4_9:Int):j03A s2 s9 b3 b3_1 b4 b4_1 b4_2 b4_3 b4_4 b4_5 b4_6 b4_7 b4_8 b4_9=lpK (j01b s2 s9 b3 b3_1 b4 b4_1 b4_2 b4_3 b4_4 b4_5 b4_6 b4_7 b4_8 b4_9) (fun h=>j03A h.1 h.2.1 h.2.2.1 h.2.2.2.1 h.2.2.2.2.1 h.2.2.2.2.2.1 h.2.2.2.2.2.2.1 h.2.2.2.2.2.2.2.1 h.2.2.2.2.2.2.2.2.1 h.2.2.2.2.2.2.2.2.2.1 h.2.2.2.2.2.2.2.2.2.2.1 h.2.2.2.2.2.2.2.2.2.2.2.1 h.2.2.2.2.2.2.2.2.2.2.2.2.1 h.2.2.2.2.2.2.2.2.2.2.2.2.2):=j004 _ _
def j01w [LP] (s2 s9 b3:Int) (b3_1:Tn2) (b4:ByteArray) (b4_1 b4_2 b4_3 b4_4 b4_5:Int) (b4_6:(List Int)) (b4_7:Tn2) (b4_8 b4_9:Int):Option ((Int×Int×Int×Tn2×ByteArray×Int×Int×Int×Int×Int×(List Int)×Tn2×Int×Int) ⊕ (Int)):=
 let t70_1:=(w64 (s9+1))
 (j00K (b3,b3_1) (b4,(b4_1,((b4_2,b4_3),(b4_4,(b4_5,(b4_6,(b4_7,(b4_8,b4_9)))))))) t70_1).bind fun r71_1=>
 cond (cond (!r71_1.2) true (decide (r71_1.1>s2))) (
 some (.inr s9)) (
 let t83_1:=(w64 (s9+1))
 some (.inl (s2,t83_1,b3,b3_1,b4,b4_1,b4_2,b4_3,b4_4,b4_5,b4_6,b4_7,b4_8,b4_9)))
def j03B [LP] (s2 s9 b3:Int) (b3_1:Tn2) (b4:ByteArray) (b4_1 b4_2 b4_3 b4_4 b4_5:Int) (b4_6:(List Int)) (b4_7:Tn2) (b4_8 b4_9:Int):Option (Int):=
 LP.lp (fun h=>j01w h.1 h.2.1 h.2.2.1 h.2.2.2.1 h.2.2.2.2.1 h.2.2.2.2.2.1 h.2.2.2.2.2.2.1 h.2.2.2.2.2.2.2.1 h.2.2.2.2.2.2.2.2.1 h.2.2.2.2.2.2.2.2.2.1 h.2.2.2.2.2.2.2.2.2.2.1 h.2.2.2.2.2.2.2.2.2.2.2.1 h.2.2.2.2.2.2.2.2.2.2.2.2.1 h.2.2.2.2.2.2.2.2.2.2.2.2.2) (s2,s9,b3,b3_1,b4,b4_1,b4_2,b4_3,b4_4,b4_5,b4_6,b4_7,b4_8,b4_9)
theorem j0dq (s2 s9 b3:Int) (b3_1:Tn2) (b4:ByteArray) (b4_1 b4_2 b4_3 b4_4 b4_5:Int) (b4_6:(List Int)) (b4_7:Tn2) (b4_8 b4_9:Int):j03B s2 s9 b3 b3_1 b4 b4_1 b4_2 b4_3 b4_4 b4_5 b4_6 b4_7 b4_8 b4_9=lpK (j01w s2 s9 b3 b3_1 b4 b4_1 b4_2 b4_3 b4_4 b4_5 b4_6 b4_7 b4_8 b4_9) (fun h=>j03B h.1 h.2.1 h.2.2.1 h.2.2.2.1 h.2.2.2.2.1 h.2.2.2.2.2.1 h.2.2.2.2.2.2.1 h.2.2.2.2.2.2.2.1 h.2.2.2.2.2.2.2.2.1 h.2.2.2.2.2.2.2.2.2.1 h.2.2.2.2.2.2.2.2.2.2.1 h.2.2.2.2.2.2.2.2.2.2.2.1 h.2.2.2.2.2.2.2.2.2.2.2.2.1 h.2.2.2.2.2.2.2.2.2.2.2.2.2):=j004 _ _
def j01N [LP] (a0_b:Tn13) (a1_l:Tn59) (a2_t:Int):Option (Int):=
 (j00K (a0_b.1,a0_b.2) (a1_l.1,(a1_l.2.1,((a1_l.2.2.1.1,a1_l.2.2.1.2),(a1_l.2.2.2.1,(a1_l.2.2.2.2.1,(a1_l.2.2.2.2.2.1,(a1_l.2.2.2.2.2.2.1,(a1_l.2.2.2.2.2.2.2.1,a1_l.2.2.2.2.2.2.2.2)))))))) 0).bind fun r17=>
 cond (cond (!r17.2) true (decide (r17.1>a2_t))) (
 some (-1)) (
 cond (a1_l.2.2.2.1==0) (
 let t32:=(w64 (a2_t-r17.1))
 let t35:=(w64 (3600*a1_l.2.2.2.2.1))
 cond (!(t35==0)) (
 let t36:=(w64 (Int.tdiv t32 t35))
 some t36) none) (
 (j00o (a0_b.1,a0_b.2) a2_t).bind fun r39=>
 let t44:=(w64 (r39.1-a1_l.2.2.1.1))
 (j08h (a1_l.1,(a1_l.2.1,((a1_l.2.2.1.1,a1_l.2.2.1.2),(a1_l.2.2.2.1,(a1_l.2.2.2.2.1,(a1_l.2.2.2.2.2.1,(a1_l.2.2.2.2.2.2.1,(a1_l.2.2.2.2.2.2.2.1,a1_l.2.2.2.2.2.2.2.2))))))))).bind fun r46=>
 cond (!(r46==0)) (
 let t47:=(w64 (Int.tdiv t44 r46))
 let t48:Int:=(if t47>0 then t47 else 0:Int)
 (j03A a2_t t48 a0_b.1 a0_b.2 a1_l.1 a1_l.2.1 a1_l.2.2.1.1 a1_l.2.2.1.2 a1_l.2.2.2.1 a1_l.2.2.2.2.1 a1_l.2.2.2.2.2.1 a1_l.2.2.2.2.2.2.1 a1_l.2.2.2.2.2.2.2.1 a1_l.2.2.2.2.2.2.2.2).bind fun q0=>
 (j03B q0.1 q0.2.1 q0.2.2.1 q0.2.2.2.1 q0.2.2.2.2.1 q0.2.2.2.2.2.1 q0.2.2.2.2.2.2.1 q0.2.2.2.2.2.2.2.1 q0.2.2.2.2.2.2.2.2.1 q0.2.2.2.2.2.2.2.2.2.1 q0.2.2.2.2.2.2.2.2.2.2.1 q0.2.2.2.2.2.2.2.2.2.2.2.1 q0.2.2.2.2.2.2.2.2.2.2.2.2.1 q0.2.2.2.2.2.2.2.2.2.2.2.2.2).bind fun q2=>
 some q2) none))
def j0aa (s7:Tn14) (s8 s9:Int) (l3:Tn14):Option ((Tn14×Int×Int×Tn14) ⊕ (Tn14)):=
 cond (decide (s9<s8)) (
 cond (inR s9 (List.length s7)) (
 let t11_2:=(List.getD s7 (Int.toNat s9) (0,(0,0)))
 cond (decide (t11_2.2.1≤t11_2.1)) (
 let t55_7:=(w64 (s9+1))
 some (.inl (s7,s8,t55_7,l3))) (
 let t19_1:=(Int.ofNat (List.length l3))
 cond (decide (t19_1>0)) (
 let t25_2:=(w64 (t19_1-1))
 cond (inR t25_2 (List.length l3)) (
 let t28_1:=(List.getD l3 (Int.toNat t25_2) (0,(0,0))).2.1
 cond (t28_1==t11_2.1) (
 let t36_1:=(w64 (t19_1-1))
 cond (inR t36_1 (List.length l3)) (
 let t39_1:=(List.getD l3 (Int.toNat t36_1) (0,(0,0))).2.2
 cond (t39_1==t11_2.2.2) (
 let t46_1:=(w64 (t19_1-1))
 cond (inR t46_1 (List.length l3)) (
 let m7_1:Tn14:=(List.set l3 (Int.toNat t46_1) ((List.getD l3 (Int.toNat t46_1) (0,(0,0))).1,(t11_2.2.1,(List.getD l3 (Int.toNat t46_1) (0,(0,0))).2.2)))
 let t55_8:=(w64 (s9+1))
 some (.inl (s7,s8,t55_8,m7_1))) none) (
 let t53_4:Tn14:=[(t11_2.1,(t11_2.2.1,t11_2.2.2))]
 cond (decide (List.length l3+List.length t53_4≤sizeMax)) (
 let t54_4:Tn14:=(l3++t53_4)
 let t55_9:=(w64 (s9+1))
 some (.inl (s7,s8,t55_9,t54_4))) none)) none) (
 let t53_5:Tn14:=[(t11_2.1,(t11_2.2.1,t11_2.2.2))]
 cond (decide (List.length l3+List.length t53_5≤sizeMax)) (
 let t54_5:Tn14:=(l3++t53_5)
 let t55_10:=(w64 (s9+1))
 some (.inl (s7,s8,t55_10,t54_5))) none)) none) (
 let t53_6:Tn14:=[(t11_2.1,(t11_2.2.1,t11_2.2.2))]
 cond (decide (List.length l3+List.length t53_6≤sizeMax)) (
 let t54_6:Tn14:=(l3++t53_6)
 let t55_11:=(w64 (s9+1))
 some (.inl (s7,s8,t55_11,t54_6))) none))) none) (
 some (.inr l3))
def j0bx [LP] (s7:Tn14) (s8 s9:Int) (l3:Tn14):Option (Tn14):=
 LP.lp (fun h=>j0aa h.1 h.2.1 h.2.2.1 h.2.2.2) (s7,s8,s9,l3)
def j0ab [LP] (a0_l:Tn14):Option (Tn14):=
 let t8:=(Int.ofNat (List.length a0_l))
 (j0bx a0_l t8 0 ([]:Tn14)).bind fun q0=>
 some q0
def j01G [LP] (s3 s11 s12 s13 s31 s32:Int) (b5:ByteArray) (b5_1 b5_2 b5_3 b5_4 b5_5:Int) (b5_6:(List Int)) (b5_7:Tn2) (b5_8 b5_9 b10:Int) (b10_1:Tn2) (b15 b15_1:Int) (l9:Tn14) (l30:Tn2):Option ((Int×Int×Int×Int×Int×Int×ByteArray×Int×Int×Int×Int×Int×(List Int)×Tn2×Int×Int×Int×Tn2×Int×Int×Tn14×Tn2) ⊕ ((Int×Int×Int×Int×Int×Int×ByteArray×Int×Int×Int×Int×Int×(List Int)×Tn2×Int×Int×Int×Tn2×Tn14×Tn2))):=
 cond (decide (s11<b15_1)) (
 cond (decide (s11≥s13)) (
 (j01N (b10,b10_1) (b5,(b5_1,((b5_2,b5_3),(b5_4,(b5_5,(b5_6,(b5_7,(b5_8,b5_9)))))))) s11).bind fun r55_3=>
 let t60_3:=(w64 (r55_3+1))
 (j00K (b10,b10_1) (b5,(b5_1,((b5_2,b5_3),(b5_4,(b5_5,(b5_6,(b5_7,(b5_8,b5_9)))))))) t60_3).bind fun r61_3=>
 cond (!r61_3.2) (
 let t70_9:Int:=(if 8589934593<b15_1 then 8589934593 else b15_1:Int)
 let t79_9:=(Int.ofNat (List.length b5_6))
 cond (!(t79_9==0)) (
 let t80_9:=(Int.tmod r55_3 t79_9)
 cond (inR t80_9 (List.length b5_6)) (
 let t81_9:=(List.getD b5_6 (Int.toNat t80_9) 0)
 let t84_9:Tn14:=[(s11,(t70_9,t81_9))]
 cond (decide (List.length l9+List.length t84_9≤sizeMax)) (
 let t85_9:Tn14:=(l9++t84_9)
 some (.inl (s3,t70_9,r55_3,8589934593,s31,s32,b5,b5_1,b5_2,b5_3,b5_4,b5_5,b5_6,b5_7,b5_8,b5_9,b10,b10_1,b15,b15_1,t85_9,l30))) none) none) none) (
 let t70_10:Int:=(if r61_3.1<b15_1 then r61_3.1 else b15_1:Int)
 let t79_10:=(Int.ofNat (List.length b5_6))
 cond (!(t79_10==0)) (
 let t80_10:=(Int.tmod r55_3 t79_10)
 cond (inR t80_10 (List.length b5_6)) (
 let t81_10:=(List.getD b5_6 (Int.toNat t80_10) 0)
 let t84_10:Tn14:=[(s11,(t70_10,t81_10))]
 cond (decide (List.length l9+List.length t84_10≤sizeMax)) (
 let t85_10:Tn14:=(l9++t84_10)
 some (.inl (s3,t70_10,r55_3,r61_3.1,s31,s32,b5,b5_1,b5_2,b5_3,b5_4,b5_5,b5_6,b5_7,b5_8,b5_9,b10,b10_1,b15,b15_1,t85_10,l30))) none) none) none)) (
 let t70_11:Int:=(if s13<b15_1 then s13 else b15_1:Int)
 let t79_11:=(Int.ofNat (List.length b5_6))
 cond (!(t79_11==0)) (
 let t80_11:=(Int.tmod s12 t79_11)
 cond (inR t80_11 (List.length b5_6)) (
 let t81_11:=(List.getD b5_6 (Int.toNat t80_11) 0)
 let t84_11:Tn14:=[(s11,(t70_11,t81_11))]
 cond (decide (List.length l9+List.length t84_11≤sizeMax)) (
 let t85_11:Tn14:=(l9++t84_11)
 some (.inl (s3,t70_11,s12,s13,s31,s32,b5,b5_1,b5_2,b5_3,b5_4,b5_5,b5_6,b5_7,b5_8,b5_9,b10,b10_1,b15,b15_1,t85_11,l30))) none) none) none)) (
 some (.inr (s3,s11,s12,s13,s31,s32,b5,b5_1,b5_2,b5_3,b5_4,b5_5,b5_6,b5_7,b5_8,b5_9,b10,b10_1,l9,l30)))
def j05c [LP] (s3 s11 s12 s13 s31 s32:Int) (b5:ByteArray) (b5_1 b5_2 b5_3 b5_4 b5_5:Int) (b5_6:(List Int)) (b5_7:Tn2) (b5_8 b5_9 b10:Int) (b10_1:Tn2) (b15 b15_1:Int) (l9:Tn14) (l30:Tn2):Option ((Int×Int×Int×Int×Int×Int×ByteArray×Int×Int×Int×Int×Int×(List Int)×Tn2×Int×Int×Int×Tn2×Tn14×Tn2)):=
 LP.lp (fun h=>j01G h.1 h.2.1 h.2.2.1 h.2.2.2.1 h.2.2.2.2.1 h.2.2.2.2.2.1 h.2.2.2.2.2.2.1 h.2.2.2.2.2.2.2.1 h.2.2.2.2.2.2.2.2.1 h.2.2.2.2.2.2.2.2.2.1 h.2.2.2.2.2.2.2.2.2.2.1 h.2.2.2.2.2.2.2.2.2.2.2.1 h.2.2.2.2.2.2.2.2.2.2.2.2.1 h.2.2.2.2.2.2.2.2.2.2.2.2.2.1 h.2.2.2.2.2.2.2.2.2.2.2.2.2.2.1 h.2.2.2.2.2.2.2.2.2.2.2.2.2.2.2.1 h.2.2.2.2.2.2.2.2.2.2.2.2.2.2.2.2.1 h.2.2.2.2.2.2.2.2.2.2.2.2.2.2.2.2.2.1 h.2.2.2.2.2.2.2.2.2.2.2.2.2.2.2.2.2.2.1 h.2.2.2.2.2.2.2.2.2.2.2.2.2.2.2.2.2.2.2.1 h.2.2.2.2.2.2.2.2.2.2.2.2.2.2.2.2.2.2.2.2.1 h.2.2.2.2.2.2.2.2.2.2.2.2.2.2.2.2.2.2.2.2.2) (s3,s11,s12,s13,s31,s32,b5,b5_1,b5_2,b5_3,b5_4,b5_5,b5_6,b5_7,b5_8,b5_9,b10,b10_1,b15,b15_1,l9,l30)
def j01H [LP] (s3 s11 s12 s13 s31 s32:Int) (b5:ByteArray) (b5_1 b5_2 b5_3 b5_4 b5_5:Int) (b5_6:(List Int)) (b5_7:Tn2) (b5_8 b5_9 b10:Int) (b10_1:Tn2) (l9:Tn14) (l30:Tn2):Option ((Int×Int×Int×Int×Int×Int×ByteArray×Int×Int×Int×Int×Int×(List Int)×Tn2×Int×Int×Int×Tn2×Tn14×Tn2) ⊕ ((Int×Int×Tn14))):=
 cond (decide (s32<s31)) (
 cond (inR s32 (List.length l30)) (
 let t35_4:=(List.getD l30 (Int.toNat s32) (0,0)).1
 let t35_5:=(List.getD l30 (Int.toNat s32) (0,0)).2
 let t41_2:Tn14:=[(s11,(t35_4,(-1)))]
 cond (decide (List.length l9+List.length t41_2≤sizeMax)) (
 let t42_2:Tn14:=(l9++t41_2)
 (j05c s3 t35_4 s12 s13 s31 s32 b5 b5_1 b5_2 b5_3 b5_4 b5_5 b5_6 b5_7 b5_8 b5_9 b10 b10_1 t35_4 t35_5 t42_2 l30).bind fun q2_2=>
 let t87_2:=(w64 (q2_2.2.2.2.2.2.1+1))
 some (.inl (q2_2.1,q2_2.2.1,q2_2.2.2.1,q2_2.2.2.2.1,q2_2.2.2.2.2.1,t87_2,q2_2.2.2.2.2.2.2.1,q2_2.2.2.2.2.2.2.2.1,q2_2.2.2.2.2.2.2.2.2.1,q2_2.2.2.2.2.2.2.2.2.2.1,q2_2.2.2.2.2.2.2.2.2.2.2.1,q2_2.2.2.2.2.2.2.2.2.2.2.2.1,q2_2.2.2.2.2.2.2.2.2.2.2.2.2.1,q2_2.2.2.2.2.2.2.2.2.2.2.2.2.2.1,q2_2.2.2.2.2.2.2.2.2.2.2.2.2.2.2.1,q2_2.2.2.2.2.2.2.2.2.2.2.2.2.2.2.2.1,q2_2.2.2.2.2.2.2.2.2.2.2.2.2.2.2.2.2.1,q2_2.2.2.2.2.2.2.2.2.2.2.2.2.2.2.2.2.2.1,q2_2.2.2.2.2.2.2.2.2.2.2.2.2.2.2.2.2.2.2.1,q2_2.2.2.2.2.2.2.2.2.2.2.2.2.2.2.2.2.2.2.2))) none) none) (
 some (.inr (s3,s11,l9)))
def j05d [LP] (s3 s11 s12 s13 s31 s32:Int) (b5:ByteArray) (b5_1 b5_2 b5_3 b5_4 b5_5:Int) (b5_6:(List Int)) (b5_7:Tn2) (b5_8 b5_9 b10:Int) (b10_1:Tn2) (l9:Tn14) (l30:Tn2):Option ((Int×Int×Tn14)):=
 LP.lp (fun h=>j01H h.1 h.2.1 h.2.2.1 h.2.2.2.1 h.2.2.2.2.1 h.2.2.2.2.2.1 h.2.2.2.2.2.2.1 h.2.2.2.2.2.2.2.1 h.2.2.2.2.2.2.2.2.1 h.2.2.2.2.2.2.2.2.2.1 h.2.2.2.2.2.2.2.2.2.2.1 h.2.2.2.2.2.2.2.2.2.2.2.1 h.2.2.2.2.2.2.2.2.2.2.2.2.1 h.2.2.2.2.2.2.2.2.2.2.2.2.2.1 h.2.2.2.2.2.2.2.2.2.2.2.2.2.2.1 h.2.2.2.2.2.2.2.2.2.2.2.2.2.2.2.1 h.2.2.2.2.2.2.2.2.2.2.2.2.2.2.2.2.1 h.2.2.2.2.2.2.2.2.2.2.2.2.2.2.2.2.2.1 h.2.2.2.2.2.2.2.2.2.2.2.2.2.2.2.2.2.2.1 h.2.2.2.2.2.2.2.2.2.2.2.2.2.2.2.2.2.2.2) (s3,s11,s12,s13,s31,s32,b5,b5_1,b5_2,b5_3,b5_4,b5_5,b5_6,b5_7,b5_8,b5_9,b10,b10_1,l9,l30)
def j03C [LP] (a0_v:Tn73) (a1_l:Tn59) (a2_from a3_to:Int):Option (Tn14):=
 cond (inR a1_l.2.1 (List.length a0_v.2)) (
 let t23:=(List.getD a0_v.2 (Int.toNat a1_l.2.1) (0,([]:Tn2)))
 (j05l ((a0_v.1.1,(a0_v.1.2.1,(a0_v.1.2.2.1,a0_v.1.2.2.2))),a0_v.2) (a1_l.1,(a1_l.2.1,((a1_l.2.2.1.1,a1_l.2.2.1.2),(a1_l.2.2.2.1,(a1_l.2.2.2.2.1,(a1_l.2.2.2.2.2.1,(a1_l.2.2.2.2.2.2.1,(a1_l.2.2.2.2.2.2.2.1,a1_l.2.2.2.2.2.2.2.2)))))))) a2_from a3_to).bind fun r30=>
 let t31:=(Int.ofNat (List.length r30))
 (j05d a3_to a2_from (-1) (-1) t31 0 a1_l.1 a1_l.2.1 a1_l.2.2.1.1 a1_l.2.2.1.2 a1_l.2.2.2.1 a1_l.2.2.2.2.1 a1_l.2.2.2.2.2.1 a1_l.2.2.2.2.2.2.1 a1_l.2.2.2.2.2.2.2.1 a1_l.2.2.2.2.2.2.2.2 t23.1 t23.2 ([]:Tn14) r30).bind fun q0=>
 let t92:Tn14:=[(q0.2.1,(q0.1,(-1)))]
 cond (decide (List.length q0.2.2+List.length t92≤sizeMax)) (
 let t93:Tn14:=(q0.2.2++t92)
 (j0ab t93).bind fun r94=>
 some r94) none) none
def j08m (s1:Int) (s9:Tn29) (s10 s11:Int) (l5:Tn2):Option ((Int×Tn29×Int×Int×Tn2) ⊕ (Tn2)):=
 cond (decide (s11<s10)) (
 cond (inR s11 (List.length s9)) (
 let t13_2:=(List.getD s9 (Int.toNat s11) (0,(0,(0,(0,0)))))
 cond (cond (t13_2.1==0) (t13_2.2.1==s1) false) (
 let t30_2:Tn2:=[(t13_2.2.2.2.1,t13_2.2.2.2.2)]
 cond (decide (List.length l5+List.length t30_2≤sizeMax)) (
 let t31_2:Tn2:=(l5++t30_2)
 let t32_4:=(w64 (s11+1))
 some (.inl (s1,s9,s10,t32_4,t31_2))) none) (
 let t32_5:=(w64 (s11+1))
 some (.inl (s1,s9,s10,t32_5,l5)))) none) (
 some (.inr l5))
def j09G [LP] (s1:Int) (s9:Tn29) (s10 s11:Int) (l5:Tn2):Option (Tn2):=
 LP.lp (fun h=>j08m h.1 h.2.1 h.2.2.1 h.2.2.2.1 h.2.2.2.2) (s1,s9,s10,s11,l5)
def j08n [LP] (a0_s:Tn64) (a1_person:Int):Option (Tn2):=
 let t10:=(Int.ofNat (List.length a0_s.2.2))
 (j09G a1_person a0_s.2.2 t10 0 ([]:Tn2)).bind fun q0=>
 (j077 q0).bind fun r34=>
 some r34
def j07D (s14:Tn14) (s15 s16 s50 s51:Int) (b2:ByteArray) (b2_1:Tn60) (b2_2:Tn29) (b8 b8_1 b8_2:Int) (l5:Tn20) (l6:Tn14) (l49:Tn2):Option ((Tn14×Int×Int×Int×Int×ByteArray×Tn60×Tn29×Int×Int×Int×Tn20×Tn14×Tn2) ⊕ ((Tn14×Int×Int×ByteArray×Tn60×Tn29×Tn20×Tn14))):=
 cond (decide (s51<s50)) (
 cond (inR s51 (List.length l49)) (
 let t54_8:=(List.getD l49 (Int.toNat s51) (0,0)).1
 let t54_9:=(List.getD l49 (Int.toNat s51) (0,0)).2
 let t63_4:Tn14:=[(t54_8,(t54_9,b8_2))]
 cond (decide (List.length l6+List.length t63_4≤sizeMax)) (
 let t64_4:Tn14:=(l6++t63_4)
 let t65_4:=(w64 (s51+1))
 some (.inl (s14,s15,s16,s50,t65_4,b2,b2_1,b2_2,b8,b8_1,b8_2,l5,t64_4,l49))) none) none) (
 some (.inr (s14,s15,s16,b2,b2_1,b2_2,l5,l6)))
def j06b [LP] (s14:Tn14) (s15 s16 s50 s51:Int) (b2:ByteArray) (b2_1:Tn60) (b2_2:Tn29) (b8 b8_1 b8_2:Int) (l5:Tn20) (l6:Tn14) (l49:Tn2):Option ((Tn14×Int×Int×ByteArray×Tn60×Tn29×Tn20×Tn14)):=
 LP.lp (fun h=>j07D h.1 h.2.1 h.2.2.1 h.2.2.2.1 h.2.2.2.2.1 h.2.2.2.2.2.1 h.2.2.2.2.2.2.1 h.2.2.2.2.2.2.2.1 h.2.2.2.2.2.2.2.2.1 h.2.2.2.2.2.2.2.2.2.1 h.2.2.2.2.2.2.2.2.2.2.1 h.2.2.2.2.2.2.2.2.2.2.2.1 h.2.2.2.2.2.2.2.2.2.2.2.2.1 h.2.2.2.2.2.2.2.2.2.2.2.2.2) (s14,s15,s16,s50,s51,b2,b2_1,b2_2,b8,b8_1,b8_2,l5,l6,l49)
def j02y [LP] (s14:Tn14) (s15 s16:Int) (b2:ByteArray) (b2_1:Tn60) (b2_2:Tn29) (l5:Tn20) (l6:Tn14):Option ((Tn14×Int×Int×ByteArray×Tn60×Tn29×Tn20×Tn14) ⊕ (Tn14)):=
 cond (decide (s16<s15)) (
 cond (inR s16 (List.length s14)) (
 let t18_2:=(List.getD s14 (Int.toNat s16) (0,(0,0)))
 cond (decide (t18_2.2.2<0)) (
 let t66_6:=(w64 (s16+1))
 some (.inl (s14,s15,t66_6,b2,b2_1,b2_2,l5,l6))) (
 let t27_2:Tn2:=(mapGet ([]:Tn2) l5 t18_2.2.2)
 cond (!(mapHas l5 t18_2.2.2)) (
 (j08n (b2,(b2_1,b2_2)) t18_2.2.2).bind fun r38_2=>
 let m7_2:Tn20:=(mapSet l5 t18_2.2.2 r38_2)
 let t44_4:Tn2:=[(t18_2.1,t18_2.2.1)]
 let t48_4:Tn2:=(mapGet ([]:Tn2) m7_2 t18_2.2.2)
 (j03Y t44_4 t48_4).bind fun r49_4=>
 let t50_4:=(Int.ofNat (List.length r49_4))
 (j06b s14 s15 s16 t50_4 0 b2 b2_1 b2_2 t18_2.1 t18_2.2.1 t18_2.2.2 m7_2 l6 r49_4).bind fun q2_4=>
 let t66_7:=(w64 (q2_4.2.2.1+1))
 some (.inl (q2_4.1,q2_4.2.1,t66_7,q2_4.2.2.2.1,q2_4.2.2.2.2.1,q2_4.2.2.2.2.2.1,q2_4.2.2.2.2.2.2.1,q2_4.2.2.2.2.2.2.2))) (
 let t44_5:Tn2:=[(t18_2.1,t18_2.2.1)]
 let t48_5:Tn2:=(mapGet ([]:Tn2) l5 t18_2.2.2)
 (j03Y t44_5 t48_5).bind fun r49_5=>
 let t50_5:=(Int.ofNat (List.length r49_5))
 (j06b s14 s15 s16 t50_5 0 b2 b2_1 b2_2 t18_2.1 t18_2.2.1 t18_2.2.2 l5 l6 r49_5).bind fun q2_5=>
 let t66_8:=(w64 (q2_5.2.2.1+1))
 some (.inl (q2_5.1,q2_5.2.1,t66_8,q2_5.2.2.2.1,q2_5.2.2.2.2.1,q2_5.2.2.2.2.2.1,q2_5.2.2.2.2.2.2.1,q2_5.2.2.2.2.2.2.2))))) none) (
 some (.inr l6))
def j08o [LP] (s14:Tn14) (s15 s16:Int) (b2:ByteArray) (b2_1:Tn60) (b2_2:Tn29) (l5:Tn20) (l6:Tn14):Option (Tn14):=
 LP.lp (fun h=>j02y h.1 h.2.1 h.2.2.1 h.2.2.2.1 h.2.2.2.2.1 h.2.2.2.2.2.1 h.2.2.2.2.2.2.1 h.2.2.2.2.2.2.2) (s14,s15,s16,b2,b2_1,b2_2,l5,l6)
def j079 [LP] (a0_s:Tn64) (a1_l:Tn14):Option (Tn14):=
 let t13:Tn20:=([]:Tn20)
 let t15:=(Int.ofNat (List.length a1_l))
 (j08o a1_l t15 0 a0_s.1 a0_s.2.1 a0_s.2.2 t13 ([]:Tn14)).bind fun q0=>
 some q0
def j08p (s0:Tn14) (s1:Tn2) (s6 s7:Int) (l5:Tn14):Option ((Tn14×Tn2×Int×Int×Tn14) ⊕ (Tn14)):=
 let t11_2:=(Int.ofNat (List.length s0))
 let t16_2:=(Int.ofNat (List.length s1))
 cond (cond (decide (s6<t11_2)) (decide (s7<t16_2)) false) (
 cond (inR s6 (List.length s0)) (
 let t21_2:=(List.getD s0 (Int.toNat s6) (0,(0,0)))
 cond (inR s7 (List.length s1)) (
 let t26_2:=(List.getD s1 (Int.toNat s7) (0,0))
 let t29_2:Int:=(if t26_2.1>t21_2.1 then t26_2.1 else t21_2.1:Int)
 cond (inR s6 (List.length s0)) (
 let t32_2:=(List.getD s0 (Int.toNat s6) (0,(0,0)))
 cond (inR s7 (List.length s1)) (
 let t37_2:=(List.getD s1 (Int.toNat s7) (0,0))
 let t40_2:Int:=(if t37_2.2<t32_2.2.1 then t37_2.2 else t32_2.2.1:Int)
 cond (inR s6 (List.length s0)) (
 let t43_2:=(List.getD s0 (Int.toNat s6) (0,(0,0)))
 cond (decide (t29_2<t40_2)) (
 let t54_2:Tn14:=[(t29_2,(t40_2,t43_2.2.2))]
 cond (decide (List.length l5+List.length t54_2≤sizeMax)) (
 let t55_2:Tn14:=(l5++t54_2)
 cond (inR s6 (List.length s0)) (
 let t58_4:=(List.getD s0 (Int.toNat s6) (0,(0,0)))
 cond (inR s7 (List.length s1)) (
 let t63_4:=(List.getD s1 (Int.toNat s7) (0,0))
 cond (decide (t58_4.2.1<t63_4.2)) (
 let t68_4:=(w64 (s6+1))
 some (.inl (s0,s1,t68_4,s7,t55_2))) (
 let t70_4:=(w64 (s7+1))
 some (.inl (s0,s1,s6,t70_4,t55_2)))) none) none) none) (
 cond (inR s6 (List.length s0)) (
 let t58_5:=(List.getD s0 (Int.toNat s6) (0,(0,0)))
 cond (inR s7 (List.length s1)) (
 let t63_5:=(List.getD s1 (Int.toNat s7) (0,0))
 cond (decide (t58_5.2.1<t63_5.2)) (
 let t68_5:=(w64 (s6+1))
 some (.inl (s0,s1,t68_5,s7,l5))) (
 let t70_5:=(w64 (s7+1))
 some (.inl (s0,s1,s6,t70_5,l5)))) none) none)) none) none) none) none) none) (
 some (.inr l5))
def j09H [LP] (s0:Tn14) (s1:Tn2) (s6 s7:Int) (l5:Tn14):Option (Tn14):=
 LP.lp (fun h=>j08p h.1 h.2.1 h.2.2.1 h.2.2.2.1 h.2.2.2.2) (s0,s1,s6,s7,l5)
def j08q [LP] (a0_l:Tn14) (a1_free:Tn2):Option (Tn14):=
 (j09H a0_l a1_free 0 0 ([]:Tn14)).bind fun q0=>
 some q0
def j09d (s6:Tn14) (s7 s8:Int) (l3:Tn2):Option ((Tn14×Int×Int×Tn2) ⊕ (Tn2)):=
 cond (decide (s8<s7)) (
 cond (inR s8 (List.length s6)) (
 let t10_2:=(List.getD s6 (Int.toNat s8) (0,(0,0)))
 let t18_2:Tn2:=[(t10_2.1,t10_2.2.1)]
 cond (decide (List.length l3+List.length t18_2≤sizeMax)) (
 let t19_2:Tn2:=(l3++t18_2)
 let t20_2:=(w64 (s8+1))
 some (.inl (s6,s7,t20_2,t19_2))) none) none) (
 some (.inr l3))
def j0au [LP] (s6:Tn14) (s7 s8:Int) (l3:Tn2):Option (Tn2):=
 LP.lp (fun h=>j09d h.1 h.2.1 h.2.2.1 h.2.2.2) (s6,s7,s8,l3)
def j0ac [LP] (a0_l:Tn14):Option (Tn2):=
 let t7:=(Int.ofNat (List.length a0_l))
 (j0au a0_l t7 0 ([]:Tn2)).bind fun q0=>
 (j077 q0).bind fun r22=>
 some r22
def j04t (a0_a a1_b:Tn3):Option (Int):=
 let t9:=(w64 (a0_a.1-a1_b.1))
 some t9
def j00Q (a0_x:Tn14):Option (Tn14):=
 sortP ((.pair (.int .i64) (.pair (.int .i64) (.int .i64)))) (fun x y=>(j04t x y).getD 0) a0_x
def j01Z [LP] (n0:Int) (s25:Tn60) (b4:Tn54) (b4_1:Tn48) (b4_2:Tn26) (b4_3:Tn65) (b4_4:Tn20) (b5:ByteArray) (b5_1:Tn60) (b5_2:Tn29) (b6 b7:Int) (l9c0:Tn2) (l10c0:Tn14):Option ((Int×Tn60×Tn54×Tn48×Tn26×Tn65×Tn20×ByteArray×Tn60×Tn29×Int×Int×Tn2×Tn14) ⊕ ((Tn2×Tn14))):=
 cond (decide (n0≤0)) (
 some (.inr (l9c0,l10c0))) (
 cond (decide (n0≤Int.ofNat (List.length s25))) (
 let t26_2:Int:=(n0-1)
 let t27_2:=(List.getD s25 (Int.toNat t26_2) (ByteArray.empty,(0,((0,0),(0,(0,(([]:(List Int)),(([]:Tn2),(0,0)))))))))
 (j03C ((b4,(b4_1,(b4_2,b4_3))),b4_4) (t27_2.1,(t27_2.2.1,((t27_2.2.2.1.1,t27_2.2.2.1.2),(t27_2.2.2.2.1,(t27_2.2.2.2.2.1,(t27_2.2.2.2.2.2.1,(t27_2.2.2.2.2.2.2.1,(t27_2.2.2.2.2.2.2.2.1,t27_2.2.2.2.2.2.2.2.2)))))))) b6 b7).bind fun r33_2=>
 (j079 (b5,(b5_1,b5_2)) r33_2).bind fun r34_2=>
 (j08q r34_2 l9c0).bind fun r36_2=>
 cond (decide (List.length l10c0+List.length r36_2≤sizeMax)) (
 let t39_2:Tn14:=(l10c0++r36_2)
 (j0ac r36_2).bind fun r42_2=>
 (j03Y l9c0 r42_2).bind fun r43_2=>
 some (.inl ((n0-1),s25,b4,b4_1,b4_2,b4_3,b4_4,b5,b5_1,b5_2,b6,b7,r43_2,t39_2))) none) none)
def j06c [LP] (n0:Int) (s25:Tn60) (b4:Tn54) (b4_1:Tn48) (b4_2:Tn26) (b4_3:Tn65) (b4_4:Tn20) (b5:ByteArray) (b5_1:Tn60) (b5_2:Tn29) (b6 b7:Int) (l9c0:Tn2) (l10c0:Tn14):Option ((Tn2×Tn14)):=
 LP.lp (unc14 (j01Z)) (n0,s25,b4,b4_1,b4_2,b4_3,b4_4,b5,b5_1,b5_2,b6,b7,l9c0,l10c0)
def j06d (s45 s46:Int) (l44:Tn2) (l10c0:Tn14):Option ((Int×Int×Tn2×Tn14) ⊕ (Tn14)):=
 cond (decide (s46<s45)) (
 cond (inR s46 (List.length l44)) (
 let t49_2:=(List.getD l44 (Int.toNat s46) (0,0)).1
 let t49_3:=(List.getD l44 (Int.toNat s46) (0,0)).2
 let t56_1:Tn14:=[(t49_2,(t49_3,(-1)))]
 cond (decide (List.length l10c0+List.length t56_1≤sizeMax)) (
 let t57_1:Tn14:=(l10c0++t56_1)
 let t58_1:=(w64 (s46+1))
 some (.inl (s45,t58_1,l44,t57_1))) none) none) (
 some (.inr l10c0))
def j06e [LP] (s45 s46:Int) (l44:Tn2) (l10c0:Tn14):Option (Tn14):=
 LP.lp (unc4 (j06d)) (s45,s46,l44,l10c0)
def j04D [LP] (a0_v:Tn73) (a1_s:Tn64) (a2_from a3_to:Int):Option (Tn14):=
 cond (decide (a2_from≥a3_to)) (
 some ([]:Tn14)) (
 let t22:Tn2:=[(a2_from,a3_to)]
 (j014 a1_s.2.1).bind fun r25=>
 (j06c (Int.ofNat (List.length r25)) r25 a0_v.1.1 a0_v.1.2.1 a0_v.1.2.2.1 a0_v.1.2.2.2 a0_v.2 a1_s.1 a1_s.2.1 a1_s.2.2 a2_from a3_to t22 ([]:Tn14)).bind fun q0=>
 let t45:=(Int.ofNat (List.length q0.1))
 (j06e t45 0 q0.1 q0.2).bind fun q2=>
 (j00Q q2).bind fun r60=>
 (j0ab r60).bind fun r62=>
 some r62)
def j06f [LP] (a0_c:Tn71) (a1_schedule a2_from a3_to:Int):Option (Tn14×Int):=
 (j0a8 (a0_c.1,(a0_c.2.1,(a0_c.2.2.1,a0_c.2.2.2))) a1_schedule a2_from a3_to).bind fun r18=>
 cond (r18.2 != 0) (
 some (([]:Tn14),r18.2)) (
 cond (inR a1_schedule (List.length a0_c.2.2.2)) (
 let t28:=(List.getD a0_c.2.2.2 (Int.toNat a1_schedule) (ByteArray.empty,(([]:Tn60),([]:Tn29))))
 (j04D ((r18.1.1.1,(r18.1.1.2.1,(r18.1.1.2.2.1,r18.1.1.2.2.2))),r18.1.2) (t28.1,(t28.2.1,t28.2.2)) a2_from a3_to).bind fun r32=>
 let t34:=(Int.ofNat (List.length r32))
 cond (decide (t34>16384)) (
 some (([]:Tn14),5)) (
 some (r32,0))) none)
def j07a [LP] (a0_c:Tn71) (a1_schedule:Int):Option (Tn73×Tn64×Bool):=
 (duty_Of (a0_c.1,(a0_c.2.1,(a0_c.2.2.1,a0_c.2.2.2)))).bind fun r11=>
 cond (!r11.2) (
 some (((r11.1.1.1,(r11.1.1.2.1,(r11.1.1.2.2.1,r11.1.1.2.2.2))),r11.1.2),(ByteArray.empty,(([]:Tn60),([]:Tn29))),false)) (
 (j0cr (a0_c.1,(a0_c.2.1,(a0_c.2.2.1,a0_c.2.2.2))) a1_schedule).bind fun r19=>
 cond (!r19) (
 some (((r11.1.1.1,(r11.1.1.2.1,(r11.1.1.2.2.1,r11.1.1.2.2.2))),r11.1.2),(ByteArray.empty,(([]:Tn60),([]:Tn29))),false)) (
 cond (inR a1_schedule (List.length a0_c.2.2.2)) (
 let t28:=(List.getD a0_c.2.2.2 (Int.toNat a1_schedule) (ByteArray.empty,(([]:Tn60),([]:Tn29))))
 some (((r11.1.1.1,(r11.1.1.2.1,(r11.1.1.2.2.1,r11.1.1.2.2.2))),r11.1.2),(t28.1,(t28.2.1,t28.2.2)),true)) none))
def j038 (a0_l:(Int×Int)):Option (Int):=
 (j04A a0_l.1).bind fun r5=>
 let t6:=(w64 (r5*86400))
 let t9:=(w64 (t6+a0_l.2))
 some t9
def j04E (s1:Int) (s7:Tn2) (s8 s9:Int):Option ((Int×Tn2×Int×Int) ⊕ (Bool ⊕ Unit)):=
 cond (decide (s9<s8)) (
 cond (inR s9 (List.length s7)) (
 let t11_1:=(List.getD s7 (Int.toNat s9) (0,0))
 cond (cond (decide (t11_1.1≤s1)) (decide (s1<t11_1.2)) false) (
 some (.inr (.inl true))) (
 let t23_1:=(w64 (s9+1))
 some (.inl (s1,s7,s8,t23_1)))) none) (
 some (.inr (.inr ())))
def j089 [LP] (s1:Int) (s7:Tn2) (s8 s9:Int):Option (Bool ⊕ Unit):=
 LP.lp (fun h=>j04E h.1 h.2.1 h.2.2.1 h.2.2.2) (s1,s7,s8,s9)
theorem j0dr (s1:Int) (s7:Tn2) (s8 s9:Int):j089 s1 s7 s8 s9=lpK (j04E s1 s7 s8 s9) (fun h=>j089 h.1 h.2.1 h.2.2.1 h.2.2.2):=j004 _ _
def j0cQ [LP] (a0_l:Tn2) (a1_s:Int):Option (Bool):=
 let t8:=(Int.ofNat (List.length a0_l))
 (j089 a1_s a0_l t8 0).bind fun q0=>
 sumC q0 (fun a=>
 some a) (fun b=>
 some false)
def j09e (a0_x:Int):Option (Bool):=
 some (a0_x != a0_x)
def j0av (a0_x a1_y:Int):Option (Bool):=
 (j09e a0_x).bind fun r6=>
 cond r6 (
 (j09e a1_y).bind fun r9=>
 some (cond (!r9) true (decide (a0_x<a1_y)))) (
 some (decide (a0_x<a1_y)))
def j06g (a0_x:Int):Option (Bool):=
 some (a0_x != a0_x)
def j015 (s0:(List Int)) (s1 s6 s7 s8:Int):Option (((List Int)×Int×Int×Int×Int) ⊕ (((List Int)×Int×Int×Int))):=
 cond (decide (s7<s8)) (
 let t18_1:=(w64 (s7+s8))
 let t19_1:Int:=(IntKind.wrap .u64 t18_1)
 let t20_1:Int:=(Int.fdiv t19_1 2)
 let t21:=(w64 t20_1)
 cond (inR t21 (List.length s0)) (
 let t24_1:=(List.getD s0 (Int.toNat t21) 0)
 (j0av t24_1 s1).bind fun r27_1=>
 cond r27_1 (
 let t29_1:=(w64 (t21+1))
 some (.inl (s0,s1,s6,t29_1,s8))) (
 some (.inl (s0,s1,s6,s7,t21)))) none) (
 some (.inr (s0,s1,s6,s7)))
def j00F [LP] (s0:(List Int)) (s1 s6 s7 s8:Int):Option (((List Int)×Int×Int×Int)):=
 LP.lp (fun h=>j015 h.1 h.2.1 h.2.2.1 h.2.2.2.1 h.2.2.2.2) (s0,s1,s6,s7,s8)
theorem j06w (s0:(List Int)) (s1 s6 s7 s8:Int):j00F s0 s1 s6 s7 s8=lpK (j015 s0 s1 s6 s7 s8) (fun h=>j00F h.1 h.2.1 h.2.2.1 h.2.2.2.1 h.2.2.2.2):=j004 _ _
def j00r [LP] (a0_x:(List Int)) (a1_target:Int):Option (Int×Bool):=
 let t11:=(Int.ofNat (List.length a0_x))
 (j00F a0_x a1_target t11 0 t11).bind fun q0=>
 cond ((inR q0.2.2.2 (List.length q0.1)) || !(decide (q0.2.2.2<q0.2.2.1))) (
 let t38:=(List.getD q0.1 (Int.toNat q0.2.2.2) 0)
 cond ((inR q0.2.2.2 (List.length q0.1)) || !((decide (q0.2.2.2<q0.2.2.1))&&(!(t38==q0.2.1)))) (
 let t45:=(List.getD q0.1 (Int.toNat q0.2.2.2) 0)
 cond (decide (q0.2.2.2<q0.2.2.1)) (
 cond (t38==q0.2.1) (
 some (q0.2.2.2,true)) (
 (j06g t45).bind fun r47=>
 cond r47 (
 (j06g q0.2.1).bind fun r50=>
 some (q0.2.2.2,r50)) (
 some (q0.2.2.2,false)))) (
 cond ((t38==q0.2.1) || !false) (
 some (q0.2.2.2,false)) none)) none) none
def j03i [LP] (a0_v:Tn73) (a1_l:Tn59) (a2_t:Int):Option (Int×Bool):=
 cond (cond (decide (a2_t<0)) true (decide (a2_t>8589934592))) (
 some (0,false)) (
 cond (inR a1_l.2.1 (List.length a0_v.2)) (
 let t23:=(List.getD a0_v.2 (Int.toNat a1_l.2.1) (0,([]:Tn2)))
 (j01N (t23.1,t23.2) (a1_l.1,(a1_l.2.1,((a1_l.2.2.1.1,a1_l.2.2.1.2),(a1_l.2.2.2.1,(a1_l.2.2.2.2.1,(a1_l.2.2.2.2.2.1,(a1_l.2.2.2.2.2.2.1,(a1_l.2.2.2.2.2.2.2.1,a1_l.2.2.2.2.2.2.2.2)))))))) a2_t).bind fun r28=>
 cond (decide (r28<0)) (
 some (0,false)) (
 let t34:=(Int.ofNat (List.length a1_l.2.2.2.2.2.2.1))
 cond (decide (t34>0)) (
 (j00o (t23.1,t23.2) a2_t).bind fun r41=>
 (j038 (r41.1,r41.2)).bind fun r42=>
 (j0cQ a1_l.2.2.2.2.2.2.1 r42).bind fun r43=>
 cond (!r43) (
 some (0,false)) (
 cond (a1_l.2.2.2.2.2.2.2.2==0) (
 some (r28,true)) (
 cond (inR a1_l.2.2.2.2.2.2.2.1 (List.length a0_v.1.2.2.1)) (
 let t56:=(List.getD a0_v.1.2.2.1 (Int.toNat a1_l.2.2.2.2.2.2.2.1) (ByteArray.empty,(0,([]:(List Int)))))
 cond (inR t56.2.1 (List.length a0_v.2)) (
 let t65:=(List.getD a0_v.2 (Int.toNat t56.2.1) (0,([]:Tn2)))
 (j00o (t65.1,t65.2) a2_t).bind fun r68=>
 (j00r t56.2.2 r68.1).bind fun r70=>
 some (r28,(r70.2==(a1_l.2.2.2.2.2.2.2.2==2)))) none) none))) (
 cond (a1_l.2.2.2.2.2.2.2.2==0) (
 some (r28,true)) (
 cond (inR a1_l.2.2.2.2.2.2.2.1 (List.length a0_v.1.2.2.1)) (
 let t56_1:=(List.getD a0_v.1.2.2.1 (Int.toNat a1_l.2.2.2.2.2.2.2.1) (ByteArray.empty,(0,([]:(List Int)))))
 cond (inR t56_1.2.1 (List.length a0_v.2)) (
 let t65_1:=(List.getD a0_v.2 (Int.toNat t56_1.2.1) (0,([]:Tn2)))
 (j00o (t65_1.1,t65_1.2) a2_t).bind fun r68_1=>
 (j00r t56_1.2.2 r68_1.1).bind fun r70_1=>
 some (r28,(r70_1.2==(a1_l.2.2.2.2.2.2.2.2==2)))) none) none)))) none)
def j013 [LP] (a0_v:Tn73) (a1_l:Tn59) (a2_t:Int):Option (Int):=
 (j03i ((a0_v.1.1,(a0_v.1.2.1,(a0_v.1.2.2.1,a0_v.1.2.2.2))),a0_v.2) (a1_l.1,(a1_l.2.1,((a1_l.2.2.1.1,a1_l.2.2.1.2),(a1_l.2.2.2.1,(a1_l.2.2.2.2.1,(a1_l.2.2.2.2.2.1,(a1_l.2.2.2.2.2.2.1,(a1_l.2.2.2.2.2.2.2.1,a1_l.2.2.2.2.2.2.2.2)))))))) a2_t).bind fun r13=>
 cond (!r13.2) (
 some (-1)) (
 let t23:=(Int.ofNat (List.length a1_l.2.2.2.2.2.1))
 cond (!(t23==0)) (
 let t24:=(Int.tmod r13.1 t23)
 cond (inR t24 (List.length a1_l.2.2.2.2.2.1)) (
 let t25:=(List.getD a1_l.2.2.2.2.2.1 (Int.toNat t24) 0)
 some t25) none) none)
def j0by (a0_x:Tn24) (a1 a2:Int):Option (Bool):=
 let t19:Bool:=(cond (cond (a0_x.1==0) (a0_x.2.1==a1) false) (decide (a0_x.2.2.2.1≤a2)) false)
 some (cond t19 (decide (a2<a0_x.2.2.2.2)) false)
def j00s (s0:Tn29) (s1 s1_1 s7 s8:Int):Option ((Tn29×Int×Int×Int×Int) ⊕ (Int ⊕ Unit)):=
 cond (decide (s8<s7)) (
 cond (inR s8 (List.length s0)) (
 let t14_1:=(List.getD s0 (Int.toNat s8) (0,(0,(0,(0,0)))))
 (j0by (t14_1.1,(t14_1.2.1,(t14_1.2.2.1,(t14_1.2.2.2.1,t14_1.2.2.2.2)))) s1 s1_1).bind fun r16_1=>
 cond r16_1 (
 some (.inr (.inl s8))) (
 let t18_1:=(w64 (s8+1))
 some (.inl (s0,s1,s1_1,s7,t18_1)))) none) (
 some (.inr (.inr ())))
def j00j [LP] (s0:Tn29) (s1 s1_1 s7 s8:Int):Option (Int ⊕ Unit):=
 LP.lp (fun h=>j00s h.1 h.2.1 h.2.2.1 h.2.2.2.1 h.2.2.2.2) (s0,s1,s1_1,s7,s8)
theorem j02j (s0:Tn29) (s1 s1_1 s7 s8:Int):j00j s0 s1 s1_1 s7 s8=lpK (j00s s0 s1 s1_1 s7 s8) (fun h=>j00j h.1 h.2.1 h.2.2.1 h.2.2.2.1 h.2.2.2.2):=j004 _ _
def j00w [LP] (a0_s:Tn29) (a1_f a1_f_1:Int):Option (Int):=
 let t7:=(Int.ofNat (List.length a0_s))
 (j00j a0_s a1_f a1_f_1 t7 0).bind fun q0=>
 sumC q0 (fun a=>
 some a) (fun b=>
 some (-1))
def j00q [LP] (a0_s:Tn29) (a1_f a1_f_1:Int):Option (Bool):=
 (j00w a0_s a1_f a1_f_1).bind fun r7=>
 some (decide (r7≥0))
def j05m [LP] (a0_s:Tn64) (a1_person a2_t:Int):Option (Bool):=
 (j00q a0_s.2.2 a1_person a2_t).bind fun r10=>
 some r10
def j01c [LP] (n0:Int) (s13:Tn60) (b3:Tn54) (b3_1:Tn48) (b3_2:Tn26) (b3_3:Tn65) (b3_4:Tn20) (b4:ByteArray) (b4_1:Tn60) (b4_2:Tn29) (b5 b6 b7:Int):Option ((Int×Tn60×Tn54×Tn48×Tn26×Tn65×Tn20×ByteArray×Tn60×Tn29×Int×Int×Int) ⊕ ((Int×Int) ⊕ (Int×Int))):=
 cond (decide (n0≤0)) (
 some (.inr (.inl (b6,b7)))) (
 cond (decide (n0≤Int.ofNat (List.length s13))) (
 let t14_1:Int:=(n0-1)
 let t15_1:=(List.getD s13 (Int.toNat t14_1) (ByteArray.empty,(0,((0,0),(0,(0,(([]:(List Int)),(([]:Tn2),(0,0)))))))))
 (j013 ((b3,(b3_1,(b3_2,b3_3))),b3_4) (t15_1.1,(t15_1.2.1,((t15_1.2.2.1.1,t15_1.2.2.1.2),(t15_1.2.2.2.1,(t15_1.2.2.2.2.1,(t15_1.2.2.2.2.2.1,(t15_1.2.2.2.2.2.2.1,(t15_1.2.2.2.2.2.2.2.1,t15_1.2.2.2.2.2.2.2.2)))))))) b5).bind fun r19_1=>
 cond (decide (r19_1<0)) (
 some (.inl ((n0-1),s13,b3,b3_1,b3_2,b3_3,b3_4,b4,b4_1,b4_2,b5,b6,b7))) (
 (j05m (b4,(b4_1,b4_2)) r19_1 b5).bind fun r25_1=>
 cond (!r25_1) (
 some (.inr (.inr (t14_1,r19_1)))) (
 some (.inl ((n0-1),s13,b3,b3_1,b3_2,b3_3,b3_4,b4,b4_1,b4_2,b5,b6,b7))))) none)
def j02S [LP] (n0:Int) (s13:Tn60) (b3:Tn54) (b3_1:Tn48) (b3_2:Tn26) (b3_3:Tn65) (b3_4:Tn20) (b4:ByteArray) (b4_1:Tn60) (b4_2:Tn29) (b5 b6 b7:Int):Option ((Int×Int) ⊕ (Int×Int)):=
 LP.lp (fun h=>j01c h.1 h.2.1 h.2.2.1 h.2.2.2.1 h.2.2.2.2.1 h.2.2.2.2.2.1 h.2.2.2.2.2.2.1 h.2.2.2.2.2.2.2.1 h.2.2.2.2.2.2.2.2.1 h.2.2.2.2.2.2.2.2.2.1 h.2.2.2.2.2.2.2.2.2.2.1 h.2.2.2.2.2.2.2.2.2.2.2.1 h.2.2.2.2.2.2.2.2.2.2.2.2) (n0,s13,b3,b3_1,b3_2,b3_3,b3_4,b4,b4_1,b4_2,b5,b6,b7)
theorem j09f (n0:Int) (s13:Tn60) (b3:Tn54) (b3_1:Tn48) (b3_2:Tn26) (b3_3:Tn65) (b3_4:Tn20) (b4:ByteArray) (b4_1:Tn60) (b4_2:Tn29) (b5 b6 b7:Int):j02S n0 s13 b3 b3_1 b3_2 b3_3 b3_4 b4 b4_1 b4_2 b5 b6 b7=lpK (j01c n0 s13 b3 b3_1 b3_2 b3_3 b3_4 b4 b4_1 b4_2 b5 b6 b7) (fun h=>j02S h.1 h.2.1 h.2.2.1 h.2.2.2.1 h.2.2.2.2.1 h.2.2.2.2.2.1 h.2.2.2.2.2.2.1 h.2.2.2.2.2.2.2.1 h.2.2.2.2.2.2.2.2.1 h.2.2.2.2.2.2.2.2.2.1 h.2.2.2.2.2.2.2.2.2.2.1 h.2.2.2.2.2.2.2.2.2.2.2.1 h.2.2.2.2.2.2.2.2.2.2.2.2):=j004 _ _
def j02I [LP] (a0_v:Tn73) (a1_s:Tn64) (a2_t:Int):Option (Int×Int):=
 (j014 a1_s.2.1).bind fun r13=>
 (j02S (Int.ofNat (List.length r13)) r13 a0_v.1.1 a0_v.1.2.1 a0_v.1.2.2.1 a0_v.1.2.2.2 a0_v.2 a1_s.1 a1_s.2.1 a1_s.2.2 a2_t 0 0).bind fun q0=>
 sumC q0 (fun a=>
 some ((-1),(-1))) (fun b=>
 some (b.1,b.2))
def j06h [LP] (a0_c:Tn71) (a1_schedule a2_t:Int):Option (Int):=
 (j07a (a0_c.1,(a0_c.2.1,(a0_c.2.2.1,a0_c.2.2.2))) a1_schedule).bind fun r15=>
 cond (!r15.2.2) (
 some (-1)) (
 (j02I ((r15.1.1.1,(r15.1.1.2.1,(r15.1.1.2.2.1,r15.1.1.2.2.2))),r15.1.2) (r15.2.1.1,(r15.2.1.2.1,r15.2.1.2.2)) a2_t).bind fun r25=>
 some r25.2)
def j04Y [LP] (a0_c:Tn71) (a1_schedule a2_t:Int):Option (Int):=
 (j07a (a0_c.1,(a0_c.2.1,(a0_c.2.2.1,a0_c.2.2.2))) a1_schedule).bind fun r15=>
 cond (!r15.2.2) (
 some (-1)) (
 (j02I ((r15.1.1.1,(r15.1.1.2.1,(r15.1.1.2.2.1,r15.1.1.2.2.2))),r15.1.2) (r15.2.1.1,(r15.2.1.2.1,r15.2.1.2.2)) a2_t).bind fun r25=>
 some r25.1)
def j08r [LP]  : Option (Bool):=
 (j0ex).bind fun r5=>
 (j0ex).bind fun r6=>
 let t10:Tn29:=[(0,(2,(0,(950400,1036800))))]
 cond (inR 0 (List.length r6.2.2.2)) (
 let m6:Tn65:=(List.set r6.2.2.2 0 ((List.getD r6.2.2.2 0 (ByteArray.empty,(([]:Tn60),([]:Tn29)))).1,((List.getD r6.2.2.2 0 (ByteArray.empty,(([]:Tn60),([]:Tn29)))).2.1,t10)))
 (j06f (r5.1,(r5.2.1,(r5.2.2.1,r5.2.2.2))) 0 950400 1123200).bind fun r15=>
 cond (r15.2==0) (
 (j06h (r5.1,(r5.2.1,(r5.2.2.1,r5.2.2.2))) 0 950400).bind fun r22=>
 cond (r22==2) (
 (j06h (r6.1,(r6.2.1,(r6.2.2.1,m6))) 0 950400).bind fun r27=>
 cond (r27==1) (
 (j06h (r5.1,(r5.2.1,(r5.2.2.1,r5.2.2.2))) 0 1036800).bind fun r32=>
 cond (r32==1) (
 (j04Y (r5.1,(r5.2.1,(r5.2.2.1,r5.2.2.2))) 0 950400).bind fun r37=>
 let t42:=(Int.ofNat (List.length r15.1))
 cond ((inR 0 (List.length m6)) || !(cond (r37==1) (t42==2) false)) (
 let t49:=(List.getD m6 0 (ByteArray.empty,(([]:Tn60),([]:Tn29)))).1
 let t49_1:=(List.getD m6 0 (ByteArray.empty,(([]:Tn60),([]:Tn29)))).2.1
 let t49_2:=(List.getD m6 0 (ByteArray.empty,(([]:Tn60),([]:Tn29)))).2.2
 cond (cond (r37==1) (t42==2) false) (
 (j05m (t49,(t49_1,t49_2)) 2 950400).bind fun r50=>
 some r50) (
 some false)) none) (
 let t42_1:=(Int.ofNat (List.length r15.1))
 cond ((inR 0 (List.length m6)) || !false) (
 let t49_3:=(List.getD m6 0 (ByteArray.empty,(([]:Tn60),([]:Tn29)))).1
 let t49_4:=(List.getD m6 0 (ByteArray.empty,(([]:Tn60),([]:Tn29)))).2.1
 let t49_5:=(List.getD m6 0 (ByteArray.empty,(([]:Tn60),([]:Tn29)))).2.2
 some false) none)) (
 let t42_2:=(Int.ofNat (List.length r15.1))
 cond ((inR 0 (List.length m6)) || !false) (
 let t49_6:=(List.getD m6 0 (ByteArray.empty,(([]:Tn60),([]:Tn29)))).1
 let t49_7:=(List.getD m6 0 (ByteArray.empty,(([]:Tn60),([]:Tn29)))).2.1
 let t49_8:=(List.getD m6 0 (ByteArray.empty,(([]:Tn60),([]:Tn29)))).2.2
 some false) none)) (
 let t42_3:=(Int.ofNat (List.length r15.1))
 cond ((inR 0 (List.length m6)) || !false) (
 let t49_9:=(List.getD m6 0 (ByteArray.empty,(([]:Tn60),([]:Tn29)))).1
 let t49_10:=(List.getD m6 0 (ByteArray.empty,(([]:Tn60),([]:Tn29)))).2.1
 let t49_11:=(List.getD m6 0 (ByteArray.empty,(([]:Tn60),([]:Tn29)))).2.2
 some false) none)) (
 let t42_4:=(Int.ofNat (List.length r15.1))
 cond ((inR 0 (List.length m6)) || !false) (
 let t49_12:=(List.getD m6 0 (ByteArray.empty,(([]:Tn60),([]:Tn29)))).1
 let t49_13:=(List.getD m6 0 (ByteArray.empty,(([]:Tn60),([]:Tn29)))).2.1
 let t49_14:=(List.getD m6 0 (ByteArray.empty,(([]:Tn60),([]:Tn29)))).2.2
 some false) none)) none
def j0hN (a0_l:(List Int)):Option ((List Int)×Int):=
 some (a0_l,0)
def j002 (a0_d:(List Int)) (a0_d_1 a1_n:Int):Option (Int×(List Int)×Int):=
 let t14:=(Int.ofNat (List.length a0_d))
 cond (decide (a0_d_1≥t14)) (
 some (0,a0_d,a0_d_1)) (
 cond (decide (a1_n<1)) (
 some (0,a0_d,a0_d_1)) (
 cond (inR a0_d_1 (List.length a0_d)) (
 let t28:=(List.getD a0_d (Int.toNat a0_d_1) 0)
 cond (!(a1_n==0)) (
 let t31:=(Int.tmod t28 a1_n)
 let t36:=(w64 (a0_d_1+1))
 cond (decide (t31<0)) (
 let t43:=(w64 (t31+a1_n))
 some (t43,a0_d,t36)) (
 some (t31,a0_d,t36))) none) none))
def j012 (a0_d:(List Int)) (a0_d_1:Int) (a1_l:(List Int)):Option (Int×(List Int)×Int):=
 let t8:=(Int.ofNat (List.length a1_l))
 (j002 a0_d a0_d_1 t8).bind fun r9=>
 cond (inR r9.1 (List.length a1_l)) (
 let t10:=(List.getD a1_l (Int.toNat r9.1) 0)
 some (t10,r9.2.1,r9.2.2)) none
def j039 (a0_d:(List Int)) (a0_d_1:Int) (a1_name:ByteArray):Option (Tn52×(List Int)×Int):=
 let t10:(List Int):=[0,4,(-20),22,48,(-47)]
 (j012 a0_d a0_d_1 t10).bind fun r11=>
 (j002 r11.2.1 r11.2.2 2).bind fun r13=>
 (j002 r13.2.1 r13.2.2 3).bind fun r15=>
 let t16:=(w64 (r13.1*r15.1))
 let t17:=(w64 (r11.1+t16))
 let t18:=(w64 (900*t17))
 (j002 r15.2.1 r15.2.2 2).bind fun r21=>
 let t22:=(w64 (2025+r21.1))
 (j002 r21.2.1 r21.2.2 4).bind fun r24=>
 cond (r24.1==1) (
 let t30:=(w64 (t18+3600))
 let t36:Tn42:=[(2025,(t22,(3,(5,(6,(7200,t30)))))),(2025,(t22,(10,(5,(6,(10800,t18))))))]
 some ((a1_name,(t18,t36)),r24.2.1,r24.2.2)) (
 cond (r24.1==2) (
 (j002 r24.2.1 r24.2.2 4).bind fun r42=>
 let t43:=(w64 (1+r42.1))
 (j002 r42.2.1 r42.2.2 7).bind fun r45=>
 (j002 r45.2.1 r45.2.2 24).bind fun r47=>
 let t48:=(w64 (3600*r47.1))
 (j002 r47.2.1 r47.2.2 8).bind fun r52=>
 let t53:=(w64 (1+r52.1))
 let t54:=(w64 (1800*t53))
 let t55:=(w64 (t18+t54))
 (j002 r52.2.1 r52.2.2 2).bind fun r59=>
 let t60:=(w64 (2+r59.1))
 let t62:(List Int):=[2,3,5]
 (j012 r59.2.1 r59.2.2 t62).bind fun r63=>
 (j002 r63.2.1 r63.2.2 7).bind fun r65=>
 (j002 r65.2.1 r65.2.2 24).bind fun r67=>
 let t68:=(w64 (3600*r67.1))
 let t72:Tn42:=[(2025,(t22,(1,(t43,(r45.1,(t48,t55)))))),(2025,(t22,(t60,(r63.1,(r65.1,(t68,t18))))))]
 some ((a1_name,(t18,t72)),r67.2.1,r67.2.2)) (
 cond (r24.1==3) (
 let t79:(List Int):=[3600,(-3600),82800,(-82800),43200]
 (j012 r24.2.1 r24.2.2 t79).bind fun r80=>
 let t81:=(w64 (t18+r80.1))
 cond (cond (decide (t81>64800)) true (decide (t81<(-64800)))) (
 (j002 r80.2.1 r80.2.2 7).bind fun r89=>
 (j002 r89.2.1 r89.2.2 48).bind fun r91=>
 let t92:=(w64 (1800*r91.1))
 let t95:Tn42:=[(2026,(2026,(1,(2,(r89.1,(t92,0))))))]
 some ((a1_name,(t18,t95)),r91.2.1,r91.2.2)) (
 (j002 r80.2.1 r80.2.2 7).bind fun r89_1=>
 (j002 r89_1.2.1 r89_1.2.2 48).bind fun r91_1=>
 let t92_1:=(w64 (1800*r91_1.1))
 let t95_1:Tn42:=[(2026,(2026,(1,(2,(r89_1.1,(t92_1,t81))))))]
 some ((a1_name,(t18,t95_1)),r91_1.2.1,r91_1.2.2))) (
 some ((a1_name,(t18,([]:Tn42))),r24.2.1,r24.2.2))))
def j0ds  : Option ((List ByteArray)):=
 let t1:(List ByteArray):=[(ByteArray.mk #[97,100,97]),(ByteArray.mk #[98,111,98]),(ByteArray.mk #[99,108,101,111]),(ByteArray.mk #[100,97,110]),(ByteArray.mk #[101,118,101]),(ByteArray.mk #[102,97,121]),(ByteArray.mk #[103,117,115]),(ByteArray.mk #[104,97,108])]
 some t1
def j00S (a0_d:(List Int)) (a0_d_1 a1_n:Int):Option (Bool×(List Int)×Int):=
 (j002 a0_d a0_d_1 a1_n).bind fun r7=>
 let t9:=(w64 (a1_n-1))
 some ((r7.1==t9),r7.2.1,r7.2.2)
def j01O (s4 s5:Int) (b0:(List Int)) (b0_1:Int) (l3:Tn2):Option ((Int×Int×(List Int)×Int×Tn2) ⊕ (((List Int)×Int×Tn2))):=
 cond (decide (s5>0)) (
 (j002 b0 b0_1 30).bind fun r16_2=>
 let t17_2:=(w64 (3600*r16_2.1))
 let t18_2:=(w64 (s4+t17_2))
 (j002 r16_2.2.1 r16_2.2.2 2).bind fun r20_2=>
 let t21_2:=(w64 (60*r20_2.1))
 let t22_2:=(w64 (t18_2+t21_2))
 let t25_2:(List Int):=[3600,28800,43200,86400,61,1]
 (j012 r20_2.2.1 r20_2.2.2 t25_2).bind fun r26_2=>
 let t27_2:=(w64 (t22_2+r26_2.1))
 cond (decide (t27_2>604800)) (
 some (.inr (r26_2.2.1,r26_2.2.2,l3))) (
 let t34_2:Tn2:=[(t22_2,t27_2)]
 cond (decide (List.length l3+List.length t34_2≤sizeMax)) (
 let t35_2:Tn2:=(l3++t34_2)
 let t13_2:=(w64 (s5-1))
 some (.inl (t27_2,t13_2,r26_2.2.1,r26_2.2.2,t35_2))) none)) (
 some (.inr (b0,b0_1,l3)))
def j03Z [LP] (s4 s5:Int) (b0:(List Int)) (b0_1:Int) (l3:Tn2):Option (((List Int)×Int×Tn2)):=
 LP.lp (fun h=>j01O h.1 h.2.1 h.2.2.1 h.2.2.2.1 h.2.2.2.2) (s4,s5,b0,b0_1,l3)
theorem j06E (s4 s5:Int) (b0:(List Int)) (b0_1:Int) (l3:Tn2):j03Z s4 s5 b0 b0_1 l3=lpK (j01O s4 s5 b0 b0_1 l3) (fun h=>j03Z h.1 h.2.1 h.2.2.1 h.2.2.2.1 h.2.2.2.2):=j004 _ _
def j032 [LP] (a0_d:(List Int)) (a0_d_1:Int):Option (Tn2×(List Int)×Int):=
 (j002 a0_d a0_d_1 4).bind fun r9=>
 (j03Z 0 r9.1 r9.2.1 r9.2.2 ([]:Tn2)).bind fun q0=>
 some (q0.2.2,q0.1,q0.2.1)
def j028 (s4:Int) (b0:(List Int)) (b0_1:Int) (l3c0:Tn54):Option ((Int×(List Int)×Int×Tn54) ⊕ (((List Int)×Int×Tn54))):=
 cond (decide (s4>0)) (
 let t21_2:(List ByteArray):=[(ByteArray.mk #[104,101,114,101]),(ByteArray.mk #[116,104,101,114,101])]
 let t24_1:=(Int.ofNat (List.length l3c0))
 cond (inR t24_1 (List.length t21_2)) (
 let t26_2:=(List.getD t21_2 (Int.toNat t24_1) ByteArray.empty)
 (j039 b0 b0_1 t26_2).bind fun r27_2=>
 let t28_2:Tn54:=[(r27_2.1.1,(r27_2.1.2.1,r27_2.1.2.2))]
 cond (decide (List.length l3c0+List.length t28_2≤sizeMax)) (
 let t29_2:Tn54:=(l3c0++t28_2)
 let t17_2:=(w64 (s4-1))
 some (.inl (t17_2,r27_2.2.1,r27_2.2.2,t29_2))) none) none) (
 some (.inr (b0,b0_1,l3c0)))
def j04Z [LP] (s4:Int) (b0:(List Int)) (b0_1:Int) (l3c0:Tn54):Option (((List Int)×Int×Tn54)):=
 LP.lp (fun h=>j028 h.1 h.2.1 h.2.2.1 h.2.2.2) (s4,b0,b0_1,l3c0)
theorem j07E (s4:Int) (b0:(List Int)) (b0_1:Int) (l3c0:Tn54):j04Z s4 b0 b0_1 l3c0=lpK (j028 s4 b0 b0_1 l3c0) (fun h=>j04Z h.1 h.2.1 h.2.2.1 h.2.2.2):=j004 _ _
def j029 [LP] (s5:Int) (b0:(List Int)) (b0_1:Int) (l3c0:Tn54) (l3c1:Tn48):Option ((Int×(List Int)×Int×Tn54×Tn48) ⊕ (((List Int)×Int×Tn54×Tn48))):=
 cond (decide (s5>0)) (
 (j0ds).bind fun r38_2=>
 let t41_1:=(Int.ofNat (List.length l3c1))
 cond (inR t41_1 (List.length r38_2)) (
 let t43_2:=(List.getD r38_2 (Int.toNat t41_1) ByteArray.empty)
 let t47_2:=(Int.ofNat (List.length l3c0))
 (j002 b0 b0_1 t47_2).bind fun r48_2=>
 (j00S r48_2.2.1 r48_2.2.2 3).bind fun r50_2=>
 (j00S r50_2.2.1 r50_2.2.2 2).bind fun r53_2=>
 cond r53_2.1 (
 (j032 r53_2.2.1 r53_2.2.2).bind fun r55_2=>
 let t58_4:(List Int):=[0,40,100,12]
 (j012 r55_2.2.1 r55_2.2.2 t58_4).bind fun r59_4=>
 let t60_4:=(w64 (3600*r59_4.1))
 let t62_4:(List Int):=[0,11,24,1]
 (j012 r59_4.2.1 r59_4.2.2 t62_4).bind fun r63_4=>
 let t64_4:=(w64 (3600*r63_4.1))
 let t70_4:Tn48:=[(t43_2,(r48_2.1,(r55_2.1,(t60_4,(t64_4,r50_2.1)))))]
 cond (decide (List.length l3c1+List.length t70_4≤sizeMax)) (
 let t71_4:Tn48:=(l3c1++t70_4)
 let t37_4:=(w64 (s5-1))
 some (.inl (t37_4,r63_4.2.1,r63_4.2.2,l3c0,t71_4))) none) (
 let t58_5:(List Int):=[0,40,100,12]
 (j012 r53_2.2.1 r53_2.2.2 t58_5).bind fun r59_5=>
 let t60_5:=(w64 (3600*r59_5.1))
 let t62_5:(List Int):=[0,11,24,1]
 (j012 r59_5.2.1 r59_5.2.2 t62_5).bind fun r63_5=>
 let t64_5:=(w64 (3600*r63_5.1))
 let t70_5:Tn48:=[(t43_2,(r48_2.1,(([]:Tn2),(t60_5,(t64_5,r50_2.1)))))]
 cond (decide (List.length l3c1+List.length t70_5≤sizeMax)) (
 let t71_5:Tn48:=(l3c1++t70_5)
 let t37_5:=(w64 (s5-1))
 some (.inl (t37_5,r63_5.2.1,r63_5.2.2,l3c0,t71_5))) none)) none) (
 some (.inr (b0,b0_1,l3c0,l3c1)))
def j050 [LP] (s5:Int) (b0:(List Int)) (b0_1:Int) (l3c0:Tn54) (l3c1:Tn48):Option (((List Int)×Int×Tn54×Tn48)):=
 LP.lp (fun h=>j029 h.1 h.2.1 h.2.2.1 h.2.2.2.1 h.2.2.2.2) (s5,b0,b0_1,l3c0,l3c1)
theorem j07F (s5:Int) (b0:(List Int)) (b0_1:Int) (l3c0:Tn54) (l3c1:Tn48):j050 s5 b0 b0_1 l3c0 l3c1=lpK (j029 s5 b0 b0_1 l3c0 l3c1) (fun h=>j050 h.1 h.2.1 h.2.2.1 h.2.2.2.1 h.2.2.2.2):=j004 _ _
def j02a (s7 s9 s10:Int) (b0:(List Int)) (b0_1:Int) (b8:ByteArray) (b8_1:Int) (l3c0:Tn54) (l3c1:Tn48) (l3c2:Tn26) (l8c2:(List Int)):Option ((Int×Int×Int×(List Int)×Int×ByteArray×Int×Tn54×Tn48×Tn26×(List Int)) ⊕ ((Int×(List Int)×Int×ByteArray×Int×Tn54×Tn48×Tn26×(List Int)))):=
 cond (decide (s9>0)) (
 (j002 b0 b0_1 6).bind fun r93_5=>
 let t94_5:=(w64 (1+r93_5.1))
 let t95_5:=(w64 (s10+t94_5))
 cond (decide (List.length l8c2+List.length [t95_5]≤sizeMax)) (
 let t100_5:(List Int):=(l8c2++[t95_5])
 let t90_5:=(w64 (s9-1))
 some (.inl (s7,t90_5,t95_5,r93_5.2.1,r93_5.2.2,b8,b8_1,l3c0,l3c1,l3c2,t100_5))) none) (
 some (.inr (s7,b0,b0_1,b8,b8_1,l3c0,l3c1,l3c2,l8c2)))
def j051 [LP] (s7 s9 s10:Int) (b0:(List Int)) (b0_1:Int) (b8:ByteArray) (b8_1:Int) (l3c0:Tn54) (l3c1:Tn48) (l3c2:Tn26) (l8c2:(List Int)):Option ((Int×(List Int)×Int×ByteArray×Int×Tn54×Tn48×Tn26×(List Int))):=
 LP.lp (fun h=>j02a h.1 h.2.1 h.2.2.1 h.2.2.2.1 h.2.2.2.2.1 h.2.2.2.2.2.1 h.2.2.2.2.2.2.1 h.2.2.2.2.2.2.2.1 h.2.2.2.2.2.2.2.2.1 h.2.2.2.2.2.2.2.2.2.1 h.2.2.2.2.2.2.2.2.2.2) (s7,s9,s10,b0,b0_1,b8,b8_1,l3c0,l3c1,l3c2,l8c2)
theorem j07G (s7 s9 s10:Int) (b0:(List Int)) (b0_1:Int) (b8:ByteArray) (b8_1:Int) (l3c0:Tn54) (l3c1:Tn48) (l3c2:Tn26) (l8c2:(List Int)):j051 s7 s9 s10 b0 b0_1 b8 b8_1 l3c0 l3c1 l3c2 l8c2=lpK (j02a s7 s9 s10 b0 b0_1 b8 b8_1 l3c0 l3c1 l3c2 l8c2) (fun h=>j051 h.1 h.2.1 h.2.2.1 h.2.2.2.1 h.2.2.2.2.1 h.2.2.2.2.2.1 h.2.2.2.2.2.2.1 h.2.2.2.2.2.2.2.1 h.2.2.2.2.2.2.2.2.1 h.2.2.2.2.2.2.2.2.2.1 h.2.2.2.2.2.2.2.2.2.2):=j004 _ _
def j01B [LP] (s7:Int) (b0:(List Int)) (b0_1:Int) (l3c0:Tn54) (l3c1:Tn48) (l3c2:Tn26):Option ((Int×(List Int)×Int×Tn54×Tn48×Tn26) ⊕ (((List Int)×Int×Tn54×Tn48×Tn26))):=
 cond (decide (s7>0)) (
 let t82_2:=(Int.ofNat (List.length l3c0))
 (j002 b0 b0_1 t82_2).bind fun r83_2=>
 (j002 r83_2.2.1 r83_2.2.2 4).bind fun r86_2=>
 (j051 s7 r86_2.1 20454 r86_2.2.1 r86_2.2.2 (ByteArray.mk #[100,97,121,115]) r83_2.1 l3c0 l3c1 l3c2 ([]:(List Int))).bind fun q6_2=>
 let t105_2:Tn26:=[(q6_2.2.2.2.1,(q6_2.2.2.2.2.1,q6_2.2.2.2.2.2.2.2.2))]
 cond (decide (List.length q6_2.2.2.2.2.2.2.2.1+List.length t105_2≤sizeMax)) (
 let t106_2:Tn26:=(q6_2.2.2.2.2.2.2.2.1++t105_2)
 let t78_2:=(w64 (q6_2.1-1))
 some (.inl (t78_2,q6_2.2.1,q6_2.2.2.1,q6_2.2.2.2.2.2.1,q6_2.2.2.2.2.2.2.1,t106_2))) none) (
 some (.inr (b0,b0_1,l3c0,l3c1,l3c2)))
def j052 [LP] (s7:Int) (b0:(List Int)) (b0_1:Int) (l3c0:Tn54) (l3c1:Tn48) (l3c2:Tn26):Option (((List Int)×Int×Tn54×Tn48×Tn26)):=
 LP.lp (fun h=>j01B h.1 h.2.1 h.2.2.1 h.2.2.2.1 h.2.2.2.2.1 h.2.2.2.2.2) (s7,b0,b0_1,l3c0,l3c1,l3c2)
theorem j05e (s7:Int) (b0:(List Int)) (b0_1:Int) (l3c0:Tn54) (l3c1:Tn48) (l3c2:Tn26):j052 s7 b0 b0_1 l3c0 l3c1 l3c2=lpK (j01B s7 b0 b0_1 l3c0 l3c1 l3c2) (fun h=>j052 h.1 h.2.1 h.2.2.1 h.2.2.2.1 h.2.2.2.2.1 h.2.2.2.2.2):=j004 _ _
def j06T [LP] (a0_d:(List Int)) (a0_d_1:Int):Option (Tn71×(List Int)×Int):=
 (j002 a0_d a0_d_1 2).bind fun r12=>
 let t13:=(w64 (1+r12.1))
 (j04Z t13 r12.2.1 r12.2.2 ([]:Tn54)).bind fun q0=>
 (j002 q0.1 q0.2.1 4).bind fun r32=>
 let t33:=(w64 (1+r32.1))
 (j050 t33 r32.2.1 r32.2.2 q0.2.2 ([]:Tn48)).bind fun q2=>
 (j002 q2.1 q2.2.1 2).bind fun r74=>
 (j052 r74.1 r74.2.1 r74.2.2 q2.2.2.1 q2.2.2.2 ([]:Tn26)).bind fun q4=>
 some ((q4.2.2.1,(q4.2.2.2.1,(q4.2.2.2.2,([]:Tn65)))),q4.1,q4.2.1)
def j02b (s8:Int) (b0:(List Int)) (b0_1:Int) (b4:Tn54) (b4_1:Tn48) (b4_2:Tn26) (b4_3:Tn65) (b6:ByteArray) (b6_1 b6_2 b6_3 b6_4 b6_5 b6_6 b6_7:Int) (b7:ByteArray) (b7_1 b7_2 b7_3 b7_4 b7_5 b7_6 b7_7:Int) (l7c6:(List Int)):Option ((Int×(List Int)×Int×Tn54×Tn48×Tn26×Tn65×ByteArray×Int×Int×Int×Int×Int×Int×Int×ByteArray×Int×Int×Int×Int×Int×Int×Int×(List Int)) ⊕ (((List Int)×Int×Tn54×Tn48×Tn26×Tn65×ByteArray×Int×Int×Int×Int×Int×Int×Int×ByteArray×Int×Int×Int×Int×Int×Int×Int×(List Int)))):=
 cond (decide (s8>0)) (
 let t48_2:=(Int.ofNat (List.length b4_1))
 (j002 b0 b0_1 t48_2).bind fun r49_2=>
 cond (decide (List.length l7c6+List.length [r49_2.1]≤sizeMax)) (
 let t51_2:(List Int):=(l7c6++[r49_2.1])
 let t42_2:=(w64 (s8-1))
 some (.inl (t42_2,r49_2.2.1,r49_2.2.2,b4,b4_1,b4_2,b4_3,b6,b6_1,b6_2,b6_3,b6_4,b6_5,b6_6,b6_7,b7,b7_1,b7_2,b7_3,b7_4,b7_5,b7_6,b7_7,t51_2))) none) (
 some (.inr (b0,b0_1,b4,b4_1,b4_2,b4_3,b6,b6_1,b6_2,b6_3,b6_4,b6_5,b6_6,b6_7,b7,b7_1,b7_2,b7_3,b7_4,b7_5,b7_6,b7_7,l7c6)))
def j03D [LP] (s8:Int) (b0:(List Int)) (b0_1:Int) (b4:Tn54) (b4_1:Tn48) (b4_2:Tn26) (b4_3:Tn65) (b6:ByteArray) (b6_1 b6_2 b6_3 b6_4 b6_5 b6_6 b6_7:Int) (b7:ByteArray) (b7_1 b7_2 b7_3 b7_4 b7_5 b7_6 b7_7:Int) (l7c6:(List Int)):Option (((List Int)×Int×Tn54×Tn48×Tn26×Tn65×ByteArray×Int×Int×Int×Int×Int×Int×Int×ByteArray×Int×Int×Int×Int×Int×Int×Int×(List Int))):=
 LP.lp (fun h=>j02b h.1 h.2.1 h.2.2.1 h.2.2.2.1 h.2.2.2.2.1 h.2.2.2.2.2.1 h.2.2.2.2.2.2.1 h.2.2.2.2.2.2.2.1 h.2.2.2.2.2.2.2.2.1 h.2.2.2.2.2.2.2.2.2.1 h.2.2.2.2.2.2.2.2.2.2.1 h.2.2.2.2.2.2.2.2.2.2.2.1 h.2.2.2.2.2.2.2.2.2.2.2.2.1 h.2.2.2.2.2.2.2.2.2.2.2.2.2.1 h.2.2.2.2.2.2.2.2.2.2.2.2.2.2.1 h.2.2.2.2.2.2.2.2.2.2.2.2.2.2.2.1 h.2.2.2.2.2.2.2.2.2.2.2.2.2.2.2.2.1 h.2.2.2.2.2.2.2.2.2.2.2.2.2.2.2.2.2.1 h.2.2.2.2.2.2.2.2.2.2.2.2.2.2.2.2.2.2.1 h.2.2.2.2.2.2.2.2.2.2.2.2.2.2.2.2.2.2.2.1 h.2.2.2.2.2.2.2.2.2.2.2.2.2.2.2.2.2.2.2.2.1 h.2.2.2.2.2.2.2.2.2.2.2.2.2.2.2.2.2.2.2.2.2.1 h.2.2.2.2.2.2.2.2.2.2.2.2.2.2.2.2.2.2.2.2.2.2.1 h.2.2.2.2.2.2.2.2.2.2.2.2.2.2.2.2.2.2.2.2.2.2.2) (s8,b0,b0_1,b4,b4_1,b4_2,b4_3,b6,b6_1,b6_2,b6_3,b6_4,b6_5,b6_6,b6_7,b7,b7_1,b7_2,b7_3,b7_4,b7_5,b7_6,b7_7,l7c6)
theorem j07H (s8:Int) (b0:(List Int)) (b0_1:Int) (b4:Tn54) (b4_1:Tn48) (b4_2:Tn26) (b4_3:Tn65) (b6:ByteArray) (b6_1 b6_2 b6_3 b6_4 b6_5 b6_6 b6_7:Int) (b7:ByteArray) (b7_1 b7_2 b7_3 b7_4 b7_5 b7_6 b7_7:Int) (l7c6:(List Int)):j03D s8 b0 b0_1 b4 b4_1 b4_2 b4_3 b6 b6_1 b6_2 b6_3 b6_4 b6_5 b6_6 b6_7 b7 b7_1 b7_2 b7_3 b7_4 b7_5 b7_6 b7_7 l7c6=lpK (j02b s8 b0 b0_1 b4 b4_1 b4_2 b4_3 b6 b6_1 b6_2 b6_3 b6_4 b6_5 b6_6 b6_7 b7 b7_1 b7_2 b7_3 b7_4 b7_5 b7_6 b7_7 l7c6) (fun h=>j03D h.1 h.2.1 h.2.2.1 h.2.2.2.1 h.2.2.2.2.1 h.2.2.2.2.2.1 h.2.2.2.2.2.2.1 h.2.2.2.2.2.2.2.1 h.2.2.2.2.2.2.2.2.1 h.2.2.2.2.2.2.2.2.2.1 h.2.2.2.2.2.2.2.2.2.2.1 h.2.2.2.2.2.2.2.2.2.2.2.1 h.2.2.2.2.2.2.2.2.2.2.2.2.1 h.2.2.2.2.2.2.2.2.2.2.2.2.2.1 h.2.2.2.2.2.2.2.2.2.2.2.2.2.2.1 h.2.2.2.2.2.2.2.2.2.2.2.2.2.2.2.1 h.2.2.2.2.2.2.2.2.2.2.2.2.2.2.2.2.1 h.2.2.2.2.2.2.2.2.2.2.2.2.2.2.2.2.2.1 h.2.2.2.2.2.2.2.2.2.2.2.2.2.2.2.2.2.2.1 h.2.2.2.2.2.2.2.2.2.2.2.2.2.2.2.2.2.2.2.1 h.2.2.2.2.2.2.2.2.2.2.2.2.2.2.2.2.2.2.2.2.1 h.2.2.2.2.2.2.2.2.2.2.2.2.2.2.2.2.2.2.2.2.2.1 h.2.2.2.2.2.2.2.2.2.2.2.2.2.2.2.2.2.2.2.2.2.2.1 h.2.2.2.2.2.2.2.2.2.2.2.2.2.2.2.2.2.2.2.2.2.2.2):=j004 _ _
def j06U [LP] (a0_d:(List Int)) (a0_d_1:Int) (a1_c:Tn71) (a2_name:ByteArray):Option (Tn59×(List Int)×Int):=
 let t13:=(Int.ofNat (List.length a1_c.1))
 (j002 a0_d a0_d_1 t13).bind fun r14=>
 (j002 r14.2.1 r14.2.2 6).bind fun r16=>
 let t17:=(w64 (20454+r16.1))
 let t18:=(w64 (t17-2))
 let t20:(List Int):=[0,32400,7200,9000,79200,1]
 (j012 r16.2.1 r16.2.2 t20).bind fun r21=>
 (j002 r21.2.1 r21.2.2 3).bind fun r24=>
 (j002 r24.2.1 r24.2.2 2).bind fun r26=>
 let t27:=(w64 (1+r26.1))
 cond (r24.1==0) (
 let t33:(List Int):=[6,8,12,24,23,49]
 (j012 r26.2.1 r26.2.2 t33).bind fun r34=>
 (j002 r34.2.1 r34.2.2 3).bind fun r37=>
 let t38:=(w64 (1+r37.1))
 (j03D t38 r37.2.1 r37.2.2 a1_c.1 a1_c.2.1 a1_c.2.2.1 a1_c.2.2.2 ByteArray.empty 0 0 0 0 0 0 0 a2_name r14.1 t18 r21.1 r24.1 r34.1 0 0 ([]:(List Int))).bind fun q0=>
 (j00S q0.1 q0.2.1 2).bind fun r54=>
 cond r54.1 (
 (j032 r54.2.1 r54.2.2).bind fun r56=>
 (j00S r56.2.1 r56.2.2 4).bind fun r59=>
 let t63:=(Int.ofNat (List.length q0.2.2.2.2.1))
 cond (cond r59.1 (decide (t63>0)) false) (
 let t69:=(Int.ofNat (List.length q0.2.2.2.2.1))
 (j002 r59.2.1 r59.2.2 t69).bind fun r70=>
 (j002 r70.2.1 r70.2.2 2).bind fun r72=>
 let t73:=(w64 (1+r72.1))
 some ((q0.2.2.2.2.2.2.2.2.2.2.2.2.2.2.1,(q0.2.2.2.2.2.2.2.2.2.2.2.2.2.2.2.1,((q0.2.2.2.2.2.2.2.2.2.2.2.2.2.2.2.2.1,q0.2.2.2.2.2.2.2.2.2.2.2.2.2.2.2.2.2.1),(q0.2.2.2.2.2.2.2.2.2.2.2.2.2.2.2.2.2.2.1,(q0.2.2.2.2.2.2.2.2.2.2.2.2.2.2.2.2.2.2.2.1,(q0.2.2.2.2.2.2.2.2.2.2.2.2.2.2.2.2.2.2.2.2.2.2,(r56.1,(r70.1,t73)))))))),r72.2.1,r72.2.2)) (
 some ((q0.2.2.2.2.2.2.2.2.2.2.2.2.2.2.1,(q0.2.2.2.2.2.2.2.2.2.2.2.2.2.2.2.1,((q0.2.2.2.2.2.2.2.2.2.2.2.2.2.2.2.2.1,q0.2.2.2.2.2.2.2.2.2.2.2.2.2.2.2.2.2.1),(q0.2.2.2.2.2.2.2.2.2.2.2.2.2.2.2.2.2.2.1,(q0.2.2.2.2.2.2.2.2.2.2.2.2.2.2.2.2.2.2.2.1,(q0.2.2.2.2.2.2.2.2.2.2.2.2.2.2.2.2.2.2.2.2.2.2,(r56.1,(q0.2.2.2.2.2.2.2.2.2.2.2.2.2.2.2.2.2.2.2.2.1,q0.2.2.2.2.2.2.2.2.2.2.2.2.2.2.2.2.2.2.2.2.2.1)))))))),r59.2.1,r59.2.2))) (
 (j00S r54.2.1 r54.2.2 4).bind fun r59_1=>
 let t63_1:=(Int.ofNat (List.length q0.2.2.2.2.1))
 cond (cond r59_1.1 (decide (t63_1>0)) false) (
 let t69_1:=(Int.ofNat (List.length q0.2.2.2.2.1))
 (j002 r59_1.2.1 r59_1.2.2 t69_1).bind fun r70_1=>
 (j002 r70_1.2.1 r70_1.2.2 2).bind fun r72_1=>
 let t73_1:=(w64 (1+r72_1.1))
 some ((q0.2.2.2.2.2.2.2.2.2.2.2.2.2.2.1,(q0.2.2.2.2.2.2.2.2.2.2.2.2.2.2.2.1,((q0.2.2.2.2.2.2.2.2.2.2.2.2.2.2.2.2.1,q0.2.2.2.2.2.2.2.2.2.2.2.2.2.2.2.2.2.1),(q0.2.2.2.2.2.2.2.2.2.2.2.2.2.2.2.2.2.2.1,(q0.2.2.2.2.2.2.2.2.2.2.2.2.2.2.2.2.2.2.2.1,(q0.2.2.2.2.2.2.2.2.2.2.2.2.2.2.2.2.2.2.2.2.2.2,(([]:Tn2),(r70_1.1,t73_1)))))))),r72_1.2.1,r72_1.2.2)) (
 some ((q0.2.2.2.2.2.2.2.2.2.2.2.2.2.2.1,(q0.2.2.2.2.2.2.2.2.2.2.2.2.2.2.2.1,((q0.2.2.2.2.2.2.2.2.2.2.2.2.2.2.2.2.1,q0.2.2.2.2.2.2.2.2.2.2.2.2.2.2.2.2.2.1),(q0.2.2.2.2.2.2.2.2.2.2.2.2.2.2.2.2.2.2.1,(q0.2.2.2.2.2.2.2.2.2.2.2.2.2.2.2.2.2.2.2.1,(q0.2.2.2.2.2.2.2.2.2.2.2.2.2.2.2.2.2.2.2.2.2.2,(([]:Tn2),(q0.2.2.2.2.2.2.2.2.2.2.2.2.2.2.2.2.2.2.2.2.1,q0.2.2.2.2.2.2.2.2.2.2.2.2.2.2.2.2.2.2.2.2.2.1)))))))),r59_1.2.1,r59_1.2.2)))) (
 (j002 r26.2.1 r26.2.2 3).bind fun r37_1=>
 let t38_1:=(w64 (1+r37_1.1))
 (j03D t38_1 r37_1.2.1 r37_1.2.2 a1_c.1 a1_c.2.1 a1_c.2.2.1 a1_c.2.2.2 ByteArray.empty 0 0 0 0 0 0 0 a2_name r14.1 t18 r21.1 r24.1 t27 0 0 ([]:(List Int))).bind fun q0_1=>
 (j00S q0_1.1 q0_1.2.1 2).bind fun r54_1=>
 cond r54_1.1 (
 (j032 r54_1.2.1 r54_1.2.2).bind fun r56_1=>
 (j00S r56_1.2.1 r56_1.2.2 4).bind fun r59_2=>
 let t63_2:=(Int.ofNat (List.length q0_1.2.2.2.2.1))
 cond (cond r59_2.1 (decide (t63_2>0)) false) (
 let t69_2:=(Int.ofNat (List.length q0_1.2.2.2.2.1))
 (j002 r59_2.2.1 r59_2.2.2 t69_2).bind fun r70_2=>
 (j002 r70_2.2.1 r70_2.2.2 2).bind fun r72_2=>
 let t73_2:=(w64 (1+r72_2.1))
 some ((q0_1.2.2.2.2.2.2.2.2.2.2.2.2.2.2.1,(q0_1.2.2.2.2.2.2.2.2.2.2.2.2.2.2.2.1,((q0_1.2.2.2.2.2.2.2.2.2.2.2.2.2.2.2.2.1,q0_1.2.2.2.2.2.2.2.2.2.2.2.2.2.2.2.2.2.1),(q0_1.2.2.2.2.2.2.2.2.2.2.2.2.2.2.2.2.2.2.1,(q0_1.2.2.2.2.2.2.2.2.2.2.2.2.2.2.2.2.2.2.2.1,(q0_1.2.2.2.2.2.2.2.2.2.2.2.2.2.2.2.2.2.2.2.2.2.2,(r56_1.1,(r70_2.1,t73_2)))))))),r72_2.2.1,r72_2.2.2)) (
 some ((q0_1.2.2.2.2.2.2.2.2.2.2.2.2.2.2.1,(q0_1.2.2.2.2.2.2.2.2.2.2.2.2.2.2.2.1,((q0_1.2.2.2.2.2.2.2.2.2.2.2.2.2.2.2.2.1,q0_1.2.2.2.2.2.2.2.2.2.2.2.2.2.2.2.2.2.1),(q0_1.2.2.2.2.2.2.2.2.2.2.2.2.2.2.2.2.2.2.1,(q0_1.2.2.2.2.2.2.2.2.2.2.2.2.2.2.2.2.2.2.2.1,(q0_1.2.2.2.2.2.2.2.2.2.2.2.2.2.2.2.2.2.2.2.2.2.2,(r56_1.1,(q0_1.2.2.2.2.2.2.2.2.2.2.2.2.2.2.2.2.2.2.2.2.1,q0_1.2.2.2.2.2.2.2.2.2.2.2.2.2.2.2.2.2.2.2.2.2.1)))))))),r59_2.2.1,r59_2.2.2))) (
 (j00S r54_1.2.1 r54_1.2.2 4).bind fun r59_3=>
 let t63_3:=(Int.ofNat (List.length q0_1.2.2.2.2.1))
 cond (cond r59_3.1 (decide (t63_3>0)) false) (
 let t69_3:=(Int.ofNat (List.length q0_1.2.2.2.2.1))
 (j002 r59_3.2.1 r59_3.2.2 t69_3).bind fun r70_3=>
 (j002 r70_3.2.1 r70_3.2.2 2).bind fun r72_3=>
 let t73_3:=(w64 (1+r72_3.1))
 some ((q0_1.2.2.2.2.2.2.2.2.2.2.2.2.2.2.1,(q0_1.2.2.2.2.2.2.2.2.2.2.2.2.2.2.2.1,((q0_1.2.2.2.2.2.2.2.2.2.2.2.2.2.2.2.2.1,q0_1.2.2.2.2.2.2.2.2.2.2.2.2.2.2.2.2.2.1),(q0_1.2.2.2.2.2.2.2.2.2.2.2.2.2.2.2.2.2.2.1,(q0_1.2.2.2.2.2.2.2.2.2.2.2.2.2.2.2.2.2.2.2.1,(q0_1.2.2.2.2.2.2.2.2.2.2.2.2.2.2.2.2.2.2.2.2.2.2,(([]:Tn2),(r70_3.1,t73_3)))))))),r72_3.2.1,r72_3.2.2)) (
 some ((q0_1.2.2.2.2.2.2.2.2.2.2.2.2.2.2.1,(q0_1.2.2.2.2.2.2.2.2.2.2.2.2.2.2.2.1,((q0_1.2.2.2.2.2.2.2.2.2.2.2.2.2.2.2.2.1,q0_1.2.2.2.2.2.2.2.2.2.2.2.2.2.2.2.2.2.1),(q0_1.2.2.2.2.2.2.2.2.2.2.2.2.2.2.2.2.2.2.1,(q0_1.2.2.2.2.2.2.2.2.2.2.2.2.2.2.2.2.2.2.2.1,(q0_1.2.2.2.2.2.2.2.2.2.2.2.2.2.2.2.2.2.2.2.2.2.2,(([]:Tn2),(q0_1.2.2.2.2.2.2.2.2.2.2.2.2.2.2.2.2.2.2.2.2.1,q0_1.2.2.2.2.2.2.2.2.2.2.2.2.2.2.2.2.2.2.2.2.2.1)))))))),r59_3.2.1,r59_3.2.2))))
def j04a (a0_d:(List Int)) (a0_d_1:Int):Option (Int×(List Int)×Int):=
 (j002 a0_d a0_d_1 576).bind fun r5=>
 let t6:=(w64 (3600*r5.1))
 let t7:=(w64 (1767139200+t6))
 (j00S r5.2.1 r5.2.2 3).bind fun r9=>
 cond r9.1 (
 let t12:(List Int):=[(-1),1,1800,3599]
 (j012 r9.2.1 r9.2.2 t12).bind fun r13=>
 let t14:=(w64 (t7+r13.1))
 some (t14,r13.2.1,r13.2.2)) (
 some (t7,r9.2.1,r9.2.2))
def j07N (a0_d:(List Int)) (a0_d_1:Int) (a1_c:Tn71):Option (Tn24×(List Int)×Int):=
 let t9:=(Int.ofNat (List.length a1_c.2.1))
 (j002 a0_d a0_d_1 3).bind fun r11=>
 (j002 r11.2.1 r11.2.2 t9).bind fun r14=>
 (j04a r14.2.1 r14.2.2).bind fun r16=>
 let t21:(List Int):=[3600,86400,7,259200,40000]
 (j012 r16.2.1 r16.2.2 t21).bind fun r22=>
 let t23:=(w64 (r16.1+r22.1))
 cond (r11.1==2) (
 cond (decide (t9<2)) (
 some ((0,(r14.1,(0,(r16.1,t23)))),r22.2.1,r22.2.2)) (
 let t34:=(w64 (r14.1+1))
 let t37:=(w64 (t9-1))
 (j002 r22.2.1 r22.2.2 t37).bind fun r38=>
 let t39:=(w64 (t34+r38.1))
 cond (!(t9==0)) (
 let t41:=(Int.tmod t39 t9)
 cond (r11.1==1) (
 (j00S r38.2.1 r38.2.2 4).bind fun r48=>
 cond r48.1 (
 some ((r11.1,((-1),(t41,(r16.1,t23)))),r48.2.1,r48.2.2)) (
 some ((r11.1,(r14.1,(t41,(r16.1,t23)))),r48.2.1,r48.2.2))) (
 some ((r11.1,(r14.1,(t41,(r16.1,t23)))),r38.2.1,r38.2.2))) none)) (
 cond (r11.1==1) (
 (j00S r22.2.1 r22.2.2 4).bind fun r48_1=>
 cond r48_1.1 (
 some ((r11.1,((-1),(0,(r16.1,t23)))),r48_1.2.1,r48_1.2.2)) (
 some ((r11.1,(r14.1,(0,(r16.1,t23)))),r48_1.2.1,r48_1.2.2))) (
 some ((r11.1,(r14.1,(0,(r16.1,t23)))),r22.2.1,r22.2.2)))
def j020 [LP] (s6 s8:Int) (b0:(List Int)) (b0_1:Int) (b5:Tn54) (b5_1:Tn48) (b5_2:Tn26) (b7:ByteArray) (l5c3:Tn65) (l7c1:Tn60):Option ((Int×Int×(List Int)×Int×Tn54×Tn48×Tn26×ByteArray×Tn65×Tn60) ⊕ ((Int×(List Int)×Int×Tn54×Tn48×Tn26×ByteArray×Tn65×Tn60))):=
 cond (decide (s8>0)) (
 (j0ds).bind fun r38_8=>
 let t41_5:=(Int.ofNat (List.length l7c1))
 cond (inR t41_5 (List.length r38_8)) (
 let t43_8:=(List.getD r38_8 (Int.toNat t41_5) ByteArray.empty)
 (j06U b0 b0_1 (b5,(b5_1,(b5_2,l5c3))) t43_8).bind fun r44_8=>
 let t45_8:Tn60:=[(r44_8.1.1,(r44_8.1.2.1,((r44_8.1.2.2.1.1,r44_8.1.2.2.1.2),(r44_8.1.2.2.2.1,(r44_8.1.2.2.2.2.1,(r44_8.1.2.2.2.2.2.1,(r44_8.1.2.2.2.2.2.2.1,(r44_8.1.2.2.2.2.2.2.2.1,r44_8.1.2.2.2.2.2.2.2.2))))))))]
 cond (decide (List.length l7c1+List.length t45_8≤sizeMax)) (
 let t46_8:Tn60:=(l7c1++t45_8)
 let t33_8:=(w64 (s8-1))
 some (.inl (s6,t33_8,r44_8.2.1,r44_8.2.2,b5,b5_1,b5_2,b7,l5c3,t46_8))) none) none) (
 some (.inr (s6,b0,b0_1,b5,b5_1,b5_2,b7,l5c3,l7c1)))
def j03a [LP] (s6 s8:Int) (b0:(List Int)) (b0_1:Int) (b5:Tn54) (b5_1:Tn48) (b5_2:Tn26) (b7:ByteArray) (l5c3:Tn65) (l7c1:Tn60):Option ((Int×(List Int)×Int×Tn54×Tn48×Tn26×ByteArray×Tn65×Tn60)):=
 LP.lp (fun h=>j020 h.1 h.2.1 h.2.2.1 h.2.2.2.1 h.2.2.2.2.1 h.2.2.2.2.2.1 h.2.2.2.2.2.2.1 h.2.2.2.2.2.2.2.1 h.2.2.2.2.2.2.2.2.1 h.2.2.2.2.2.2.2.2.2) (s6,s8,b0,b0_1,b5,b5_1,b5_2,b7,l5c3,l7c1)
theorem j07b (s6 s8:Int) (b0:(List Int)) (b0_1:Int) (b5:Tn54) (b5_1:Tn48) (b5_2:Tn26) (b7:ByteArray) (l5c3:Tn65) (l7c1:Tn60):j03a s6 s8 b0 b0_1 b5 b5_1 b5_2 b7 l5c3 l7c1=lpK (j020 s6 s8 b0 b0_1 b5 b5_1 b5_2 b7 l5c3 l7c1) (fun h=>j03a h.1 h.2.1 h.2.2.1 h.2.2.2.1 h.2.2.2.2.1 h.2.2.2.2.2.1 h.2.2.2.2.2.2.1 h.2.2.2.2.2.2.2.1 h.2.2.2.2.2.2.2.2.1 h.2.2.2.2.2.2.2.2.2):=j004 _ _
def j021 (s6 s9:Int) (b0:(List Int)) (b0_1:Int) (b5:Tn54) (b5_1:Tn48) (b5_2:Tn26) (b7:ByteArray) (l5c3:Tn65) (l7c1:Tn60) (l7c2:Tn29):Option ((Int×Int×(List Int)×Int×Tn54×Tn48×Tn26×ByteArray×Tn65×Tn60×Tn29) ⊕ ((Int×(List Int)×Int×Tn54×Tn48×Tn26×ByteArray×Tn65×Tn60×Tn29))):=
 cond (decide (s9>0)) (
 (j07N b0 b0_1 (b5,(b5_1,(b5_2,l5c3)))).bind fun r58_8=>
 let t59_8:Tn29:=[(r58_8.1.1,(r58_8.1.2.1,(r58_8.1.2.2.1,(r58_8.1.2.2.2.1,r58_8.1.2.2.2.2))))]
 cond (decide (List.length l7c2+List.length t59_8≤sizeMax)) (
 let t60_8:Tn29:=(l7c2++t59_8)
 let t53_8:=(w64 (s9-1))
 some (.inl (s6,t53_8,r58_8.2.1,r58_8.2.2,b5,b5_1,b5_2,b7,l5c3,l7c1,t60_8))) none) (
 some (.inr (s6,b0,b0_1,b5,b5_1,b5_2,b7,l5c3,l7c1,l7c2)))
def j04u [LP] (s6 s9:Int) (b0:(List Int)) (b0_1:Int) (b5:Tn54) (b5_1:Tn48) (b5_2:Tn26) (b7:ByteArray) (l5c3:Tn65) (l7c1:Tn60) (l7c2:Tn29):Option ((Int×(List Int)×Int×Tn54×Tn48×Tn26×ByteArray×Tn65×Tn60×Tn29)):=
 LP.lp (fun h=>j021 h.1 h.2.1 h.2.2.1 h.2.2.2.1 h.2.2.2.2.1 h.2.2.2.2.2.1 h.2.2.2.2.2.2.1 h.2.2.2.2.2.2.2.1 h.2.2.2.2.2.2.2.2.1 h.2.2.2.2.2.2.2.2.2.1 h.2.2.2.2.2.2.2.2.2.2) (s6,s9,b0,b0_1,b5,b5_1,b5_2,b7,l5c3,l7c1,l7c2)
theorem j07c (s6 s9:Int) (b0:(List Int)) (b0_1:Int) (b5:Tn54) (b5_1:Tn48) (b5_2:Tn26) (b7:ByteArray) (l5c3:Tn65) (l7c1:Tn60) (l7c2:Tn29):j04u s6 s9 b0 b0_1 b5 b5_1 b5_2 b7 l5c3 l7c1 l7c2=lpK (j021 s6 s9 b0 b0_1 b5 b5_1 b5_2 b7 l5c3 l7c1 l7c2) (fun h=>j04u h.1 h.2.1 h.2.2.1 h.2.2.2.1 h.2.2.2.2.1 h.2.2.2.2.2.1 h.2.2.2.2.2.2.1 h.2.2.2.2.2.2.2.1 h.2.2.2.2.2.2.2.2.1 h.2.2.2.2.2.2.2.2.2.1 h.2.2.2.2.2.2.2.2.2.2):=j004 _ _
def j022 [LP] (s6:Int) (b0:(List Int)) (b0_1:Int) (b5:Tn54) (b5_1:Tn48) (b5_2:Tn26) (l5c3:Tn65):Option ((Int×(List Int)×Int×Tn54×Tn48×Tn26×Tn65) ⊕ (((List Int)×Int×Tn54×Tn48×Tn26×Tn65))):=
 cond (decide (s6>0)) (
 let t20_3:(List ByteArray):=[(ByteArray.mk #[102,105,114,115,116]),(ByteArray.mk #[115,101,99,111,110,100]),(ByteArray.mk #[116,104,105,114,100])]
 let t23_2:=(Int.ofNat (List.length l5c3))
 let t24_3:=(Int.tmod t23_2 3)
 cond (inR t24_3 (List.length t20_3)) (
 let t26_3:=(List.getD t20_3 (Int.toNat t24_3) ByteArray.empty)
 (j002 b0 b0_1 4).bind fun r29_3=>
 (j03a s6 r29_3.1 r29_3.2.1 r29_3.2.2 b5 b5_1 b5_2 t26_3 l5c3 ([]:Tn60)).bind fun q2_3=>
 (j002 q2_3.2.1 q2_3.2.2.1 4).bind fun r49_3=>
 (j04u q2_3.1 r49_3.1 r49_3.2.1 r49_3.2.2 q2_3.2.2.2.1 q2_3.2.2.2.2.1 q2_3.2.2.2.2.2.1 q2_3.2.2.2.2.2.2.1 q2_3.2.2.2.2.2.2.2.1 q2_3.2.2.2.2.2.2.2.2 ([]:Tn29)).bind fun q4_3=>
 let t65_3:Tn65:=[(q4_3.2.2.2.2.2.2.1,(q4_3.2.2.2.2.2.2.2.2.1,q4_3.2.2.2.2.2.2.2.2.2))]
 cond (decide (List.length q4_3.2.2.2.2.2.2.2.1+List.length t65_3≤sizeMax)) (
 let t66_3:Tn65:=(q4_3.2.2.2.2.2.2.2.1++t65_3)
 let t19_3:=(w64 (q4_3.1-1))
 some (.inl (t19_3,q4_3.2.1,q4_3.2.2.1,q4_3.2.2.2.1,q4_3.2.2.2.2.1,q4_3.2.2.2.2.2.1,t66_3))) none) none) (
 some (.inr (b0,b0_1,b5,b5_1,b5_2,l5c3)))
def j04v [LP] (s6:Int) (b0:(List Int)) (b0_1:Int) (b5:Tn54) (b5_1:Tn48) (b5_2:Tn26) (l5c3:Tn65):Option (((List Int)×Int×Tn54×Tn48×Tn26×Tn65)):=
 LP.lp (fun h=>j022 h.1 h.2.1 h.2.2.1 h.2.2.2.1 h.2.2.2.2.1 h.2.2.2.2.2.1 h.2.2.2.2.2.2) (s6,b0,b0_1,b5,b5_1,b5_2,l5c3)
theorem j07d (s6:Int) (b0:(List Int)) (b0_1:Int) (b5:Tn54) (b5_1:Tn48) (b5_2:Tn26) (l5c3:Tn65):j04v s6 b0 b0_1 b5 b5_1 b5_2 l5c3=lpK (j022 s6 b0 b0_1 b5 b5_1 b5_2 l5c3) (fun h=>j04v h.1 h.2.1 h.2.2.1 h.2.2.2.1 h.2.2.2.2.1 h.2.2.2.2.2.1 h.2.2.2.2.2.2):=j004 _ _
def j06i [LP] (a0_d:(List Int)) (a0_d_1 a1_n:Int):Option (Tn71×(List Int)×Int):=
 (j06T a0_d a0_d_1).bind fun r11=>
 (j002 r11.2.1 r11.2.2 a1_n).bind fun r14=>
 let t15:=(w64 (1+r14.1))
 (j04v t15 r14.2.1 r14.2.2 r11.1.1 r11.1.2.1 r11.1.2.2.1 ([]:Tn65)).bind fun q0=>
 some ((q0.2.2.1,(q0.2.2.2.1,(q0.2.2.2.2.1,q0.2.2.2.2.2))),q0.1,q0.2.1)
def j0hO (a0_b:Int):Option (Bool):=
 some (cond (decide (a0_b≥48)) (decide (a0_b≤57)) false)
def j04F (s0:ByteArray) (s3:Int):Option ((ByteArray×Int) ⊕ (Bool ⊕ Unit)):=
 let t24_1:=(Int.ofNat (ByteArray.size s0))
 cond (decide (s3<t24_1)) (
 cond (inR s3 (ByteArray.size s0)) (
 let t30_1:=(strAt s0 s3)
 cond ((inR s3 (ByteArray.size s0)) || !(!(decide (t30_1<97)))) (
 let t35_1:=(strAt s0 s3)
 cond ((inR s3 (ByteArray.size s0)) || !(cond (decide (t30_1<97)) true (decide (t35_1>122)))) (
 let t41_1:=(strAt s0 s3)
 cond (cond (decide (t30_1<97)) true (decide (t35_1>122))) (
 (j0hO t41_1).bind fun r42_1=>
 cond ((inR s3 (ByteArray.size s0)) || !(!r42_1)) (
 let t48_2:=(strAt s0 s3)
 cond ((inR s3 (ByteArray.size s0)) || !(cond (!r42_1) (t48_2 != 95) false)) (
 let t54_2:=(strAt s0 s3)
 cond (cond (cond (!r42_1) (t48_2 != 95) false) (t54_2 != 45) false) (
 some (.inr (.inl false))) (
 let t27_2:=(w64 (s3+1))
 some (.inl (s0,t27_2)))) none) none) (
 cond ((inR s3 (ByteArray.size s0)) || !false) (
 let t48_3:=(strAt s0 s3)
 cond ((inR s3 (ByteArray.size s0)) || !false) (
 let t54_3:=(strAt s0 s3)
 let t27_3:=(w64 (s3+1))
 some (.inl (s0,t27_3))) none) none)) none) none) none) (
 some (.inr (.inr ())))
def j08a [LP] (s0:ByteArray) (s3:Int):Option (Bool ⊕ Unit):=
 LP.lp (fun h=>j04F h.1 h.2) (s0,s3)
theorem j0dt (s0:ByteArray) (s3:Int):j08a s0 s3=lpK (j04F s0 s3) (fun h=>j08a h.1 h.2):=j004 _ _
def j0hP [LP] (a0_s:ByteArray):Option (Bool):=
 let t5:=(Int.ofNat (ByteArray.size a0_s))
 let t9:=(Int.ofNat (ByteArray.size a0_s))
 cond ((inR 0 (ByteArray.size a0_s)) || !(!(cond (decide (t5<1)) true (decide (t9>24))))) (
 let t14:=(strAt a0_s 0)
 let t16:Bool:=(cond (cond (decide (t5<1)) true (decide (t9>24))) true (decide (t14<97)))
 cond ((inR 0 (ByteArray.size a0_s)) || !(!t16)) (
 let t19:=(strAt a0_s 0)
 cond (cond t16 true (decide (t19>122))) (
 some false) (
 (j08a a0_s 0).bind fun q0=>
 sumC q0 (fun a=>
 some a) (fun b=>
 some true))) none) none
def j04G (s0:(List ByteArray)) (s1 s5:Int):Option (((List ByteArray)×Int×Int) ⊕ (Int ⊕ Unit)):=
 cond (decide (s5<s1)) (
 cond (inR s5 (List.length s0)) (
 let t19_1:=(List.getD s0 (Int.toNat s5) ByteArray.empty)
 cond (inR s1 (List.length s0)) (
 let t23_1:=(List.getD s0 (Int.toNat s1) ByteArray.empty)
 cond (ByteArray.toList t19_1==ByteArray.toList t23_1) (
 some (.inr (.inl 4))) (
 let t16_1:=(w64 (s5+1))
 some (.inl (s0,s1,t16_1)))) none) none) (
 some (.inr (.inr ())))
def j0ad [LP] (s0:(List ByteArray)) (s1 s5:Int):Option (Int ⊕ Unit):=
 LP.lp (fun h=>j04G h.1 h.2.1 h.2.2) (s0,s1,s5)
theorem j0du (s0:(List ByteArray)) (s1 s5:Int):j0ad s0 s1 s5=lpK (j04G s0 s1 s5) (fun h=>j0ad h.1 h.2.1 h.2.2):=j004 _ _
def j0aw [LP] (a0_l:(List ByteArray)) (a1_i:Int):Option (Int):=
 cond (inR a1_i (List.length a0_l)) (
 let t8:=(List.getD a0_l (Int.toNat a1_i) ByteArray.empty)
 (j0hP t8).bind fun r10=>
 cond (!r10) (
 some 2) (
 (j0ad a0_l a1_i 0).bind fun q0=>
 sumC q0 (fun a=>
 some a) (fun b=>
 some 0))) none
def r04_in (a0_n a1_lo a2_hi:Int):Option (Bool):=
 some (cond (decide (a0_n≥a1_lo)) (decide (a0_n≤a2_hi)) false)
def j0dv (a0_r:Tn38):Option (Bool):=
 (r04_in a0_r.1 1970 2240).bind fun r5=>
 cond r5 (
 (r04_in a0_r.2.1 a0_r.1 2240).bind fun r11=>
 cond r11 (
 (r04_in a0_r.2.2.1 1 12).bind fun r16=>
 cond r16 (
 (r04_in a0_r.2.2.2.1 1 5).bind fun r21=>
 cond r21 (
 (r04_in a0_r.2.2.2.2.1 0 6).bind fun r26=>
 cond r26 (
 (r04_in a0_r.2.2.2.2.2.1 0 86399).bind fun r31=>
 cond r31 (
 (r04_in a0_r.2.2.2.2.2.2 (-64800) 64800).bind fun r36=>
 some r36) (
 some false)) (
 some false)) (
 some false)) (
 some false)) (
 some false)) (
 some false)
def j01K (a0_year:Int):Option (Bool):=
 let t4:=(Int.tmod a0_year 4)
 let t8:=(Int.tmod a0_year 100)
 let t12:=(Int.tmod a0_year 400)
 some (cond (t4==0) (cond (t8 != 0) true (t12==0)) false)
def j0cR (a0_year a1_month:Int):Option (Int):=
 cond (a1_month==1) (
 cond (a1_month==1) (
 some 31) (
 cond (a1_month==4) (
 cond (a1_month==4) (
 some 30) (
 cond (a1_month==2) (
 (j01K a0_year).bind fun r22=>
 cond r22 (
 some 29) (
 some 28)) (
 some 0))) (
 cond (a1_month==6) (
 cond (a1_month==6) (
 some 30) (
 cond (a1_month==2) (
 (j01K a0_year).bind fun r22_1=>
 cond r22_1 (
 some 29) (
 some 28)) (
 some 0))) (
 cond (a1_month==9) (
 cond (a1_month==9) (
 some 30) (
 cond (a1_month==2) (
 (j01K a0_year).bind fun r22_2=>
 cond r22_2 (
 some 29) (
 some 28)) (
 some 0))) (
 cond (a1_month==11) (
 some 30) (
 cond (a1_month==2) (
 (j01K a0_year).bind fun r22_3=>
 cond r22_3 (
 some 29) (
 some 28)) (
 some 0))))))) (
 cond (a1_month==3) (
 cond (a1_month==3) (
 some 31) (
 cond (a1_month==4) (
 cond (a1_month==4) (
 some 30) (
 cond (a1_month==2) (
 (j01K a0_year).bind fun r22_4=>
 cond r22_4 (
 some 29) (
 some 28)) (
 some 0))) (
 cond (a1_month==6) (
 cond (a1_month==6) (
 some 30) (
 cond (a1_month==2) (
 (j01K a0_year).bind fun r22_5=>
 cond r22_5 (
 some 29) (
 some 28)) (
 some 0))) (
 cond (a1_month==9) (
 cond (a1_month==9) (
 some 30) (
 cond (a1_month==2) (
 (j01K a0_year).bind fun r22_6=>
 cond r22_6 (
 some 29) (
 some 28)) (
 some 0))) (
 cond (a1_month==11) (
 some 30) (
 cond (a1_month==2) (
 (j01K a0_year).bind fun r22_7=>
 cond r22_7 (
 some 29) (
 some 28)) (
 some 0))))))) (
 cond (a1_month==5) (
 cond (a1_month==5) (
 some 31) (
 cond (a1_month==4) (
 cond (a1_month==4) (
 some 30) (
 cond (a1_month==2) (
 (j01K a0_year).bind fun r22_8=>
 cond r22_8 (
 some 29) (
 some 28)) (
 some 0))) (
 cond (a1_month==6) (
 cond (a1_month==6) (
 some 30) (
 cond (a1_month==2) (
 (j01K a0_year).bind fun r22_9=>
 cond r22_9 (
 some 29) (
 some 28)) (
 some 0))) (
 cond (a1_month==9) (
 cond (a1_month==9) (
 some 30) (
 cond (a1_month==2) (
 (j01K a0_year).bind fun r22_10=>
 cond r22_10 (
 some 29) (
 some 28)) (
 some 0))) (
 cond (a1_month==11) (
 some 30) (
 cond (a1_month==2) (
 (j01K a0_year).bind fun r22_11=>
 cond r22_11 (
 some 29) (
 some 28)) (
 some 0))))))) (
 cond (a1_month==7) (
 cond (a1_month==7) (
 some 31) (
 cond (a1_month==4) (
 cond (a1_month==4) (
 some 30) (
 cond (a1_month==2) (
 (j01K a0_year).bind fun r22_12=>
 cond r22_12 (
 some 29) (
 some 28)) (
 some 0))) (
 cond (a1_month==6) (
 cond (a1_month==6) (
 some 30) (
 cond (a1_month==2) (
 (j01K a0_year).bind fun r22_13=>
 cond r22_13 (
 some 29) (
 some 28)) (
 some 0))) (
 cond (a1_month==9) (
 cond (a1_month==9) (
 some 30) (
 cond (a1_month==2) (
 (j01K a0_year).bind fun r22_14=>
 cond r22_14 (
 some 29) (
 some 28)) (
 some 0))) (
 cond (a1_month==11) (
 some 30) (
 cond (a1_month==2) (
 (j01K a0_year).bind fun r22_15=>
 cond r22_15 (
 some 29) (
 some 28)) (
 some 0))))))) (
 cond (a1_month==8) (
 cond (a1_month==8) (
 some 31) (
 cond (a1_month==4) (
 cond (a1_month==4) (
 some 30) (
 cond (a1_month==2) (
 (j01K a0_year).bind fun r22_16=>
 cond r22_16 (
 some 29) (
 some 28)) (
 some 0))) (
 cond (a1_month==6) (
 cond (a1_month==6) (
 some 30) (
 cond (a1_month==2) (
 (j01K a0_year).bind fun r22_17=>
 cond r22_17 (
 some 29) (
 some 28)) (
 some 0))) (
 cond (a1_month==9) (
 cond (a1_month==9) (
 some 30) (
 cond (a1_month==2) (
 (j01K a0_year).bind fun r22_18=>
 cond r22_18 (
 some 29) (
 some 28)) (
 some 0))) (
 cond (a1_month==11) (
 some 30) (
 cond (a1_month==2) (
 (j01K a0_year).bind fun r22_19=>
 cond r22_19 (
 some 29) (
 some 28)) (
 some 0))))))) (
 cond (a1_month==10) (
 cond (a1_month==10) (
 some 31) (
 cond (a1_month==4) (
 cond (a1_month==4) (
 some 30) (
 cond (a1_month==2) (
 (j01K a0_year).bind fun r22_20=>
 cond r22_20 (
 some 29) (
 some 28)) (
 some 0))) (
 cond (a1_month==6) (
 cond (a1_month==6) (
 some 30) (
 cond (a1_month==2) (
 (j01K a0_year).bind fun r22_21=>
 cond r22_21 (
 some 29) (
 some 28)) (
 some 0))) (
 cond (a1_month==9) (
 cond (a1_month==9) (
 some 30) (
 cond (a1_month==2) (
 (j01K a0_year).bind fun r22_22=>
 cond r22_22 (
 some 29) (
 some 28)) (
 some 0))) (
 cond (a1_month==11) (
 some 30) (
 cond (a1_month==2) (
 (j01K a0_year).bind fun r22_23=>
 cond r22_23 (
 some 29) (
 some 28)) (
 some 0))))))) (
 cond (a1_month==12) (
 some 31) (
 cond (a1_month==4) (
 cond (a1_month==4) (
 some 30) (
 cond (a1_month==2) (
 (j01K a0_year).bind fun r22_24=>
 cond r22_24 (
 some 29) (
 some 28)) (
 some 0))) (
 cond (a1_month==6) (
 cond (a1_month==6) (
 some 30) (
 cond (a1_month==2) (
 (j01K a0_year).bind fun r22_25=>
 cond r22_25 (
 some 29) (
 some 28)) (
 some 0))) (
 cond (a1_month==9) (
 cond (a1_month==9) (
 some 30) (
 cond (a1_month==2) (
 (j01K a0_year).bind fun r22_26=>
 cond r22_26 (
 some 29) (
 some 28)) (
 some 0))) (
 cond (a1_month==11) (
 some 30) (
 cond (a1_month==2) (
 (j01K a0_year).bind fun r22_27=>
 cond r22_27 (
 some 29) (
 some 28)) (
 some 0))))))))))))
def j0fI (a0_d:Tn3):Option (Bool):=
 cond (decide (a0_d.1≥1970)) (
 cond (decide (a0_d.1≤2240)) (
 cond (decide (a0_d.2.1≥1)) (
 cond (decide (a0_d.2.1≤12)) (
 cond (decide (a0_d.2.2≥1)) (
 (j0cR a0_d.1 a0_d.2.1).bind fun r33=>
 some (decide (a0_d.2.2≤r33))) (
 some false)) (
 some false)) (
 some false)) (
 some false)) (
 some false)
def j0g5 (a0_y:Int):Option (Int):=
 let t4:=(w64 (a0_y-1970))
 let t5:=(w64 (t4*365))
 let t7:=(w64 (a0_y-1969))
 let t8:=(w64 (Int.tdiv t7 4))
 let t9:=(w64 (t5+t8))
 let t11:=(w64 (a0_y-1901))
 let t12:=(w64 (Int.tdiv t11 100))
 let t13:=(w64 (t9-t12))
 let t15:=(w64 (a0_y-1601))
 let t16:=(w64 (Int.tdiv t15 400))
 let t17:=(w64 (t13+t16))
 some t17
def j05n (s4 s5 b1 b1_1 b1_2:Int):Option ((Int×Int×Int×Int×Int) ⊕ ((Int×Int×Int×Int))):=
 cond (decide (s5<b1_1)) (
 (j0cR b1 s5).bind fun r22_1=>
 let t23_1:=(w64 (s4+r22_1))
 let t17_1:=(w64 (s5+1))
 some (.inl (t23_1,t17_1,b1,b1_1,b1_2))) (
 some (.inr (s4,b1,b1_1,b1_2)))
def j0dw [LP] (s4 s5 b1 b1_1 b1_2:Int):Option ((Int×Int×Int×Int)):=
 LP.lp (fun h=>j05n h.1 h.2.1 h.2.2.1 h.2.2.2.1 h.2.2.2.2) (s4,s5,b1,b1_1,b1_2)
theorem j0fb (s4 s5 b1 b1_1 b1_2:Int):j0dw s4 s5 b1 b1_1 b1_2=lpK (j05n s4 s5 b1 b1_1 b1_2) (fun h=>j0dw h.1 h.2.1 h.2.2.1 h.2.2.2.1 h.2.2.2.2):=j004 _ _
def r01_Day [LP] (a0_d:Tn3):Option (Int×Int):=
 (j0fI (a0_d.1,(a0_d.2.1,a0_d.2.2))).bind fun r7=>
 cond (!r7) (
 some (0,1)) (
 (j0g5 a0_d.1).bind fun r11=>
 (j0dw r11 1 a0_d.1 a0_d.2.1 a0_d.2.2).bind fun q0=>
 let t27:=(w64 (q0.1+q0.2.2.2))
 let t28:=(w64 (t27-1))
 some (t28,0))
def j0cs (a0_day:Int):Option (Int):=
 let t4:=(Int.tmod a0_day 7)
 let t5:=(w64 (t4+10))
 let t6:=(Int.tmod t5 7)
 some t6
def j05o (s0 s1 s2 s3 s10 s12:Int):Option ((Int×Int×Int×Int×Int×Int) ⊕ ((Int×Int×Int×Int×Int))):=
 (j0cs s12).bind fun r40_1=>
 cond (r40_1 != s3) (
 let t44_1:=(w64 (s12+1))
 some (.inl (s0,s1,s2,s3,s10,t44_1))) (
 some (.inr (s0,s1,s2,s10,s12)))
def j0dx [LP] (s0 s1 s2 s3 s10 s12:Int):Option ((Int×Int×Int×Int×Int)):=
 LP.lp (fun h=>j05o h.1 h.2.1 h.2.2.1 h.2.2.2.1 h.2.2.2.2.1 h.2.2.2.2.2) (s0,s1,s2,s3,s10,s12)
theorem j0fc (s0 s1 s2 s3 s10 s12:Int):j0dx s0 s1 s2 s3 s10 s12=lpK (j05o s0 s1 s2 s3 s10 s12) (fun h=>j0dx h.1 h.2.1 h.2.2.1 h.2.2.2.1 h.2.2.2.2.1 h.2.2.2.2.2):=j004 _ _
def j05p (s0 s1 s10 s12:Int):Option ((Int×Int×Int×Int) ⊕ (Int)):=
 let t53_1:=(w64 (s12+7))
 (j0cR s0 s1).bind fun r57_1=>
 let t58_1:=(w64 (s10+r57_1))
 cond (decide (t53_1<t58_1)) (
 let t61_1:=(w64 (s12+7))
 some (.inl (s0,s1,s10,t61_1))) (
 some (.inr s12))
def j0dy [LP] (s0 s1 s10 s12:Int):Option (Int):=
 LP.lp (fun h=>j05p h.1 h.2.1 h.2.2.1 h.2.2.2) (s0,s1,s10,s12)
theorem j0fd (s0 s1 s10 s12:Int):j0dy s0 s1 s10 s12=lpK (j05p s0 s1 s10 s12) (fun h=>j0dy h.1 h.2.1 h.2.2.1 h.2.2.2):=j004 _ _
def r01_Nth [LP] (a0_y a1_month a2_week a3_weekday:Int):Option (Int×Int):=
 (r01_Day (a0_y,(a1_month,1))).bind fun r17=>
 let t29:Bool:=(cond (cond (r17.2 != 0) true (decide (a2_week<1))) true (decide (a2_week>5)))
 let t37:Bool:=(cond (cond t29 true (decide (a3_weekday<0))) true (decide (a3_weekday>6)))
 cond t37 (
 some (0,1)) (
 (j0dx a0_y a1_month a2_week a3_weekday r17.1 r17.1).bind fun q0=>
 cond (decide (q0.2.2.1<5)) (
 let t49:=(w64 (q0.2.2.1-1))
 let t50:=(w64 (7*t49))
 let t51:=(w64 (q0.2.2.2.2+t50))
 some (t51,0)) (
 (j0dy q0.1 q0.2.1 q0.2.2.2.1 q0.2.2.2.2).bind fun q2=>
 some (q2,0)))
def j02c (s0:Tn42) (s4 s5 s9 b8 b8_1:Int) (l3:Tn2):Option ((Tn42×Int×Int×Int×Int×Int×Tn2) ⊕ ((Tn42×Int×Int×Int×Int×Int×Tn2))):=
 cond (decide (s9>0)) (
 let t71_5:=(w64 (s9-1))
 cond (inR t71_5 (List.length l3)) (
 let t74_3:=(List.getD l3 (Int.toNat t71_5) (0,0)).1
 cond (decide (t74_3>b8)) (
 let t80_3:=(w64 (s9-1))
 some (.inl (s0,s4,s5,t80_3,b8,b8_1,l3))) (
 some (.inr (s0,s4,s5,s9,b8,b8_1,l3)))) none) (
 some (.inr (s0,s4,s5,s9,b8,b8_1,l3)))
def j03E [LP] (s0:Tn42) (s4 s5 s9 b8 b8_1:Int) (l3:Tn2):Option ((Tn42×Int×Int×Int×Int×Int×Tn2)):=
 LP.lp (fun h=>j02c h.1 h.2.1 h.2.2.1 h.2.2.2.1 h.2.2.2.2.1 h.2.2.2.2.2.1 h.2.2.2.2.2.2) (s0,s4,s5,s9,b8,b8_1,l3)
theorem j07I (s0:Tn42) (s4 s5 s9 b8 b8_1:Int) (l3:Tn2):j03E s0 s4 s5 s9 b8 b8_1 l3=lpK (j02c s0 s4 s5 s9 b8 b8_1 l3) (fun h=>j03E h.1 h.2.1 h.2.2.1 h.2.2.2.1 h.2.2.2.2.1 h.2.2.2.2.2.1 h.2.2.2.2.2.2):=j004 _ _
def j02d [LP] (s0:Tn42) (s4 s5:Int) (l3:Tn2):Option ((Tn42×Int×Int×Tn2) ⊕ ((Tn42×Int×Tn2))):=
 cond (inR s4 (List.length s0)) (
 let t24_4:=(List.getD s0 (Int.toNat s4) (0,(0,(0,(0,(0,(0,0)))))))
 cond (decide (s5≤t24_4.2.1)) (
 cond (inR s4 (List.length s0)) (
 let t34_4:=(List.getD s0 (Int.toNat s4) (0,(0,(0,(0,(0,(0,0)))))))
 cond (inR s4 (List.length s0)) (
 let t39_4:=(List.getD s0 (Int.toNat s4) (0,(0,(0,(0,(0,(0,0)))))))
 cond (inR s4 (List.length s0)) (
 let t44_4:=(List.getD s0 (Int.toNat s4) (0,(0,(0,(0,(0,(0,0)))))))
 (r01_Nth s5 t34_4.2.2.1 t39_4.2.2.2.1 t44_4.2.2.2.2.1).bind fun r47_4=>
 let t51_4:=(w64 (r47_4.1*86400))
 cond (inR s4 (List.length s0)) (
 let t54_4:=(List.getD s0 (Int.toNat s4) (0,(0,(0,(0,(0,(0,0)))))))
 let t57_4:=(w64 (t51_4+t54_4.2.2.2.2.2.1))
 cond (inR s4 (List.length s0)) (
 let t60_4:=(List.getD s0 (Int.toNat s4) (0,(0,(0,(0,(0,(0,0)))))))
 let t65_3:=(Int.ofNat (List.length l3))
 (j03E s0 s4 s5 t65_3 t57_4 t60_4.2.2.2.2.2.2 l3).bind fun q4_4=>
 let t83_4:Tn2:=[(q4_4.2.2.2.2.1,q4_4.2.2.2.2.2.1)]
 cond (decide (List.length q4_4.2.2.2.2.2.2+List.length t83_4≤sizeMax)) (
 let t84_4:Tn2:=(q4_4.2.2.2.2.2.2++t83_4)
 let t87_4:=(w64 (q4_4.2.2.2.1+1))
 cond (decide (0≤t87_4)&&decide (t87_4≤(Int.ofNat (List.length t84_4)))) (
 cond (decide (0≤q4_4.2.2.2.1)&&decide (q4_4.2.2.2.1≤(Int.ofNat (List.length t84_4)))) (
 let t92_8:Tn2:=(over t84_4 (Int.toNat t87_4) (List.drop (Int.toNat q4_4.2.2.2.1) t84_4))
 let t92_9:=(Int.ofNat (min (List.length (List.drop (Int.toNat q4_4.2.2.2.1) t84_4)) (List.length t84_4-(Int.toNat t87_4))))
 cond (inR q4_4.2.2.2.1 (List.length t92_8)) (
 let m4_4:Tn2:=(List.set t92_8 (Int.toNat q4_4.2.2.2.1) (q4_4.2.2.2.2.1,q4_4.2.2.2.2.2.1))
 let t29_4:=(w64 (q4_4.2.2.1+1))
 some (.inl (q4_4.1,q4_4.2.1,t29_4,m4_4))) none) none) none) none) none) none) none) none) none) (
 some (.inr (s0,s4,l3)))) none
def j053 [LP] (s0:Tn42) (s4 s5:Int) (l3:Tn2):Option ((Tn42×Int×Tn2)):=
 LP.lp (fun h=>j02d h.1 h.2.1 h.2.2.1 h.2.2.2) (s0,s4,s5,l3)
theorem j07J (s0:Tn42) (s4 s5:Int) (l3:Tn2):j053 s0 s4 s5 l3=lpK (j02d s0 s4 s5 l3) (fun h=>j053 h.1 h.2.1 h.2.2.1 h.2.2.2):=j004 _ _
def j02e [LP] (s0:Tn42) (s4:Int) (l3:Tn2):Option ((Tn42×Int×Tn2) ⊕ (Tn2)):=
 let t12_2:=(Int.ofNat (List.length s0))
 cond (decide (s4<t12_2)) (
 cond (inR s4 (List.length s0)) (
 let t18_2:=(List.getD s0 (Int.toNat s4) (0,(0,(0,(0,(0,(0,0)))))))
 (j053 s0 s4 t18_2.1 l3).bind fun q2_2=>
 let t15_2:=(w64 (q2_2.2.1+1))
 some (.inl (q2_2.1,t15_2,q2_2.2.2))) none) (
 some (.inr l3))
def j03F [LP] (s0:Tn42) (s4:Int) (l3:Tn2):Option (Tn2):=
 LP.lp (fun h=>j02e h.1 h.2.1 h.2.2) (s0,s4,l3)
theorem j07K (s0:Tn42) (s4:Int) (l3:Tn2):j03F s0 s4 l3=lpK (j02e s0 s4 l3) (fun h=>j03F h.1 h.2.1 h.2.2):=j004 _ _
def j06V [LP] (a0_l:Tn42):Option (Tn2):=
 (j03F a0_l 0 ([]:Tn2)).bind fun q0=>
 some q0
def j02f (s4 s5:Int) (b1:ByteArray) (b1_1:Int) (b1_2:Tn42):Option ((Int×Int×ByteArray×Int×Tn42) ⊕ (Int ⊕ (Int×ByteArray×Int×Tn42))):=
 let t22_1:=(Int.ofNat (List.length b1_2))
 cond (decide (s5<t22_1)) (
 cond (inR s5 (List.length b1_2)) (
 let t29_1:=(List.getD b1_2 (Int.toNat s5) (0,(0,(0,(0,(0,(0,0)))))))
 (j0dv (t29_1.1,(t29_1.2.1,(t29_1.2.2.1,(t29_1.2.2.2.1,(t29_1.2.2.2.2.1,(t29_1.2.2.2.2.2.1,t29_1.2.2.2.2.2.2))))))).bind fun r31_1=>
 cond (!r31_1) (
 some (.inr (.inl 1))) (
 cond (inR s5 (List.length b1_2)) (
 let t37_1:=(List.getD b1_2 (Int.toNat s5) (0,(0,(0,(0,(0,(0,0)))))))
 cond (inR s5 (List.length b1_2)) (
 let t43_1:=(List.getD b1_2 (Int.toNat s5) (0,(0,(0,(0,(0,(0,0)))))))
 let t46_1:=(w64 (t37_1.2.1-t43_1.1))
 let t47_1:=(w64 (t46_1+1))
 let t48_1:=(w64 (s4+t47_1))
 let t25_1:=(w64 (s5+1))
 some (.inl (t48_1,t25_1,b1,b1_1,b1_2))) none) none)) none) (
 some (.inr (.inr (s4,b1,b1_1,b1_2))))
def j03G [LP] (s4 s5:Int) (b1:ByteArray) (b1_1:Int) (b1_2:Tn42):Option (Int ⊕ (Int×ByteArray×Int×Tn42)):=
 LP.lp (fun h=>j02f h.1 h.2.1 h.2.2.1 h.2.2.2.1 h.2.2.2.2) (s4,s5,b1,b1_1,b1_2)
theorem j07L (s4 s5:Int) (b1:ByteArray) (b1_1:Int) (b1_2:Tn42):j03G s4 s5 b1 b1_1 b1_2=lpK (j02f s4 s5 b1 b1_1 b1_2) (fun h=>j03G h.1 h.2.1 h.2.2.1 h.2.2.2.1 h.2.2.2.2):=j004 _ _
def j02g (s8 s9:Int) (l6 l7:Tn2):Option ((Int×Int×Tn2×Tn2) ⊕ (Int ⊕ Tn2)):=
 let t58_2:=(Int.ofNat (List.length l7))
 cond (decide (s9<t58_2)) (
 cond (inR s9 (List.length l7)) (
 let t66_2:=(List.getD l7 (Int.toNat s9) (0,0)).2
 cond (t66_2==s8) (
 let t61_5:=(w64 (s9+1))
 some (.inl (s8,t61_5,l6,l7))) (
 cond (inR s9 (List.length l7)) (
 let t73_2:=(List.getD l7 (Int.toNat s9) (0,0)).1
 let t75_2:=(w64 (t73_2-s8))
 cond (inR s9 (List.length l7)) (
 let t80_2:=(List.getD l7 (Int.toNat s9) (0,0)).2
 let t85_2:=(w64 (t80_2-s8))
 (r04_in t85_2 (-86399) 86399).bind fun r86_2=>
 cond (!r86_2) (
 some (.inr (.inl 6))) (
 (r04_in t75_2 0 8589934592).bind fun r91_2=>
 cond (!r91_2) (
 some (.inr (.inl 6))) (
 let t96_1:=(Int.ofNat (List.length l6))
 cond (decide (t96_1>0)) (
 let t103_1:=(Int.ofNat (List.length l6))
 let t104_2:=(w64 (t103_1-1))
 cond (inR t104_2 (List.length l6)) (
 let t107_1:=(List.getD l6 (Int.toNat t104_2) (0,0)).1
 let t108_1:=(w64 (t75_2-t107_1))
 cond (decide (t108_1<604800)) (
 some (.inr (.inl 6))) (
 let t114_3:Tn2:=[(t75_2,t80_2)]
 cond (decide (List.length l6+List.length t114_3≤sizeMax)) (
 let t115_3:Tn2:=(l6++t114_3)
 let t61_6:=(w64 (s9+1))
 some (.inl (t80_2,t61_6,t115_3,l7))) none)) none) (
 let t114_4:Tn2:=[(t75_2,t80_2)]
 cond (decide (List.length l6+List.length t114_4≤sizeMax)) (
 let t115_4:Tn2:=(l6++t114_4)
 let t61_7:=(w64 (s9+1))
 some (.inl (t80_2,t61_7,t115_4,l7))) none)))) none) none)) none) (
 some (.inr (.inr l6)))
def j03H [LP] (s8 s9:Int) (l6 l7:Tn2):Option (Int ⊕ Tn2):=
 LP.lp (fun h=>j02g h.1 h.2.1 h.2.2.1 h.2.2.2) (s8,s9,l6,l7)
theorem j07M (s8 s9:Int) (l6 l7:Tn2):j03H s8 s9 l6 l7=lpK (j02g s8 s9 l6 l7) (fun h=>j03H h.1 h.2.1 h.2.2.1 h.2.2.2):=j004 _ _
def j017 [LP] (a0_z:Tn52):Option (Tn2×Int):=
 (r04_in a0_z.2.1 (-64800) 64800).bind fun r13=>
 cond (!r13) (
 some (([]:Tn2),1)) (
 let t17:=(Int.ofNat (List.length a0_z.2.2))
 cond (decide (t17>16)) (
 some (([]:Tn2),5)) (
 (j03G 0 0 a0_z.1 a0_z.2.1 a0_z.2.2).bind fun q0=>
 sumC q0 (fun a=>
 some (([]:Tn2),a)) (fun b=>
 cond (decide (b.1>640)) (
 some (([]:Tn2),5)) (
 (j06V b.2.2.2).bind fun r53=>
 (j03H b.2.2.1 0 ([]:Tn2) r53).bind fun q2=>
 sumC q2 (fun a_1=>
 some (([]:Tn2),a_1)) (fun b_1=>
 some (b_1,0))))))
def j06j [LP] (a0_z:Tn52):Option (Int):=
 (j017 (a0_z.1,(a0_z.2.1,a0_z.2.2))).bind fun r7=>
 some r7.2
def j03b (s3:Bool) (s4:Int) (b1:ByteArray) (b1_1:Int) (b1_2:Tn42):Option ((Bool×Int×ByteArray×Int×Tn42) ⊕ (Bool)):=
 let t12_1:=(Int.ofNat (List.length b1_2))
 cond (decide (s4<t12_1)) (
 cond ((inR s4 (List.length b1_2)) || !s3) (
 let t21_1:=(List.getD b1_2 (Int.toNat s4) (0,(0,(0,(0,(0,(0,0)))))))
 let t24_1:=(Int.tmod t21_1.2.2.2.2.2.2 60)
 let t15_1:=(w64 (s4+1))
 some (.inl ((cond s3 (t24_1==0) false),t15_1,b1,b1_1,b1_2))) none) (
 some (.inr s3))
def j06k [LP] (s3:Bool) (s4:Int) (b1:ByteArray) (b1_1:Int) (b1_2:Tn42):Option (Bool):=
 LP.lp (fun h=>j03b h.1 h.2.1 h.2.2.1 h.2.2.2.1 h.2.2.2.2) (s3,s4,b1,b1_1,b1_2)
theorem j0b7 (s3:Bool) (s4:Int) (b1:ByteArray) (b1_1:Int) (b1_2:Tn42):j06k s3 s4 b1 b1_1 b1_2=lpK (j03b s3 s4 b1 b1_1 b1_2) (fun h=>j06k h.1 h.2.1 h.2.2.1 h.2.2.2.1 h.2.2.2.2):=j004 _ _
def j0ae [LP] (a0_z:Tn52):Option (Bool):=
 let t7:=(Int.tmod a0_z.2.1 60)
 (j06k (t7==0) 0 a0_z.1 a0_z.2.1 a0_z.2.2).bind fun q0=>
 some q0
def j04b [LP] (s4:Int) (b1:Tn54) (b1_1:Tn48) (b1_2:Tn26) (b1_3:Tn65) (l3:(List ByteArray)):Option ((Int×Tn54×Tn48×Tn26×Tn65×(List ByteArray)) ⊕ (Int ⊕ Unit)):=
 let t9_2:=(Int.ofNat (List.length b1))
 cond (decide (s4<t9_2)) (
 cond (inR s4 (List.length b1)) (
 let t17_2:=(List.getD b1 (Int.toNat s4) (ByteArray.empty,(0,([]:Tn42))))
 cond (decide (List.length l3+List.length [t17_2.1]≤sizeMax)) (
 let t21_2:(List ByteArray):=(l3++[t17_2.1])
 (j0aw t21_2 s4).bind fun r24_2=>
 cond (r24_2 != 0) (
 some (.inr (.inl r24_2))) (
 cond (inR s4 (List.length b1)) (
 let t31_2:=(List.getD b1 (Int.toNat s4) (ByteArray.empty,(0,([]:Tn42))))
 (j06j (t31_2.1,(t31_2.2.1,t31_2.2.2))).bind fun r33_2=>
 cond ((inR s4 (List.length b1)) || !(!(r33_2 != 0))) (
 let t39_2:=(List.getD b1 (Int.toNat s4) (ByteArray.empty,(0,([]:Tn42))))
 cond (r33_2 != 0) (
 some (.inr (.inl 8))) (
 (j0ae (t39_2.1,(t39_2.2.1,t39_2.2.2))).bind fun r41_2=>
 cond (!r41_2) (
 some (.inr (.inl 8))) (
 let t12_2:=(w64 (s4+1))
 some (.inl (t12_2,b1,b1_1,b1_2,b1_3,t21_2))))) none) none)) none) none) (
 some (.inr (.inr ())))
def j08s [LP] (s4:Int) (b1:Tn54) (b1_1:Tn48) (b1_2:Tn26) (b1_3:Tn65) (l3:(List ByteArray)):Option (Int ⊕ Unit):=
 LP.lp (fun h=>j04b h.1 h.2.1 h.2.2.1 h.2.2.2.1 h.2.2.2.2.1 h.2.2.2.2.2) (s4,b1,b1_1,b1_2,b1_3,l3)
theorem j0cJ (s4:Int) (b1:Tn54) (b1_1:Tn48) (b1_2:Tn26) (b1_3:Tn65) (l3:(List ByteArray)):j08s s4 b1 b1_1 b1_2 b1_3 l3=lpK (j04b s4 b1 b1_1 b1_2 b1_3 l3) (fun h=>j08s h.1 h.2.1 h.2.2.1 h.2.2.2.1 h.2.2.2.2.1 h.2.2.2.2.2):=j004 _ _
def j0hQ [LP] (a0_c:Tn71):Option (Int):=
 (j08s 0 a0_c.1 a0_c.2.1 a0_c.2.2.1 a0_c.2.2.2 ([]:(List ByteArray))).bind fun q0=>
 sumC q0 (fun a=>
 some a) (fun b=>
 some 0)
def r08_in (a0_n a1_lo a2_hi:Int):Option (Bool):=
 some (cond (decide (a0_n≥a1_lo)) (decide (a0_n≤a2_hi)) false)
def j04c (s0:Tn2) (s3:Int):Option ((Tn2×Int) ⊕ (Int ⊕ Unit)):=
 let t9_1:=(Int.ofNat (List.length s0))
 cond (decide (s3<t9_1)) (
 cond (inR s3 (List.length s0)) (
 let t15_1:=(List.getD s0 (Int.toNat s3) (0,0))
 cond (decide (t15_1.1<0)) (
 some (.inr (.inl 1))) (
 cond (inR s3 (List.length s0)) (
 let t22_1:=(List.getD s0 (Int.toNat s3) (0,0))
 cond (inR s3 (List.length s0)) (
 let t27_1:=(List.getD s0 (Int.toNat s3) (0,0))
 cond (decide (t22_1.1≥t27_1.2)) (
 some (.inr (.inl 1))) (
 cond (inR s3 (List.length s0)) (
 let t35_1:=(List.getD s0 (Int.toNat s3) (0,0))
 cond (decide (t35_1.2>604800)) (
 some (.inr (.inl 1))) (
 cond (decide (s3>0)) (
 cond (inR s3 (List.length s0)) (
 let t45_1:=(List.getD s0 (Int.toNat s3) (0,0))
 let t50_1:=(w64 (s3-1))
 cond (inR t50_1 (List.length s0)) (
 let t51_1:=(List.getD s0 (Int.toNat t50_1) (0,0))
 cond (decide (t45_1.1<t51_1.2)) (
 some (.inr (.inl 6))) (
 let t12_2:=(w64 (s3+1))
 some (.inl (s0,t12_2)))) none) none) (
 let t12_3:=(w64 (s3+1))
 some (.inl (s0,t12_3))))) none)) none) none)) none) (
 some (.inr (.inr ())))
def j08t [LP] (s0:Tn2) (s3:Int):Option (Int ⊕ Unit):=
 LP.lp (fun h=>j04c h.1 h.2) (s0,s3)
theorem j0cK (s0:Tn2) (s3:Int):j08t s0 s3=lpK (j04c s0 s3) (fun h=>j08t h.1 h.2):=j004 _ _
def j0ct [LP] (a0_l:Tn2):Option (Int):=
 let t5:=(Int.ofNat (List.length a0_l))
 cond (decide (t5>14)) (
 some 5) (
 (j08t a0_l 0).bind fun q0=>
 sumC q0 (fun a=>
 some a) (fun b=>
 some 0))
def j0fJ (a0_n:Int):Option (Bool):=
 (r08_in a0_n 0 604800).bind fun r4=>
 let t7:=(Int.tmod a0_n 3600)
 some (cond r4 (t7==0) false)
def j03I [LP] (s4:Int) (b1:Tn54) (b1_1:Tn48) (b1_2:Tn26) (b1_3:Tn65) (l3:(List ByteArray)):Option ((Int×Tn54×Tn48×Tn26×Tn65×(List ByteArray)) ⊕ (Int ⊕ Unit)):=
 let t10_2:=(Int.ofNat (List.length b1_1))
 cond (decide (s4<t10_2)) (
 cond (inR s4 (List.length b1_1)) (
 let t17_2:=(List.getD b1_1 (Int.toNat s4) (ByteArray.empty,(0,(([]:Tn2),(0,(0,false))))))
 cond (decide (List.length l3+List.length [t17_2.1]≤sizeMax)) (
 let t23_2:(List ByteArray):=(l3++[t17_2.1])
 let t26_1:Bool:=(ByteArray.toList t17_2.1==ByteArray.toList (ByteArray.mk #[110,111,98,111,100,121]))
 cond t26_1 (
 some (.inr (.inl 2))) (
 (j0aw t23_2 s4).bind fun r29_2=>
 cond (r29_2 != 0) (
 some (.inr (.inl r29_2))) (
 let t38_2:=(Int.ofNat (List.length b1))
 let t39_2:=(w64 (t38_2-1))
 (r08_in t17_2.2.1 0 t39_2).bind fun r40_2=>
 cond (!r40_2) (
 some (.inr (.inl 3))) (
 (j0ct t17_2.2.2.1).bind fun r45_2=>
 cond (r45_2 != 0) (
 some (.inr (.inl 8))) (
 (j0fJ t17_2.2.2.2.1).bind fun r50_2=>
 cond (!r50_2) (
 some (.inr (.inl 1))) (
 (j0fJ t17_2.2.2.2.2.1).bind fun r55_2=>
 cond (!r55_2) (
 some (.inr (.inl 1))) (
 let t13_2:=(w64 (s4+1))
 some (.inl (t13_2,b1,b1_1,b1_2,b1_3,t23_2))))))))) none) none) (
 some (.inr (.inr ())))
def j07e [LP] (s4:Int) (b1:Tn54) (b1_1:Tn48) (b1_2:Tn26) (b1_3:Tn65) (l3:(List ByteArray)):Option (Int ⊕ Unit):=
 LP.lp (fun h=>j03I h.1 h.2.1 h.2.2.1 h.2.2.2.1 h.2.2.2.2.1 h.2.2.2.2.2) (s4,b1,b1_1,b1_2,b1_3,l3)
theorem j0bz (s4:Int) (b1:Tn54) (b1_1:Tn48) (b1_2:Tn26) (b1_3:Tn65) (l3:(List ByteArray)):j07e s4 b1 b1_1 b1_2 b1_3 l3=lpK (j03I s4 b1 b1_1 b1_2 b1_3 l3) (fun h=>j07e h.1 h.2.1 h.2.2.1 h.2.2.2.1 h.2.2.2.2.1 h.2.2.2.2.2):=j004 _ _
def j0g6 [LP] (a0_c:Tn71):Option (Int):=
 (j07e 0 a0_c.1 a0_c.2.1 a0_c.2.2.1 a0_c.2.2.2 ([]:(List ByteArray))).bind fun q0=>
 sumC q0 (fun a=>
 some a) (fun b=>
 some 0)
def j0af  : Option (Int):=
 (j0g5 2241).bind fun r1=>
 let t2:=(w64 (r1-1))
 some t2
def j02z (s4 s7:Int) (b1:Tn54) (b1_1:Tn48) (b1_2:Tn26) (b1_3:Tn65) (b5:ByteArray) (b5_1:Int) (b5_2:(List Int)) (l3:(List ByteArray)):Option ((Int×Int×Tn54×Tn48×Tn26×Tn65×ByteArray×Int×(List Int)×(List ByteArray)) ⊕ (Int ⊕ (Int×Tn54×Tn48×Tn26×Tn65×ByteArray×Int×(List Int)×(List ByteArray)))):=
 let t47_3:=(Int.ofNat (List.length b5_2))
 cond (decide (s7<t47_3)) (
 cond (inR s7 (List.length b5_2)) (
 let t54_3:=(List.getD b5_2 (Int.toNat s7) 0)
 (j0af).bind fun r56_3=>
 (r08_in t54_3 0 r56_3).bind fun r57_3=>
 cond (!r57_3) (
 some (.inr (.inl 1))) (
 let t50_3:=(w64 (s7+1))
 some (.inl (s4,t50_3,b1,b1_1,b1_2,b1_3,b5,b5_1,b5_2,l3)))) none) (
 some (.inr (.inr (s4,b1,b1_1,b1_2,b1_3,b5,b5_1,b5_2,l3))))
def j04H [LP] (s4 s7:Int) (b1:Tn54) (b1_1:Tn48) (b1_2:Tn26) (b1_3:Tn65) (b5:ByteArray) (b5_1:Int) (b5_2:(List Int)) (l3:(List ByteArray)):Option (Int ⊕ (Int×Tn54×Tn48×Tn26×Tn65×ByteArray×Int×(List Int)×(List ByteArray))):=
 LP.lp (fun h=>j02z h.1 h.2.1 h.2.2.1 h.2.2.2.1 h.2.2.2.2.1 h.2.2.2.2.2.1 h.2.2.2.2.2.2.1 h.2.2.2.2.2.2.2.1 h.2.2.2.2.2.2.2.2.1 h.2.2.2.2.2.2.2.2.2) (s4,s7,b1,b1_1,b1_2,b1_3,b5,b5_1,b5_2,l3)
theorem j09g (s4 s7:Int) (b1:Tn54) (b1_1:Tn48) (b1_2:Tn26) (b1_3:Tn65) (b5:ByteArray) (b5_1:Int) (b5_2:(List Int)) (l3:(List ByteArray)):j04H s4 s7 b1 b1_1 b1_2 b1_3 b5 b5_1 b5_2 l3=lpK (j02z s4 s7 b1 b1_1 b1_2 b1_3 b5 b5_1 b5_2 l3) (fun h=>j04H h.1 h.2.1 h.2.2.1 h.2.2.2.1 h.2.2.2.2.1 h.2.2.2.2.2.1 h.2.2.2.2.2.2.1 h.2.2.2.2.2.2.2.1 h.2.2.2.2.2.2.2.2.1 h.2.2.2.2.2.2.2.2.2):=j004 _ _
def j03r (s4 s8:Int) (b1:Tn54) (b1_1:Tn48) (b1_2:Tn26) (b1_3:Tn65) (b5:ByteArray) (b5_1:Int) (b5_2:(List Int)) (l3:(List ByteArray)):Option ((Int×Int×Tn54×Tn48×Tn26×Tn65×ByteArray×Int×(List Int)×(List ByteArray)) ⊕ (Int ⊕ (Int×Tn54×Tn48×Tn26×Tn65×(List ByteArray)))):=
 let t62_3:=(Int.ofNat (List.length b5_2))
 cond (decide (s8<t62_3)) (
 cond (inR s8 (List.length b5_2)) (
 let t69_3:=(List.getD b5_2 (Int.toNat s8) 0)
 let t74_3:=(w64 (s8-1))
 cond (inR t74_3 (List.length b5_2)) (
 let t75_3:=(List.getD b5_2 (Int.toNat t74_3) 0)
 cond (decide (t69_3≤t75_3)) (
 some (.inr (.inl 6))) (
 let t65_3:=(w64 (s8+1))
 some (.inl (s4,t65_3,b1,b1_1,b1_2,b1_3,b5,b5_1,b5_2,l3)))) none) none) (
 some (.inr (.inr (s4,b1,b1_1,b1_2,b1_3,l3))))
def j04I [LP] (s4 s8:Int) (b1:Tn54) (b1_1:Tn48) (b1_2:Tn26) (b1_3:Tn65) (b5:ByteArray) (b5_1:Int) (b5_2:(List Int)) (l3:(List ByteArray)):Option (Int ⊕ (Int×Tn54×Tn48×Tn26×Tn65×(List ByteArray))):=
 LP.lp (fun h=>j03r h.1 h.2.1 h.2.2.1 h.2.2.2.1 h.2.2.2.2.1 h.2.2.2.2.2.1 h.2.2.2.2.2.2.1 h.2.2.2.2.2.2.2.1 h.2.2.2.2.2.2.2.2.1 h.2.2.2.2.2.2.2.2.2) (s4,s8,b1,b1_1,b1_2,b1_3,b5,b5_1,b5_2,l3)
theorem j0dz (s4 s8:Int) (b1:Tn54) (b1_1:Tn48) (b1_2:Tn26) (b1_3:Tn65) (b5:ByteArray) (b5_1:Int) (b5_2:(List Int)) (l3:(List ByteArray)):j04I s4 s8 b1 b1_1 b1_2 b1_3 b5 b5_1 b5_2 l3=lpK (j03r s4 s8 b1 b1_1 b1_2 b1_3 b5 b5_1 b5_2 l3) (fun h=>j04I h.1 h.2.1 h.2.2.1 h.2.2.2.1 h.2.2.2.2.1 h.2.2.2.2.2.1 h.2.2.2.2.2.2.1 h.2.2.2.2.2.2.2.1 h.2.2.2.2.2.2.2.2.1 h.2.2.2.2.2.2.2.2.2):=j004 _ _
def j02A [LP] (s4:Int) (b1:Tn54) (b1_1:Tn48) (b1_2:Tn26) (b1_3:Tn65) (l3:(List ByteArray)):Option ((Int×Tn54×Tn48×Tn26×Tn65×(List ByteArray)) ⊕ (Int ⊕ Unit)):=
 let t12_2:=(Int.ofNat (List.length b1_2))
 cond (decide (s4<t12_2)) (
 cond (inR s4 (List.length b1_2)) (
 let t19_2:=(List.getD b1_2 (Int.toNat s4) (ByteArray.empty,(0,([]:(List Int)))))
 cond (decide (List.length l3+List.length [t19_2.1]≤sizeMax)) (
 let t25_2:(List ByteArray):=(l3++[t19_2.1])
 (j0aw t25_2 s4).bind fun r28_2=>
 cond (r28_2 != 0) (
 some (.inr (.inl r28_2))) (
 let t36_2:=(Int.ofNat (List.length b1))
 let t37_2:=(w64 (t36_2-1))
 (r08_in t19_2.2.1 0 t37_2).bind fun r38_2=>
 cond (!r38_2) (
 some (.inr (.inl 3))) (
 let t42_2:=(Int.ofNat (List.length t19_2.2.2))
 cond (decide (t42_2>64)) (
 some (.inr (.inl 5))) (
 (j04H s4 0 b1 b1_1 b1_2 b1_3 t19_2.1 t19_2.2.1 t19_2.2.2 t25_2).bind fun q2_2=>
 sumC q2_2 (fun a_4=>
 some (.inr (.inl a_4))) (fun b_4=>
 (j04I b_4.1 1 b_4.2.1 b_4.2.2.1 b_4.2.2.2.1 b_4.2.2.2.2.1 b_4.2.2.2.2.2.1 b_4.2.2.2.2.2.2.1 b_4.2.2.2.2.2.2.2.1 b_4.2.2.2.2.2.2.2.2).bind fun q4_2=>
 sumC q4_2 (fun a_5=>
 some (.inr (.inl a_5))) (fun b_5=>
 let t15_2:=(w64 (b_5.1+1))
 some (.inl (t15_2,b_5.2.1,b_5.2.2.1,b_5.2.2.2.1,b_5.2.2.2.2.1,b_5.2.2.2.2.2)))))))) none) none) (
 some (.inr (.inr ())))
def j04J [LP] (s4:Int) (b1:Tn54) (b1_1:Tn48) (b1_2:Tn26) (b1_3:Tn65) (l3:(List ByteArray)):Option (Int ⊕ Unit):=
 LP.lp (fun h=>j02A h.1 h.2.1 h.2.2.1 h.2.2.2.1 h.2.2.2.2.1 h.2.2.2.2.2) (s4,b1,b1_1,b1_2,b1_3,l3)
theorem j09h (s4:Int) (b1:Tn54) (b1_1:Tn48) (b1_2:Tn26) (b1_3:Tn65) (l3:(List ByteArray)):j04J s4 b1 b1_1 b1_2 b1_3 l3=lpK (j02A s4 b1 b1_1 b1_2 b1_3 l3) (fun h=>j04J h.1 h.2.1 h.2.2.1 h.2.2.2.1 h.2.2.2.2.1 h.2.2.2.2.2):=j004 _ _
def j0bA [LP] (a0_c:Tn71):Option (Int):=
 (j04J 0 a0_c.1 a0_c.2.1 a0_c.2.2.1 a0_c.2.2.2 ([]:(List ByteArray))).bind fun q0=>
 sumC q0 (fun a=>
 some a) (fun b=>
 some 0)
def j04d (s5:Int) (b2:Tn54) (b2_1:Tn48) (b2_2:Tn26) (b2_3:Tn65) (b3:ByteArray) (b3_1 b3_2 b3_3 b3_4 b3_5:Int) (b3_6:(List Int)) (b3_7:Tn2) (b3_8 b3_9:Int):Option ((Int×Tn54×Tn48×Tn26×Tn65×ByteArray×Int×Int×Int×Int×Int×(List Int)×Tn2×Int×Int) ⊕ (Int ⊕ (Tn54×Tn48×Tn26×Tn65×ByteArray×Int×Int×Int×Int×Int×(List Int)×Tn2×Int×Int))):=
 let t54_1:=(Int.ofNat (List.length b3_6))
 cond (decide (s5<t54_1)) (
 cond (inR s5 (List.length b3_6)) (
 let t61_1:=(List.getD b3_6 (Int.toNat s5) 0)
 let t65_1:=(Int.ofNat (List.length b2_1))
 let t66_1:=(w64 (t65_1-1))
 (r08_in t61_1 0 t66_1).bind fun r67_1=>
 cond (!r67_1) (
 some (.inr (.inl 3))) (
 let t57_1:=(w64 (s5+1))
 some (.inl (t57_1,b2,b2_1,b2_2,b2_3,b3,b3_1,b3_2,b3_3,b3_4,b3_5,b3_6,b3_7,b3_8,b3_9)))) none) (
 some (.inr (.inr (b2,b2_1,b2_2,b2_3,b3,b3_1,b3_2,b3_3,b3_4,b3_5,b3_6,b3_7,b3_8,b3_9))))
def j08u [LP] (s5:Int) (b2:Tn54) (b2_1:Tn48) (b2_2:Tn26) (b2_3:Tn65) (b3:ByteArray) (b3_1 b3_2 b3_3 b3_4 b3_5:Int) (b3_6:(List Int)) (b3_7:Tn2) (b3_8 b3_9:Int):Option (Int ⊕ (Tn54×Tn48×Tn26×Tn65×ByteArray×Int×Int×Int×Int×Int×(List Int)×Tn2×Int×Int)):=
 LP.lp (fun h=>j04d h.1 h.2.1 h.2.2.1 h.2.2.2.1 h.2.2.2.2.1 h.2.2.2.2.2.1 h.2.2.2.2.2.2.1 h.2.2.2.2.2.2.2.1 h.2.2.2.2.2.2.2.2.1 h.2.2.2.2.2.2.2.2.2.1 h.2.2.2.2.2.2.2.2.2.2.1 h.2.2.2.2.2.2.2.2.2.2.2.1 h.2.2.2.2.2.2.2.2.2.2.2.2.1 h.2.2.2.2.2.2.2.2.2.2.2.2.2.1 h.2.2.2.2.2.2.2.2.2.2.2.2.2.2) (s5,b2,b2_1,b2_2,b2_3,b3,b3_1,b3_2,b3_3,b3_4,b3_5,b3_6,b3_7,b3_8,b3_9)
theorem j0cL (s5:Int) (b2:Tn54) (b2_1:Tn48) (b2_2:Tn26) (b2_3:Tn65) (b3:ByteArray) (b3_1 b3_2 b3_3 b3_4 b3_5:Int) (b3_6:(List Int)) (b3_7:Tn2) (b3_8 b3_9:Int):j08u s5 b2 b2_1 b2_2 b2_3 b3 b3_1 b3_2 b3_3 b3_4 b3_5 b3_6 b3_7 b3_8 b3_9=lpK (j04d s5 b2 b2_1 b2_2 b2_3 b3 b3_1 b3_2 b3_3 b3_4 b3_5 b3_6 b3_7 b3_8 b3_9) (fun h=>j08u h.1 h.2.1 h.2.2.1 h.2.2.2.1 h.2.2.2.2.1 h.2.2.2.2.2.1 h.2.2.2.2.2.2.1 h.2.2.2.2.2.2.2.1 h.2.2.2.2.2.2.2.2.1 h.2.2.2.2.2.2.2.2.2.1 h.2.2.2.2.2.2.2.2.2.2.1 h.2.2.2.2.2.2.2.2.2.2.2.1 h.2.2.2.2.2.2.2.2.2.2.2.2.1 h.2.2.2.2.2.2.2.2.2.2.2.2.2.1 h.2.2.2.2.2.2.2.2.2.2.2.2.2.2):=j004 _ _
def j0dA [LP] (a0_c:Tn71) (a1_l:Tn59):Option (Int):=
 let t11:=(Int.ofNat (List.length a0_c.1))
 let t12:=(w64 (t11-1))
 (r08_in a1_l.2.1 0 t12).bind fun r13=>
 cond (!r13) (
 some 3) (
 (j0af).bind fun r19=>
 (r08_in a1_l.2.2.1.1 1 r19).bind fun r20=>
 cond (!r20) (
 some 1) (
 (r08_in a1_l.2.2.1.2 0 86399).bind fun r26=>
 cond (!r26) (
 some 1) (
 (r08_in a1_l.2.2.2.1 0 2).bind fun r32=>
 cond (!r32) (
 some 1) (
 (r08_in a1_l.2.2.2.2.1 1 400).bind fun r38=>
 cond (!r38) (
 some 1) (
 let t44:=(Int.ofNat (List.length a1_l.2.2.2.2.2.1))
 cond (t44==0) (
 some 7) (
 let t49:=(Int.ofNat (List.length a1_l.2.2.2.2.2.1))
 cond (decide (t49>12)) (
 some 5) (
 (j08u 0 a0_c.1 a0_c.2.1 a0_c.2.2.1 a0_c.2.2.2 a1_l.1 a1_l.2.1 a1_l.2.2.1.1 a1_l.2.2.1.2 a1_l.2.2.2.1 a1_l.2.2.2.2.1 a1_l.2.2.2.2.2.1 a1_l.2.2.2.2.2.2.1 a1_l.2.2.2.2.2.2.2.1 a1_l.2.2.2.2.2.2.2.2).bind fun q1=>
 sumC q1 (fun a=>
 some a) (fun b=>
 (j0ct b.2.2.2.2.2.2.2.2.2.2.2.1).bind fun r72=>
 cond (r72 != 0) (
 some 8) (
 (r08_in b.2.2.2.2.2.2.2.2.2.2.2.2.2 0 2).bind fun r77=>
 cond (!r77) (
 some 1) (
 let t88:=(Int.ofNat (List.length b.2.2.1))
 let t89:=(w64 (t88-1))
 cond (b.2.2.2.2.2.2.2.2.2.2.2.2.2 != 0) (
 (r08_in b.2.2.2.2.2.2.2.2.2.2.2.2.1 0 t89).bind fun r90=>
 cond (!r90) (
 some 3) (
 let t101:Bool:=(cond (b.2.2.2.2.2.2.2.2.2.2.2.2.2==0) (b.2.2.2.2.2.2.2.2.2.2.2.2.1 != 0) false)
 cond t101 (
 some 1) (
 some 0))) (
 let t101_1:Bool:=(cond (b.2.2.2.2.2.2.2.2.2.2.2.2.2==0) (b.2.2.2.2.2.2.2.2.2.2.2.2.1 != 0) false)
 cond t101_1 (
 some 1) (
 some 0))))))))))))
def j0g7 (a0_c:Tn71) (a1_x:Tn24):Option (Int):=
 let t8:=(Int.ofNat (List.length a0_c.2.1))
 (r08_in a1_x.1 0 2).bind fun r12=>
 cond (!r12) (
 some 1) (
 let t18:=(w64 (t8-1))
 (r08_in a1_x.2.1 0 t18).bind fun r19=>
 let t39:=(w64 (t8-1))
 cond (cond (!r19) (cond (a1_x.1 != 1) true (a1_x.2.1 != (-1))) false) (
 cond ((!(a1_x.1==2)) || !(!true)) (
 some 3) none) (
 cond (a1_x.1==2) (
 (r08_in a1_x.2.2.1 0 t39).bind fun r40=>
 cond (!r40) (
 some 3) (
 cond (cond (a1_x.1 != 2) (a1_x.2.2.1 != 0) false) (
 some 1) (
 cond (cond (a1_x.1==2) (a1_x.2.1==a1_x.2.2.1) false) (
 some 4) (
 cond (decide (a1_x.2.2.2.1<0)) (
 some 1) (
 cond (decide (a1_x.2.2.2.2<0)) (
 some 1) (
 let t76:=(w64 (Int.tdiv a1_x.2.2.2.2 86400))
 (j0af).bind fun r77=>
 cond (decide (t76>r77)) (
 some 1) (
 cond (decide (a1_x.2.2.2.1≥a1_x.2.2.2.2)) (
 some 6) (
 some 0)))))))) (
 cond (cond (a1_x.1 != 2) (a1_x.2.2.1 != 0) false) (
 some 1) (
 cond (cond (a1_x.1==2) (a1_x.2.1==a1_x.2.2.1) false) (
 some 4) (
 cond (decide (a1_x.2.2.2.1<0)) (
 some 1) (
 cond (decide (a1_x.2.2.2.2<0)) (
 some 1) (
 let t76_1:=(w64 (Int.tdiv a1_x.2.2.2.2 86400))
 (j0af).bind fun r77_1=>
 cond (decide (t76_1>r77_1)) (
 some 1) (
 cond (decide (a1_x.2.2.2.1≥a1_x.2.2.2.2)) (
 some 6) (
 some 0)))))))))
def j02B [LP] (s4 s8:Int) (b1:Tn54) (b1_1:Tn48) (b1_2:Tn26) (b1_3:Tn65) (b5:ByteArray) (b5_1:Tn60) (b5_2:Tn29) (l3 l7:(List ByteArray)):Option ((Int×Int×Tn54×Tn48×Tn26×Tn65×ByteArray×Tn60×Tn29×(List ByteArray)×(List ByteArray)) ⊕ (Int ⊕ (Int×Tn54×Tn48×Tn26×Tn65×ByteArray×Tn60×Tn29×(List ByteArray)))):=
 let t49_5:=(Int.ofNat (List.length b5_1))
 cond (decide (s8<t49_5)) (
 cond (inR s8 (List.length b5_1)) (
 let t57_5:=(List.getD b5_1 (Int.toNat s8) (ByteArray.empty,(0,((0,0),(0,(0,(([]:(List Int)),(([]:Tn2),(0,0)))))))))
 cond (decide (List.length l7+List.length [t57_5.1]≤sizeMax)) (
 let t61_5:(List ByteArray):=(l7++[t57_5.1])
 (j0aw t61_5 s8).bind fun r64_5=>
 cond (r64_5 != 0) (
 some (.inr (.inl r64_5))) (
 cond (inR s8 (List.length b5_1)) (
 let t72_5:=(List.getD b5_1 (Int.toNat s8) (ByteArray.empty,(0,((0,0),(0,(0,(([]:(List Int)),(([]:Tn2),(0,0)))))))))
 (j0dA (b1,(b1_1,(b1_2,b1_3))) (t72_5.1,(t72_5.2.1,((t72_5.2.2.1.1,t72_5.2.2.1.2),(t72_5.2.2.2.1,(t72_5.2.2.2.2.1,(t72_5.2.2.2.2.2.1,(t72_5.2.2.2.2.2.2.1,(t72_5.2.2.2.2.2.2.2.1,t72_5.2.2.2.2.2.2.2.2))))))))).bind fun r74_5=>
 cond (r74_5 != 0) (
 some (.inr (.inl r74_5))) (
 let t52_5:=(w64 (s8+1))
 some (.inl (s4,t52_5,b1,b1_1,b1_2,b1_3,b5,b5_1,b5_2,l3,t61_5)))) none)) none) none) (
 some (.inr (.inr (s4,b1,b1_1,b1_2,b1_3,b5,b5_1,b5_2,l3))))
def j04K [LP] (s4 s8:Int) (b1:Tn54) (b1_1:Tn48) (b1_2:Tn26) (b1_3:Tn65) (b5:ByteArray) (b5_1:Tn60) (b5_2:Tn29) (l3 l7:(List ByteArray)):Option (Int ⊕ (Int×Tn54×Tn48×Tn26×Tn65×ByteArray×Tn60×Tn29×(List ByteArray))):=
 LP.lp (fun h=>j02B h.1 h.2.1 h.2.2.1 h.2.2.2.1 h.2.2.2.2.1 h.2.2.2.2.2.1 h.2.2.2.2.2.2.1 h.2.2.2.2.2.2.2.1 h.2.2.2.2.2.2.2.2.1 h.2.2.2.2.2.2.2.2.2.1 h.2.2.2.2.2.2.2.2.2.2) (s4,s8,b1,b1_1,b1_2,b1_3,b5,b5_1,b5_2,l3,l7)
theorem j09i (s4 s8:Int) (b1:Tn54) (b1_1:Tn48) (b1_2:Tn26) (b1_3:Tn65) (b5:ByteArray) (b5_1:Tn60) (b5_2:Tn29) (l3 l7:(List ByteArray)):j04K s4 s8 b1 b1_1 b1_2 b1_3 b5 b5_1 b5_2 l3 l7=lpK (j02B s4 s8 b1 b1_1 b1_2 b1_3 b5 b5_1 b5_2 l3 l7) (fun h=>j04K h.1 h.2.1 h.2.2.1 h.2.2.2.1 h.2.2.2.2.1 h.2.2.2.2.2.1 h.2.2.2.2.2.2.1 h.2.2.2.2.2.2.2.1 h.2.2.2.2.2.2.2.2.1 h.2.2.2.2.2.2.2.2.2.1 h.2.2.2.2.2.2.2.2.2.2):=j004 _ _
def j02C (s4 s11:Int) (b1:Tn54) (b1_1:Tn48) (b1_2:Tn26) (b1_3:Tn65) (b5:ByteArray) (b5_1:Tn60) (b5_2:Tn29) (l3:(List ByteArray)):Option ((Int×Int×Tn54×Tn48×Tn26×Tn65×ByteArray×Tn60×Tn29×(List ByteArray)) ⊕ (Int ⊕ (Int×Tn54×Tn48×Tn26×Tn65×(List ByteArray)))):=
 let t81_3:=(Int.ofNat (List.length b5_2))
 cond (decide (s11<t81_3)) (
 cond (inR s11 (List.length b5_2)) (
 let t89_3:=(List.getD b5_2 (Int.toNat s11) (0,(0,(0,(0,0)))))
 (j0g7 (b1,(b1_1,(b1_2,b1_3))) (t89_3.1,(t89_3.2.1,(t89_3.2.2.1,(t89_3.2.2.2.1,t89_3.2.2.2.2))))).bind fun r91_3=>
 cond (r91_3 != 0) (
 some (.inr (.inl r91_3))) (
 let t84_3:=(w64 (s11+1))
 some (.inl (s4,t84_3,b1,b1_1,b1_2,b1_3,b5,b5_1,b5_2,l3)))) none) (
 some (.inr (.inr (s4,b1,b1_1,b1_2,b1_3,l3))))
def j04L [LP] (s4 s11:Int) (b1:Tn54) (b1_1:Tn48) (b1_2:Tn26) (b1_3:Tn65) (b5:ByteArray) (b5_1:Tn60) (b5_2:Tn29) (l3:(List ByteArray)):Option (Int ⊕ (Int×Tn54×Tn48×Tn26×Tn65×(List ByteArray))):=
 LP.lp (fun h=>j02C h.1 h.2.1 h.2.2.1 h.2.2.2.1 h.2.2.2.2.1 h.2.2.2.2.2.1 h.2.2.2.2.2.2.1 h.2.2.2.2.2.2.2.1 h.2.2.2.2.2.2.2.2.1 h.2.2.2.2.2.2.2.2.2) (s4,s11,b1,b1_1,b1_2,b1_3,b5,b5_1,b5_2,l3)
theorem j09j (s4 s11:Int) (b1:Tn54) (b1_1:Tn48) (b1_2:Tn26) (b1_3:Tn65) (b5:ByteArray) (b5_1:Tn60) (b5_2:Tn29) (l3:(List ByteArray)):j04L s4 s11 b1 b1_1 b1_2 b1_3 b5 b5_1 b5_2 l3=lpK (j02C s4 s11 b1 b1_1 b1_2 b1_3 b5 b5_1 b5_2 l3) (fun h=>j04L h.1 h.2.1 h.2.2.1 h.2.2.2.1 h.2.2.2.2.1 h.2.2.2.2.2.1 h.2.2.2.2.2.2.1 h.2.2.2.2.2.2.2.1 h.2.2.2.2.2.2.2.2.1 h.2.2.2.2.2.2.2.2.2):=j004 _ _
def j02D [LP] (s4:Int) (b1:Tn54) (b1_1:Tn48) (b1_2:Tn26) (b1_3:Tn65) (l3:(List ByteArray)):Option ((Int×Tn54×Tn48×Tn26×Tn65×(List ByteArray)) ⊕ (Int ⊕ Unit)):=
 let t16_2:=(Int.ofNat (List.length b1_3))
 cond (decide (s4<t16_2)) (
 cond (inR s4 (List.length b1_3)) (
 let t23_2:=(List.getD b1_3 (Int.toNat s4) (ByteArray.empty,(([]:Tn60),([]:Tn29))))
 cond (decide (List.length l3+List.length [t23_2.1]≤sizeMax)) (
 let t29_2:(List ByteArray):=(l3++[t23_2.1])
 (j0aw t29_2 s4).bind fun r32_2=>
 cond (r32_2 != 0) (
 some (.inr (.inl r32_2))) (
 let t38_2:=(Int.ofNat (List.length t23_2.2.1))
 let t43_2:=(Int.ofNat (List.length t23_2.2.2))
 cond (cond (decide (t38_2>6)) true (decide (t43_2>48))) (
 some (.inr (.inl 5))) (
 (j04K s4 0 b1 b1_1 b1_2 b1_3 t23_2.1 t23_2.2.1 t23_2.2.2 t29_2 ([]:(List ByteArray))).bind fun q2_2=>
 sumC q2_2 (fun a_4=>
 some (.inr (.inl a_4))) (fun b_4=>
 (j04L b_4.1 0 b_4.2.1 b_4.2.2.1 b_4.2.2.2.1 b_4.2.2.2.2.1 b_4.2.2.2.2.2.1 b_4.2.2.2.2.2.2.1 b_4.2.2.2.2.2.2.2.1 b_4.2.2.2.2.2.2.2.2).bind fun q4_2=>
 sumC q4_2 (fun a_5=>
 some (.inr (.inl a_5))) (fun b_5=>
 let t19_2:=(w64 (b_5.1+1))
 some (.inl (t19_2,b_5.2.1,b_5.2.2.1,b_5.2.2.2.1,b_5.2.2.2.2.1,b_5.2.2.2.2.2))))))) none) none) (
 some (.inr (.inr ())))
def j04M [LP] (s4:Int) (b1:Tn54) (b1_1:Tn48) (b1_2:Tn26) (b1_3:Tn65) (l3:(List ByteArray)):Option (Int ⊕ Unit):=
 LP.lp (fun h=>j02D h.1 h.2.1 h.2.2.1 h.2.2.2.1 h.2.2.2.2.1 h.2.2.2.2.2) (s4,b1,b1_1,b1_2,b1_3,l3)
theorem j09k (s4:Int) (b1:Tn54) (b1_1:Tn48) (b1_2:Tn26) (b1_3:Tn65) (l3:(List ByteArray)):j04M s4 b1 b1_1 b1_2 b1_3 l3=lpK (j02D s4 b1 b1_1 b1_2 b1_3 l3) (fun h=>j04M h.1 h.2.1 h.2.2.1 h.2.2.2.1 h.2.2.2.2.1 h.2.2.2.2.2):=j004 _ _
def j0bB [LP] (a0_c:Tn71):Option (Int):=
 (j04M 0 a0_c.1 a0_c.2.1 a0_c.2.2.1 a0_c.2.2.2 ([]:(List ByteArray))).bind fun q0=>
 sumC q0 (fun a=>
 some a) (fun b=>
 some 0)
def j0cu [LP] (a0_c:Tn71):Option (Int):=
 let t8:=(Int.ofNat (List.length a0_c.1))
 let t13:=(Int.ofNat (List.length a0_c.2.1))
 let t19:=(Int.ofNat (List.length a0_c.2.2.1))
 let t21:Bool:=(cond (cond (decide (t8>16)) true (decide (t13>32))) true (decide (t19>8)))
 let t25:=(Int.ofNat (List.length a0_c.2.2.2))
 cond (cond t21 true (decide (t25>12))) (
 some 5) (
 (j0hQ (a0_c.1,(a0_c.2.1,(a0_c.2.2.1,a0_c.2.2.2)))).bind fun r29=>
 cond (r29 != 0) (
 some r29) (
 (j0g6 (a0_c.1,(a0_c.2.1,(a0_c.2.2.1,a0_c.2.2.2)))).bind fun r34=>
 cond (r34 != 0) (
 some r34) (
 (j0bA (a0_c.1,(a0_c.2.1,(a0_c.2.2.1,a0_c.2.2.2)))).bind fun r39=>
 cond (r39 != 0) (
 some r39) (
 (j0bB (a0_c.1,(a0_c.2.1,(a0_c.2.2.1,a0_c.2.2.2)))).bind fun r44=>
 some r44))))
def j0g8 [LP] (a0_c:Tn71) (a1_l:Tn59):Option (Bool):=
 let t8:Tn60:=[(a1_l.1,(a1_l.2.1,((a1_l.2.2.1.1,a1_l.2.2.1.2),(a1_l.2.2.2.1,(a1_l.2.2.2.2.1,(a1_l.2.2.2.2.2.1,(a1_l.2.2.2.2.2.2.1,(a1_l.2.2.2.2.2.2.2.1,a1_l.2.2.2.2.2.2.2.2))))))))]
 let t10:Tn65:=[((ByteArray.mk #[97]),(t8,([]:Tn29)))]
 (j0cu (a0_c.1,(a0_c.2.1,(a0_c.2.2.1,a0_c.2.2.2)))).bind fun r13=>
 cond (r13==0) (
 (j0cu (a0_c.1,(a0_c.2.1,(a0_c.2.2.1,t10)))).bind fun r17=>
 some (r17==0)) (
 some false)
def j0dB [LP] (a0_z:Tn52) (a1_l:Tn59):Option (Int):=
 (j06j (a0_z.1,(a0_z.2.1,a0_z.2.2))).bind fun r6=>
 let t19:Bool:=(cond (cond (r6 != 0) true (decide (a1_l.2.2.1.1<1))) true (decide (a1_l.2.2.1.1>100000)))
 let t31:Bool:=(cond (cond t19 true (decide (a1_l.2.2.1.2<0))) true (decide (a1_l.2.2.1.2≥86400)))
 let t41:Bool:=(cond (cond t31 true (decide (a1_l.2.2.2.1<0))) true (decide (a1_l.2.2.2.1>2)))
 let t51:Bool:=(cond (cond t41 true (decide (a1_l.2.2.2.2.1<1))) true (decide (a1_l.2.2.2.2.1>400)))
 let t55:=(Int.ofNat (List.length a1_l.2.2.2.2.2.1))
 cond (cond t51 true (t55==0)) (
 some 8) (
 some 0)
def j0dC (a0_day:Int):Option (Bool):=
 (r04_in a0_day (-2) 99422).bind fun r4=>
 some r4
def j033 (s8:Int) (b2:ByteArray) (b2_1:Int) (b2_2:Tn42) (b3 b3_1:Int) (l6:Tn2):Option ((Int×ByteArray×Int×Tn42×Int×Int×Tn2) ⊕ ((Int×Int) ⊕ Unit)):=
 let t33_1:=(Int.ofNat (List.length l6))
 cond (decide (s8<t33_1)) (
 cond (decide (s8≥0)) (
 cond (inR s8 (List.length l6)) (
 let t45_1:=(List.getD l6 (Int.toNat s8) (0,0)).2
 cond (inR s8 (List.length l6)) (
 let t50_1:=(List.getD l6 (Int.toNat s8) (0,0)).1
 let t52_2:=(w64 (s8+1))
 let t54_2:=(Int.ofNat (List.length l6))
 cond (decide (t52_2<t54_2)) (
 let t58_2:=(w64 (s8+1))
 cond (inR t58_2 (List.length l6)) (
 let t61_2:=(List.getD l6 (Int.toNat t58_2) (0,0)).1
 let t65_4:=(w64 (b3*86400))
 let t68_4:=(w64 (t65_4+b3_1))
 let t70_4:=(w64 (t68_4-t45_1))
 let t71_4:Int:=(if t70_4>t50_1 then t70_4 else t50_1:Int)
 cond (decide (t71_4<t61_2)) (
 some (.inr (.inl (t71_4,0)))) (
 let t36_4:=(w64 (s8+1))
 some (.inl (t36_4,b2,b2_1,b2_2,b3,b3_1,l6)))) none) (
 let t65_5:=(w64 (b3*86400))
 let t68_5:=(w64 (t65_5+b3_1))
 let t70_5:=(w64 (t68_5-t45_1))
 let t71_5:Int:=(if t70_5>t50_1 then t70_5 else t50_1:Int)
 cond (decide (t71_5<8589934593)) (
 some (.inr (.inl (t71_5,0)))) (
 let t36_5:=(w64 (s8+1))
 some (.inl (t36_5,b2,b2_1,b2_2,b3,b3_1,l6))))) none) none) (
 let t52_3:=(w64 (s8+1))
 let t54_3:=(Int.ofNat (List.length l6))
 cond (decide (t52_3<t54_3)) (
 let t58_3:=(w64 (s8+1))
 cond (inR t58_3 (List.length l6)) (
 let t61_3:=(List.getD l6 (Int.toNat t58_3) (0,0)).1
 let t65_6:=(w64 (b3*86400))
 let t68_6:=(w64 (t65_6+b3_1))
 let t70_6:=(w64 (t68_6-b2_1))
 let t71_6:Int:=(if t70_6>0 then t70_6 else 0:Int)
 cond (decide (t71_6<t61_3)) (
 some (.inr (.inl (t71_6,0)))) (
 let t36_6:=(w64 (s8+1))
 some (.inl (t36_6,b2,b2_1,b2_2,b3,b3_1,l6)))) none) (
 let t65_7:=(w64 (b3*86400))
 let t68_7:=(w64 (t65_7+b3_1))
 let t70_7:=(w64 (t68_7-b2_1))
 let t71_7:Int:=(if t70_7>0 then t70_7 else 0:Int)
 cond (decide (t71_7<8589934593)) (
 some (.inr (.inl (t71_7,0)))) (
 let t36_7:=(w64 (s8+1))
 some (.inl (t36_7,b2,b2_1,b2_2,b3,b3_1,l6)))))) (
 some (.inr (.inr ())))
def j040 [LP] (s8:Int) (b2:ByteArray) (b2_1:Int) (b2_2:Tn42) (b3 b3_1:Int) (l6:Tn2):Option ((Int×Int) ⊕ Unit):=
 LP.lp (fun h=>j033 h.1 h.2.1 h.2.2.1 h.2.2.2.1 h.2.2.2.2.1 h.2.2.2.2.2.1 h.2.2.2.2.2.2) (s8,b2,b2_1,b2_2,b3,b3_1,l6)
theorem j09I (s8:Int) (b2:ByteArray) (b2_1:Int) (b2_2:Tn42) (b3 b3_1:Int) (l6:Tn2):j040 s8 b2 b2_1 b2_2 b3 b3_1 l6=lpK (j033 s8 b2 b2_1 b2_2 b3 b3_1 l6) (fun h=>j040 h.1 h.2.1 h.2.2.1 h.2.2.2.1 h.2.2.2.2.1 h.2.2.2.2.2.1 h.2.2.2.2.2.2):=j004 _ _
def j04w [LP] (a0_z:Tn52) (a1_x:(Int×Int)):Option (Int×Int):=
 (j017 (a0_z.1,(a0_z.2.1,a0_z.2.2))).bind fun r15=>
 cond (r15.2 != 0) (
 some (0,8)) (
 (r04_in a1_x.2 0 86399).bind fun r22=>
 cond (!r22) (
 some (0,1)) (
 cond (decide (a1_x.1<(-2))) (
 some (0,0)) (
 (j0dC a1_x.1).bind fun r29=>
 cond (!r29) (
 some (0,10)) (
 (j040 (-1) a0_z.1 a0_z.2.1 a0_z.2.2 a1_x.1 a1_x.2 r15.1).bind fun q0=>
 sumC q0 (fun a=>
 some (a.1,a.2)) (fun b=>
 some (0,10))))))
def j03J (s1:Tn2) (s2 s7 s8:Int):Option ((Tn2×Int×Int×Int) ⊕ (Int)):=
 let t13_1:=(Int.ofNat (List.length s1))
 cond ((inR s8 (List.length s1)) || !(decide (s8<t13_1))) (
 let t18_1:=(List.getD s1 (Int.toNat s8) (0,0))
 cond (cond (decide (s8<t13_1)) (decide (t18_1.1≤s2)) false) (
 cond (inR s8 (List.length s1)) (
 let t28_1:=(List.getD s1 (Int.toNat s8) (0,0))
 let t25_1:=(w64 (s8+1))
 some (.inl (s1,s2,t28_1.2,t25_1))) none) (
 some (.inr s7))) none
def j07f [LP] (s1:Tn2) (s2 s7 s8:Int):Option (Int):=
 LP.lp (fun h=>j03J h.1 h.2.1 h.2.2.1 h.2.2.2) (s1,s2,s7,s8)
theorem j0bC (s1:Tn2) (s2 s7 s8:Int):j07f s1 s2 s7 s8=lpK (j03J s1 s2 s7 s8) (fun h=>j07f h.1 h.2.1 h.2.2.1 h.2.2.2):=j004 _ _
def j0dD [LP] (a0_z:Tn52) (a1_l:Tn2) (a2_t:Int):Option (Int):=
 (j07f a1_l a2_t a0_z.2.1 0).bind fun q0=>
 some q0
def j08v [LP] (a0_z:Tn52) (a1_t:Int):Option (Int×Int):=
 (j017 (a0_z.1,(a0_z.2.1,a0_z.2.2))).bind fun r10=>
 cond (r10.2 != 0) (
 some (0,8)) (
 (r04_in a1_t 0 8589934592).bind fun r16=>
 cond (!r16) (
 some (0,1)) (
 (j0dD (a0_z.1,(a0_z.2.1,a0_z.2.2)) r10.1 a1_t).bind fun r21=>
 some (r21,0)))
def j0fK (a0_t a1_offset:Int):Option ((Int×Int)):=
 let t8:=(w64 (a0_t+a1_offset))
 let t9:=(w64 (t8+864000))
 let t11:=(w64 (Int.tdiv t9 86400))
 let t12:=(w64 (t11-10))
 let t14:=(Int.tmod t9 86400)
 some (t12,t14)
def j034 [LP] (a0_z:Tn52) (a1_t:Int):Option ((Int×Int)×Int):=
 (j08v (a0_z.1,(a0_z.2.1,a0_z.2.2)) a1_t).bind fun r11=>
 cond (r11.2 != 0) (
 some ((0,0),r11.2)) (
 (j0fK a1_t r11.1).bind fun r20=>
 some ((r20.1,r20.2),0))
def j08w [LP] (a0_z:Tn52) (a1_l:Tn59) (a2_k:Int):Option (Int×Bool):=
 cond (a1_l.2.2.2.1==0) (
 (j04w (a0_z.1,(a0_z.2.1,a0_z.2.2)) (a1_l.2.2.1.1,a1_l.2.2.1.2)).bind fun r21=>
 let t27:=(w64 (a2_k*a1_l.2.2.2.2.1))
 let t28:=(w64 (t27*3600))
 let t31:=(w64 (r21.1+t28))
 let t37:=(w64 (r21.1+t28))
 some (t31,(cond (r21.2==0) (decide (t37≤8589934592)) false))) (
 let t43:=(w64 (a2_k*a1_l.2.2.2.2.1))
 cond (a1_l.2.2.2.1==2) (
 let t48:=(w64 (t43*7))
 let t55:=(w64 (a1_l.2.2.1.1+t48))
 (j04w (a0_z.1,(a0_z.2.1,a0_z.2.2)) (t55,a1_l.2.2.1.2)).bind fun r60=>
 some (r60.1,(r60.2==0))) (
 let t55_1:=(w64 (a1_l.2.2.1.1+t43))
 (j04w (a0_z.1,(a0_z.2.1,a0_z.2.2)) (t55_1,a1_l.2.2.1.2)).bind fun r60_1=>
 some (r60_1.1,(r60_1.2==0))))
def j04e [LP] (s2 s7:Int) (b3:ByteArray) (b3_1:Int) (b3_2:Tn42) (b4:ByteArray) (b4_1 b4_2 b4_3 b4_4 b4_5:Int) (b4_6:(List Int)) (b4_7:Tn2) (b4_8 b4_9:Int):Option ((Int×Int×ByteArray×Int×Tn42×ByteArray×Int×Int×Int×Int×Int×(List Int)×Tn2×Int×Int) ⊕ (Int)):=
 cond (decide (s7≥0)) (
 (j08w (b3,(b3_1,b3_2)) (b4,(b4_1,((b4_2,b4_3),(b4_4,(b4_5,(b4_6,(b4_7,(b4_8,b4_9)))))))) s7).bind fun r71_1=>
 cond (cond r71_1.2 (decide (r71_1.1≤s2)) false) (
 some (.inr s7)) (
 let t66_1:=(w64 (s7-1))
 some (.inl (s2,t66_1,b3,b3_1,b3_2,b4,b4_1,b4_2,b4_3,b4_4,b4_5,b4_6,b4_7,b4_8,b4_9)))) (
 some (.inr s7))
def j05N [LP] (s2 s7:Int) (b3:ByteArray) (b3_1:Int) (b3_2:Tn42) (b4:ByteArray) (b4_1 b4_2 b4_3 b4_4 b4_5:Int) (b4_6:(List Int)) (b4_7:Tn2) (b4_8 b4_9:Int):Option (Int):=
 LP.lp (fun h=>j04e h.1 h.2.1 h.2.2.1 h.2.2.2.1 h.2.2.2.2.1 h.2.2.2.2.2.1 h.2.2.2.2.2.2.1 h.2.2.2.2.2.2.2.1 h.2.2.2.2.2.2.2.2.1 h.2.2.2.2.2.2.2.2.2.1 h.2.2.2.2.2.2.2.2.2.2.1 h.2.2.2.2.2.2.2.2.2.2.2.1 h.2.2.2.2.2.2.2.2.2.2.2.2.1 h.2.2.2.2.2.2.2.2.2.2.2.2.2.1 h.2.2.2.2.2.2.2.2.2.2.2.2.2.2) (s2,s7,b3,b3_1,b3_2,b4,b4_1,b4_2,b4_3,b4_4,b4_5,b4_6,b4_7,b4_8,b4_9)
theorem j0cM (s2 s7:Int) (b3:ByteArray) (b3_1:Int) (b3_2:Tn42) (b4:ByteArray) (b4_1 b4_2 b4_3 b4_4 b4_5:Int) (b4_6:(List Int)) (b4_7:Tn2) (b4_8 b4_9:Int):j05N s2 s7 b3 b3_1 b3_2 b4 b4_1 b4_2 b4_3 b4_4 b4_5 b4_6 b4_7 b4_8 b4_9=lpK (j04e s2 s7 b3 b3_1 b3_2 b4 b4_1 b4_2 b4_3 b4_4 b4_5 b4_6 b4_7 b4_8 b4_9) (fun h=>j05N h.1 h.2.1 h.2.2.1 h.2.2.2.1 h.2.2.2.2.1 h.2.2.2.2.2.1 h.2.2.2.2.2.2.1 h.2.2.2.2.2.2.2.1 h.2.2.2.2.2.2.2.2.1 h.2.2.2.2.2.2.2.2.2.1 h.2.2.2.2.2.2.2.2.2.2.1 h.2.2.2.2.2.2.2.2.2.2.2.1 h.2.2.2.2.2.2.2.2.2.2.2.2.1 h.2.2.2.2.2.2.2.2.2.2.2.2.2.1 h.2.2.2.2.2.2.2.2.2.2.2.2.2.2):=j004 _ _
def j0dE [LP] (a0_z:Tn52) (a1_l:Tn59) (a2_t:Int):Option (Int):=
 cond (a1_l.2.2.2.1==0) (
 (j04w (a0_z.1,(a0_z.2.1,a0_z.2.2)) (a1_l.2.2.1.1,a1_l.2.2.1.2)).bind fun r22=>
 cond (cond (r22.2==0) (decide (r22.1≤a2_t)) false) (
 let t34:=(w64 (a2_t-r22.1))
 let t37:=(w64 (3600*a1_l.2.2.2.2.1))
 cond (!(t37==0)) (
 let t38:=(w64 (Int.tdiv t34 t37))
 some t38) none) (
 some (-1))) (
 (j034 (a0_z.1,(a0_z.2.1,a0_z.2.2)) a2_t).bind fun r43=>
 cond (a1_l.2.2.2.1==2) (
 let t52:=(w64 (a1_l.2.2.2.2.1*7))
 let t55:=(w64 (r43.1.1+2))
 let t59:=(w64 (t55-a1_l.2.2.1.1))
 let t60:Int:=(if 0>t59 then 0 else t59:Int)
 cond (!(t52==0)) (
 let t62:=(w64 (Int.tdiv t60 t52))
 (j05N a2_t t62 a0_z.1 a0_z.2.1 a0_z.2.2 a1_l.1 a1_l.2.1 a1_l.2.2.1.1 a1_l.2.2.1.2 a1_l.2.2.2.1 a1_l.2.2.2.2.1 a1_l.2.2.2.2.2.1 a1_l.2.2.2.2.2.2.1 a1_l.2.2.2.2.2.2.2.1 a1_l.2.2.2.2.2.2.2.2).bind fun q0=>
 some q0) none) (
 let t55_1:=(w64 (r43.1.1+2))
 let t59_1:=(w64 (t55_1-a1_l.2.2.1.1))
 let t60_1:Int:=(if 0>t59_1 then 0 else t59_1:Int)
 cond (!(a1_l.2.2.2.2.1==0)) (
 let t62_1:=(w64 (Int.tdiv t60_1 a1_l.2.2.2.2.1))
 (j05N a2_t t62_1 a0_z.1 a0_z.2.1 a0_z.2.2 a1_l.1 a1_l.2.1 a1_l.2.2.1.1 a1_l.2.2.1.2 a1_l.2.2.2.1 a1_l.2.2.2.2.1 a1_l.2.2.2.2.2.1 a1_l.2.2.2.2.2.2.1 a1_l.2.2.2.2.2.2.2.1 a1_l.2.2.2.2.2.2.2.2).bind fun q0_1=>
 some q0_1) none))
def j0dF [LP] (a0_z:Tn52) (a1_l:Tn59) (a2_t:Int):Option (Int×Int):=
 (j0dB (a0_z.1,(a0_z.2.1,a0_z.2.2)) (a1_l.1,(a1_l.2.1,((a1_l.2.2.1.1,a1_l.2.2.1.2),(a1_l.2.2.2.1,(a1_l.2.2.2.2.1,(a1_l.2.2.2.2.2.1,(a1_l.2.2.2.2.2.2.1,(a1_l.2.2.2.2.2.2.2.1,a1_l.2.2.2.2.2.2.2.2))))))))).bind fun r10=>
 cond (r10 != 0) (
 some (0,8)) (
 cond (cond (decide (a2_t<0)) true (decide (a2_t>8589934592))) (
 some (0,1)) (
 (j0dE (a0_z.1,(a0_z.2.1,a0_z.2.2)) (a1_l.1,(a1_l.2.1,((a1_l.2.2.1.1,a1_l.2.2.1.2),(a1_l.2.2.2.1,(a1_l.2.2.2.2.1,(a1_l.2.2.2.2.2.1,(a1_l.2.2.2.2.2.2.1,(a1_l.2.2.2.2.2.2.2.1,a1_l.2.2.2.2.2.2.2.2)))))))) a2_t).bind fun r21=>
 some (r21,0)))
def j0dG (a0_x:(Int×Int)):Option (Int):=
 (j0cs a0_x.1).bind fun r5=>
 let t6:=(w64 (r5*86400))
 let t9:=(w64 (t6+a0_x.2))
 some t9
def j0ag [LP] (a0_z:Tn52) (a1_t:Int):Option (Int×Int):=
 (j034 (a0_z.1,(a0_z.2.1,a0_z.2.2)) a1_t).bind fun r11=>
 cond (r11.2 != 0) (
 some (0,r11.2)) (
 (j0dG (r11.1.1,r11.1.2)).bind fun r18=>
 some (r18,0))
def j03K (s0:Tn2) (s1 s5:Int):Option ((Tn2×Int×Int) ⊕ (Bool ⊕ Unit)):=
 let t8_1:=(Int.ofNat (List.length s0))
 cond (decide (s5<t8_1)) (
 cond (inR s5 (List.length s0)) (
 let t15_1:=(List.getD s0 (Int.toNat s5) (0,0))
 cond ((inR s5 (List.length s0)) || !(decide (s1≥t15_1.1))) (
 let t23_1:=(List.getD s0 (Int.toNat s5) (0,0))
 cond (cond (decide (s1≥t15_1.1)) (decide (s1<t23_1.2)) false) (
 some (.inr (.inl true))) (
 let t11_1:=(w64 (s5+1))
 some (.inl (s0,s1,t11_1)))) none) none) (
 some (.inr (.inr ())))
def j07g [LP] (s0:Tn2) (s1 s5:Int):Option (Bool ⊕ Unit):=
 LP.lp (fun h=>j03K h.1 h.2.1 h.2.2) (s0,s1,s5)
theorem j0bD (s0:Tn2) (s1 s5:Int):j07g s0 s1 s5=lpK (j03K s0 s1 s5) (fun h=>j07g h.1 h.2.1 h.2.2):=j004 _ _
def j0dH [LP] (a0_l:Tn2) (a1_n:Int):Option (Bool):=
 (j07g a0_l a1_n 0).bind fun q0=>
 sumC q0 (fun a=>
 some a) (fun b=>
 some false)
def r05_In [LP] (a0_z:Tn52) (a1_l:Tn2) (a2_t:Int):Option (Bool):=
 (j0ag (a0_z.1,(a0_z.2.1,a0_z.2.2)) a2_t).bind fun r12=>
 cond (r12.2==0) (
 (j0ct a1_l).bind fun r19=>
 cond (r19==0) (
 (j0dH a1_l r12.1).bind fun r25=>
 some r25) (
 some false)) (
 some false)
def j04N (s9:Int) (s14:Bool) (s15:Int) (b4:ByteArray) (b4_1 b4_2 b4_3 b4_4 b4_5:Int) (b4_6:(List Int)) (b4_7:Tn2) (b4_8 b4_9:Int) (b11:ByteArray) (b11_1:Int) (b11_2:(List Int)) (b12 b12_1:Int):Option ((Int×Bool×Int×ByteArray×Int×Int×Int×Int×Int×(List Int)×Tn2×Int×Int×ByteArray×Int×(List Int)×Int×Int) ⊕ ((Int×Bool×ByteArray×Int×Int×Int×Int×Int×(List Int)×Tn2×Int×Int))):=
 let t73_1:=(Int.ofNat (List.length b11_2))
 cond (decide (s15<t73_1)) (
 cond s14 (
 let t76_2:=(w64 (s15+1))
 some (.inl (s9,true,t76_2,b4,b4_1,b4_2,b4_3,b4_4,b4_5,b4_6,b4_7,b4_8,b4_9,b11,b11_1,b11_2,b12,b12_1))) (
 cond (inR s15 (List.length b11_2)) (
 let t82_1:=(List.getD b11_2 (Int.toNat s15) 0)
 let t76_3:=(w64 (s15+1))
 some (.inl (s9,(t82_1==b12),t76_3,b4,b4_1,b4_2,b4_3,b4_4,b4_5,b4_6,b4_7,b4_8,b4_9,b11,b11_1,b11_2,b12,b12_1))) none)) (
 some (.inr (s9,s14,b4,b4_1,b4_2,b4_3,b4_4,b4_5,b4_6,b4_7,b4_8,b4_9)))
def j06G [LP] (s9:Int) (s14:Bool) (s15:Int) (b4:ByteArray) (b4_1 b4_2 b4_3 b4_4 b4_5:Int) (b4_6:(List Int)) (b4_7:Tn2) (b4_8 b4_9:Int) (b11:ByteArray) (b11_1:Int) (b11_2:(List Int)) (b12 b12_1:Int):Option ((Int×Bool×ByteArray×Int×Int×Int×Int×Int×(List Int)×Tn2×Int×Int)):=
 LP.lp (fun h=>j04N h.1 h.2.1 h.2.2.1 h.2.2.2.1 h.2.2.2.2.1 h.2.2.2.2.2.1 h.2.2.2.2.2.2.1 h.2.2.2.2.2.2.2.1 h.2.2.2.2.2.2.2.2.1 h.2.2.2.2.2.2.2.2.2.1 h.2.2.2.2.2.2.2.2.2.2.1 h.2.2.2.2.2.2.2.2.2.2.2.1 h.2.2.2.2.2.2.2.2.2.2.2.2.1 h.2.2.2.2.2.2.2.2.2.2.2.2.2.1 h.2.2.2.2.2.2.2.2.2.2.2.2.2.2.1 h.2.2.2.2.2.2.2.2.2.2.2.2.2.2.2.1 h.2.2.2.2.2.2.2.2.2.2.2.2.2.2.2.2.1 h.2.2.2.2.2.2.2.2.2.2.2.2.2.2.2.2.2) (s9,s14,s15,b4,b4_1,b4_2,b4_3,b4_4,b4_5,b4_6,b4_7,b4_8,b4_9,b11,b11_1,b11_2,b12,b12_1)
theorem j0dI (s9:Int) (s14:Bool) (s15:Int) (b4:ByteArray) (b4_1 b4_2 b4_3 b4_4 b4_5:Int) (b4_6:(List Int)) (b4_7:Tn2) (b4_8 b4_9:Int) (b11:ByteArray) (b11_1:Int) (b11_2:(List Int)) (b12 b12_1:Int):j06G s9 s14 s15 b4 b4_1 b4_2 b4_3 b4_4 b4_5 b4_6 b4_7 b4_8 b4_9 b11 b11_1 b11_2 b12 b12_1=lpK (j04N s9 s14 s15 b4 b4_1 b4_2 b4_3 b4_4 b4_5 b4_6 b4_7 b4_8 b4_9 b11 b11_1 b11_2 b12 b12_1) (fun h=>j06G h.1 h.2.1 h.2.2.1 h.2.2.2.1 h.2.2.2.2.1 h.2.2.2.2.2.1 h.2.2.2.2.2.2.1 h.2.2.2.2.2.2.2.1 h.2.2.2.2.2.2.2.2.1 h.2.2.2.2.2.2.2.2.2.1 h.2.2.2.2.2.2.2.2.2.2.1 h.2.2.2.2.2.2.2.2.2.2.2.1 h.2.2.2.2.2.2.2.2.2.2.2.2.1 h.2.2.2.2.2.2.2.2.2.2.2.2.2.1 h.2.2.2.2.2.2.2.2.2.2.2.2.2.2.1 h.2.2.2.2.2.2.2.2.2.2.2.2.2.2.2.1 h.2.2.2.2.2.2.2.2.2.2.2.2.2.2.2.2.1 h.2.2.2.2.2.2.2.2.2.2.2.2.2.2.2.2.2):=j004 _ _
def j0cS [LP] (a0_c:Tn71) (a1_l:Tn59) (a2_t:Int):Option (Int×Bool):=
 cond (inR a1_l.2.1 (List.length a0_c.1)) (
 let t20:=(List.getD a0_c.1 (Int.toNat a1_l.2.1) (ByteArray.empty,(0,([]:Tn42))))
 (j0dF (t20.1,(t20.2.1,t20.2.2)) (a1_l.1,(a1_l.2.1,((a1_l.2.2.1.1,a1_l.2.2.1.2),(a1_l.2.2.2.1,(a1_l.2.2.2.2.1,(a1_l.2.2.2.2.2.1,(a1_l.2.2.2.2.2.2.1,(a1_l.2.2.2.2.2.2.2.1,a1_l.2.2.2.2.2.2.2.2)))))))) a2_t).bind fun r26=>
 let t38:=(Int.ofNat (List.length a1_l.2.2.2.2.2.2.1))
 cond (cond (r26.2 != 0) true (decide (r26.1<0))) (
 cond ((!(decide (t38>0))) || !(!true)) (
 some (0,false)) none) (
 cond (decide (t38>0)) (
 (r05_In (t20.1,(t20.2.1,t20.2.2)) a1_l.2.2.2.2.2.2.1 a2_t).bind fun r45=>
 cond (!r45) (
 some (0,false)) (
 cond (a1_l.2.2.2.2.2.2.2.2==0) (
 some (r26.1,true)) (
 cond (inR a1_l.2.2.2.2.2.2.2.1 (List.length a0_c.2.2.1)) (
 let t57:=(List.getD a0_c.2.2.1 (Int.toNat a1_l.2.2.2.2.2.2.2.1) (ByteArray.empty,(0,([]:(List Int)))))
 cond (inR t57.2.1 (List.length a0_c.1)) (
 let t64:=(List.getD a0_c.1 (Int.toNat t57.2.1) (ByteArray.empty,(0,([]:Tn42))))
 (j034 (t64.1,(t64.2.1,t64.2.2)) a2_t).bind fun r67=>
 (j06G r26.1 false 0 a1_l.1 a1_l.2.1 a1_l.2.2.1.1 a1_l.2.2.1.2 a1_l.2.2.2.1 a1_l.2.2.2.2.1 a1_l.2.2.2.2.2.1 a1_l.2.2.2.2.2.2.1 a1_l.2.2.2.2.2.2.2.1 a1_l.2.2.2.2.2.2.2.2 t57.1 t57.2.1 t57.2.2 r67.1.1 r67.1.2).bind fun q0=>
 some (q0.1,(q0.2.1==(q0.2.2.2.2.2.2.2.2.2.2.2==2)))) none) none))) (
 cond (a1_l.2.2.2.2.2.2.2.2==0) (
 some (r26.1,true)) (
 cond (inR a1_l.2.2.2.2.2.2.2.1 (List.length a0_c.2.2.1)) (
 let t57_1:=(List.getD a0_c.2.2.1 (Int.toNat a1_l.2.2.2.2.2.2.2.1) (ByteArray.empty,(0,([]:(List Int)))))
 cond (inR t57_1.2.1 (List.length a0_c.1)) (
 let t64_1:=(List.getD a0_c.1 (Int.toNat t57_1.2.1) (ByteArray.empty,(0,([]:Tn42))))
 (j034 (t64_1.1,(t64_1.2.1,t64_1.2.2)) a2_t).bind fun r67_1=>
 (j06G r26.1 false 0 a1_l.1 a1_l.2.1 a1_l.2.2.1.1 a1_l.2.2.1.2 a1_l.2.2.2.1 a1_l.2.2.2.2.1 a1_l.2.2.2.2.2.1 a1_l.2.2.2.2.2.2.1 a1_l.2.2.2.2.2.2.2.1 a1_l.2.2.2.2.2.2.2.2 t57_1.1 t57_1.2.1 t57_1.2.2 r67_1.1.1 r67_1.1.2).bind fun q0_1=>
 some (q0_1.1,(q0_1.2.1==(q0_1.2.2.2.2.2.2.2.2.2.2.2==2)))) none) none)))) none
def j0hR [LP] (a0_c:Tn71) (a1_l:Tn59) (a2_t:Int):Option (Bool):=
 (j0cS (a0_c.1,(a0_c.2.1,(a0_c.2.2.1,a0_c.2.2.2))) (a1_l.1,(a1_l.2.1,((a1_l.2.2.1.1,a1_l.2.2.1.2),(a1_l.2.2.2.1,(a1_l.2.2.2.2.1,(a1_l.2.2.2.2.2.1,(a1_l.2.2.2.2.2.2.1,(a1_l.2.2.2.2.2.2.2.1,a1_l.2.2.2.2.2.2.2.2)))))))) a2_t).bind fun r13=>
 some r13.2
def r11_On [LP] (a0_c:Tn71) (a1_l:Tn59) (a2_t:Int):Option (Bool):=
 cond (cond (decide (a2_t≥0)) (decide (a2_t≤8589934592)) false) (
 (j0g8 (a0_c.1,(a0_c.2.1,(a0_c.2.2.1,a0_c.2.2.2))) (a1_l.1,(a1_l.2.1,((a1_l.2.2.1.1,a1_l.2.2.1.2),(a1_l.2.2.2.1,(a1_l.2.2.2.2.1,(a1_l.2.2.2.2.2.1,(a1_l.2.2.2.2.2.2.1,(a1_l.2.2.2.2.2.2.2.1,a1_l.2.2.2.2.2.2.2.2))))))))).bind fun r16=>
 cond r16 (
 (j0hR (a0_c.1,(a0_c.2.1,(a0_c.2.2.1,a0_c.2.2.2))) (a1_l.1,(a1_l.2.1,((a1_l.2.2.1.1,a1_l.2.2.1.2),(a1_l.2.2.2.1,(a1_l.2.2.2.2.1,(a1_l.2.2.2.2.2.1,(a1_l.2.2.2.2.2.2.1,(a1_l.2.2.2.2.2.2.2.1,a1_l.2.2.2.2.2.2.2.2)))))))) a2_t).bind fun r22=>
 some r22) (
 some false)) (
 some false)
def r11_Raw [LP] (a0_c:Tn71) (a1_l:Tn59) (a2_t:Int):Option (Int):=
 (j0cS (a0_c.1,(a0_c.2.1,(a0_c.2.2.1,a0_c.2.2.2))) (a1_l.1,(a1_l.2.1,((a1_l.2.2.1.1,a1_l.2.2.1.2),(a1_l.2.2.2.1,(a1_l.2.2.2.2.1,(a1_l.2.2.2.2.2.1,(a1_l.2.2.2.2.2.2.1,(a1_l.2.2.2.2.2.2.2.1,a1_l.2.2.2.2.2.2.2.2)))))))) a2_t).bind fun r13=>
 cond (!r13.2) (
 some (-1)) (
 let t23:=(Int.ofNat (List.length a1_l.2.2.2.2.2.1))
 cond (!(t23==0)) (
 let t24:=(Int.tmod r13.1 t23)
 cond (inR t24 (List.length a1_l.2.2.2.2.2.1)) (
 let t25:=(List.getD a1_l.2.2.2.2.2.1 (Int.toNat t24) 0)
 some t25) none) none)
def j0bE [LP] (a0_c:Tn71) (a1_l:Tn59) (a2_t:Int):Option (Int):=
 (r11_On (a0_c.1,(a0_c.2.1,(a0_c.2.2.1,a0_c.2.2.2))) (a1_l.1,(a1_l.2.1,((a1_l.2.2.1.1,a1_l.2.2.1.2),(a1_l.2.2.2.1,(a1_l.2.2.2.2.1,(a1_l.2.2.2.2.2.1,(a1_l.2.2.2.2.2.2.1,(a1_l.2.2.2.2.2.2.2.1,a1_l.2.2.2.2.2.2.2.2)))))))) a2_t).bind fun r10=>
 cond (!r10) (
 some (-1)) (
 (r11_Raw (a0_c.1,(a0_c.2.1,(a0_c.2.2.1,a0_c.2.2.2))) (a1_l.1,(a1_l.2.1,((a1_l.2.2.1.1,a1_l.2.2.1.2),(a1_l.2.2.2.1,(a1_l.2.2.2.2.1,(a1_l.2.2.2.2.2.1,(a1_l.2.2.2.2.2.2.1,(a1_l.2.2.2.2.2.2.2.1,a1_l.2.2.2.2.2.2.2.2)))))))) a2_t).bind fun r15=>
 some r15)
def j02k [LP] (s5 s6 s7 s8 s9:Int) (s37:Tn60) (s38 s39:Int) (b4:Tn54) (b4_1:Tn48) (b4_2:Tn26) (b4_3:Tn65) (b18:(List Int)) (b18_1:Int):Option ((Int×Int×Int×Int×Int×Tn60×Int×Int×Tn54×Tn48×Tn26×Tn65×(List Int)×Int) ⊕ ((Int×Int×Int×Int×Int×Tn54×Tn48×Tn26×Tn65×(List Int)×Int))):=
 cond (decide (s39<s38)) (
 cond (inR s39 (List.length s37)) (
 let t42_1:=(List.getD s37 (Int.toNat s39) (ByteArray.empty,(0,((0,0),(0,(0,(([]:(List Int)),(([]:Tn2),(0,0)))))))))
 (j0bE (b4,(b4_1,(b4_2,b4_3))) (t42_1.1,(t42_1.2.1,((t42_1.2.2.1.1,t42_1.2.2.1.2),(t42_1.2.2.2.1,(t42_1.2.2.2.2.1,(t42_1.2.2.2.2.2.1,(t42_1.2.2.2.2.2.2.1,(t42_1.2.2.2.2.2.2.2.1,t42_1.2.2.2.2.2.2.2.2)))))))) s7).bind fun r47_1=>
 cond ((inR s6 (List.length b4_3)) || !(decide (r47_1≥0))) (
 let t54_1:=(List.getD b4_3 (Int.toNat s6) (ByteArray.empty,(([]:Tn60),([]:Tn29))))
 cond (decide (r47_1≥0)) (
 (j05m (t54_1.1,(t54_1.2.1,t54_1.2.2)) r47_1 s7).bind fun r58_1=>
 cond (!r58_1) (
 let t63_3:=(w64 (s39+1))
 some (.inl (s5,s6,s7,s39,r47_1,s37,s38,t63_3,b4,b4_1,b4_2,b4_3,b18,b18_1))) (
 let t63_4:=(w64 (s39+1))
 some (.inl (s5,s6,s7,s8,s9,s37,s38,t63_4,b4,b4_1,b4_2,b4_3,b18,b18_1)))) (
 let t63_5:=(w64 (s39+1))
 some (.inl (s5,s6,s7,s8,s9,s37,s38,t63_5,b4,b4_1,b4_2,b4_3,b18,b18_1)))) none) none) (
 some (.inr (s5,s6,s7,s8,s9,b4,b4_1,b4_2,b4_3,b18,b18_1)))
def j04f [LP] (s5 s6 s7 s8 s9:Int) (s37:Tn60) (s38 s39:Int) (b4:Tn54) (b4_1:Tn48) (b4_2:Tn26) (b4_3:Tn65) (b18:(List Int)) (b18_1:Int):Option ((Int×Int×Int×Int×Int×Tn54×Tn48×Tn26×Tn65×(List Int)×Int)):=
 LP.lp (fun h=>j02k h.1 h.2.1 h.2.2.1 h.2.2.2.1 h.2.2.2.2.1 h.2.2.2.2.2.1 h.2.2.2.2.2.2.1 h.2.2.2.2.2.2.2.1 h.2.2.2.2.2.2.2.2.1 h.2.2.2.2.2.2.2.2.2.1 h.2.2.2.2.2.2.2.2.2.2.1 h.2.2.2.2.2.2.2.2.2.2.2.1 h.2.2.2.2.2.2.2.2.2.2.2.2.1 h.2.2.2.2.2.2.2.2.2.2.2.2.2) (s5,s6,s7,s8,s9,s37,s38,s39,b4,b4_1,b4_2,b4_3,b18,b18_1)
theorem j08x (s5 s6 s7 s8 s9:Int) (s37:Tn60) (s38 s39:Int) (b4:Tn54) (b4_1:Tn48) (b4_2:Tn26) (b4_3:Tn65) (b18:(List Int)) (b18_1:Int):j04f s5 s6 s7 s8 s9 s37 s38 s39 b4 b4_1 b4_2 b4_3 b18 b18_1=lpK (j02k s5 s6 s7 s8 s9 s37 s38 s39 b4 b4_1 b4_2 b4_3 b18 b18_1) (fun h=>j04f h.1 h.2.1 h.2.2.1 h.2.2.2.1 h.2.2.2.2.1 h.2.2.2.2.2.1 h.2.2.2.2.2.2.1 h.2.2.2.2.2.2.2.1 h.2.2.2.2.2.2.2.2.1 h.2.2.2.2.2.2.2.2.2.1 h.2.2.2.2.2.2.2.2.2.2.1 h.2.2.2.2.2.2.2.2.2.2.2.1 h.2.2.2.2.2.2.2.2.2.2.2.2.1 h.2.2.2.2.2.2.2.2.2.2.2.2.2):=j004 _ _
def j02l [LP] (s5:Int) (b4:Tn54) (b4_1:Tn48) (b4_2:Tn26) (b4_3:Tn65) (b18:(List Int)) (b18_1:Int):Option ((Int×Tn54×Tn48×Tn26×Tn65×(List Int)×Int) ⊕ (Bool ⊕ Unit)):=
 cond (decide (s5<10)) (
 let t28_1:=(Int.ofNat (List.length b4_3))
 (j002 b18 b18_1 t28_1).bind fun r29_1=>
 (j04a r29_1.2.1 r29_1.2.2).bind fun r31_1=>
 cond (inR r29_1.1 (List.length b4_3)) (
 let t35_1:=(List.getD b4_3 (Int.toNat r29_1.1) (ByteArray.empty,(([]:Tn60),([]:Tn29))))
 let t38_1:=(Int.ofNat (List.length t35_1.2.1))
 (j04f s5 r29_1.1 r31_1.1 (-1) (-1) t35_1.2.1 t38_1 0 b4 b4_1 b4_2 b4_3 r31_1.2.1 r31_1.2.2).bind fun q2_1=>
 (j04Y (q2_1.2.2.2.2.2.1,(q2_1.2.2.2.2.2.2.1,(q2_1.2.2.2.2.2.2.2.1,q2_1.2.2.2.2.2.2.2.2.1))) q2_1.2.1 q2_1.2.2.1).bind fun r67_1=>
 cond (r67_1 != q2_1.2.2.2.1) (
 some (.inr (.inl false))) (
 (j06h (q2_1.2.2.2.2.2.1,(q2_1.2.2.2.2.2.2.1,(q2_1.2.2.2.2.2.2.2.1,q2_1.2.2.2.2.2.2.2.2.1))) q2_1.2.1 q2_1.2.2.1).bind fun r74_1=>
 cond (r74_1 != q2_1.2.2.2.2.1) (
 some (.inr (.inl false))) (
 let t24_1:=(w64 (q2_1.1+1))
 some (.inl (t24_1,q2_1.2.2.2.2.2.1,q2_1.2.2.2.2.2.2.1,q2_1.2.2.2.2.2.2.2.1,q2_1.2.2.2.2.2.2.2.2.1,q2_1.2.2.2.2.2.2.2.2.2.1,q2_1.2.2.2.2.2.2.2.2.2.2))))) none) (
 some (.inr (.inr ())))
def j05D [LP] (s5:Int) (b4:Tn54) (b4_1:Tn48) (b4_2:Tn26) (b4_3:Tn65) (b18:(List Int)) (b18_1:Int):Option (Bool ⊕ Unit):=
 LP.lp (fun h=>j02l h.1 h.2.1 h.2.2.1 h.2.2.2.1 h.2.2.2.2.1 h.2.2.2.2.2.1 h.2.2.2.2.2.2) (s5,b4,b4_1,b4_2,b4_3,b18,b18_1)
theorem j08y (s5:Int) (b4:Tn54) (b4_1:Tn48) (b4_2:Tn26) (b4_3:Tn65) (b18:(List Int)) (b18_1:Int):j05D s5 b4 b4_1 b4_2 b4_3 b18 b18_1=lpK (j02l s5 b4 b4_1 b4_2 b4_3 b18 b18_1) (fun h=>j05D h.1 h.2.1 h.2.2.1 h.2.2.2.1 h.2.2.2.2.1 h.2.2.2.2.2.1 h.2.2.2.2.2.2):=j004 _ _
def j0ax [LP] (a0_t:(List Int)):Option (Bool):=
 (j0g2 a0_t).bind fun r14=>
 cond (!r14) (
 (j08r).bind fun r16=>
 some r16) (
 (j0hN a0_t).bind fun r18=>
 (j06i r18.1 r18.2 2).bind fun r20=>
 (j05D 0 r20.1.1 r20.1.2.1 r20.1.2.2.1 r20.1.2.2.2 r20.2.1 r20.2.2).bind fun q0=>
 sumC q0 (fun a=>
 some a) (fun b=>
 (j08r).bind fun r78=>
 some r78))
end
end Go.Proofs.Pw
