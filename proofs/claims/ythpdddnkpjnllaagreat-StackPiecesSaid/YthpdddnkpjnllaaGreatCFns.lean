/- Plain functions, printed by a program out of the given code. -/
import Derived.Test.YthpdddnkpjnllaaGreatCLS
open Go Go.Lft
set_option linter.unusedVariables false
namespace Go.Proofs.Pw
noncomputable section
abbrev Tn2:Type:=(List (Int×Int))
abbrev Tn3:Type:=(Int×(Int×Int))
abbrev Tn14:Type:=(List Tn3)
abbrev Tn13:Type:=(Int×Tn2)
abbrev Tn19:Type:=(ByteArray×(Int×(List Int)))
abbrev Tn20:Type:=(List Tn13)
abbrev Tn24:Type:=(Int×(Int×Tn3))
abbrev Tn26:Type:=(List Tn19)
abbrev Tn29:Type:=(List Tn24)
abbrev Tn38:Type:=(Int×(Int×Tn24))
abbrev Tn42:Type:=(List Tn38)
abbrev Tn44:Type:=(ByteArray×(Int×(Tn2×(Int×(Int×Bool)))))
abbrev Tn48:Type:=(List Tn44)
abbrev Tn52:Type:=(ByteArray×(Int×Tn42))
abbrev Tn54:Type:=(List Tn52)
abbrev Tn59:Type:=(ByteArray×(Int×((Int×Int)×(Int×(Int×((List Int)×(Tn2×(Int×Int))))))))
abbrev Tn60:Type:=(List Tn59)
abbrev Tn64:Type:=(ByteArray×(Tn60×Tn29))
abbrev Tn65:Type:=(List Tn64)
abbrev Tn71:Type:=(Tn54×(Tn48×(Tn26×Tn65)))
abbrev Tn73:Type:=(Tn71×Tn20)
abbrev unc2 {A0 A1 R:Type} (f:A0→A1→R) (h:A0×A1):R:=f h.1 h.2
abbrev unc3 {A0 A1 A2 R:Type} (f:A0→A1→A2→R) (h:A0×A1×A2):R:=f h.1 h.2.1 h.2.2
abbrev unc5 {A0 A1 A2 A3 A4 R:Type} (f:A0→A1→A2→A3→A4→R) (h:A0×A1×A2×A3×A4):R:=f h.1 h.2.1 h.2.2.1 h.2.2.2.1 h.2.2.2.2
abbrev unc7 {A0 A1 A2 A3 A4 A5 A6 R:Type} (f:A0→A1→A2→A3→A4→A5→A6→R) (h:A0×A1×A2×A3×A4×A5×A6):R:=f h.1 h.2.1 h.2.2.1 h.2.2.2.1 h.2.2.2.2.1 h.2.2.2.2.2.1 h.2.2.2.2.2.2
def j0dA (a0_l:(List Int)):Option (Bool):=
 let t4:=(Int.ofNat (List.length a0_l))
 some (decide (t4≤500))
def j0ci  : Option (Tn54×Tn48×Tn26×Tn65):=
 let t5:Tn54:=[((ByteArray.mk #[122]),(0,([]:Tn42)))]
 let t9:Tn48:=[((ByteArray.mk #[97]),(0,(([]:Tn2),(0,(0,false))))),((ByteArray.mk #[98]),(0,(([]:Tn2),(0,(0,false))))),((ByteArray.mk #[99]),(0,(([]:Tn2),(0,(0,false)))))]
 let t12:(List Int):=[0,1]
 let t15:(List Int):=[2]
 let t17:Tn2:=[(0,86400)]
 let t21:Tn60:=[((ByteArray.mk #[108,111,119]),(0,((4,0),(2,(1,(t12,(([]:Tn2),(0,0)))))))),((ByteArray.mk #[116,111,112]),(0,((4,0),(2,(1,(t15,(t17,(0,0))))))))]
 let t23:Tn65:=[((ByteArray.mk #[115]),(t21,([]:Tn29)))]
 some (t5,t9,([]:Tn26),t23)
def j07E (a0_z:Tn52):Option (ByteArray):=
 some a0_z.1
def j0cj (a0_c:Int):Option (Bool):=
 some (cond (decide (a0_c≥97)) (decide (a0_c≤122)) false)
def j0eH (a0_c:Int):Option (Bool):=
 some (cond (decide (a0_c≥48)) (decide (a0_c≤57)) false)
def j08X (s0:ByteArray) (s19 s20:Int):Option ((ByteArray×Int×Int) ⊕ (Bool ⊕ Unit)):=
 cond (decide (s20<s19)) (
 cond (inR s20 (ByteArray.size s0)) (
 let t25_1:=(strAt s0 s20)
 (j0cj t25_1).bind fun r27_1=>
 cond (!r27_1) (
 (j0eH t25_1).bind fun r31_1=>
 cond (cond (cond (!r31_1) (t25_1 != 95) false) (t25_1 != 45) false) (
 some (.inr (.inl false))) (
 let t42_2:=(w64 (s20+1))
 some (.inl (s0,s19,t42_2)))) (
 let t42_3:=(w64 (s20+1))
 some (.inl (s0,s19,t42_3)))) none) (
 some (.inr (.inr ())))
def j0a8 [LP] (s0:ByteArray) (s19 s20:Int):Option (Bool ⊕ Unit):=
 LP.lp (unc3 (j08X)) (s0,s19,s20)
def j06C [LP] (a0_s:ByteArray):Option (Bool):=
 let t9:=(Int.ofNat (ByteArray.size a0_s))
 let t11:Bool:=(cond (ByteArray.toList a0_s==ByteArray.toList ByteArray.empty) true (decide (t9>24)))
 cond ((inR 0 (ByteArray.size a0_s)) || !(!t11)) (
 let t14:=(strAt a0_s 0)
 cond t11 (
 some false) (
 (j0cj t14).bind fun r15=>
 cond (!r15) (
 some false) (
 let t19:=(Int.ofNat (ByteArray.size a0_s))
 (j0a8 a0_s t19 0).bind fun q0=>
 sumC q0 (fun a=>
 some a) (fun b=>
 some true)))) none
def j033 [LP] (a0_s:ByteArray) (a1_seen:(List (ByteArray×Bool))):Option (Int×(List (ByteArray×Bool))):=
 (j06C a0_s).bind fun r6=>
 cond (!r6) (
 some (2,a1_seen)) (
 cond (mapGet false a1_seen a0_s) (
 some (4,a1_seen)) (
 let m2:(List (ByteArray×Bool)):=(mapSet a1_seen a0_s true)
 some (0,m2)))
def zone_in (a0_n a1_lo a2_hi:Int):Option (Bool):=
 some (cond (decide (a0_n≥a1_lo)) (decide (a0_n≤a2_hi)) false)
def j0br (a0_r:Tn38):Option (Int):=
 (zone_in a0_r.1 1970 2240).bind fun r5=>
 cond (!r5) (
 some 1) (
 (zone_in a0_r.2.1 a0_r.1 2240).bind fun r12=>
 cond (!r12) (
 some 1) (
 (zone_in a0_r.2.2.1 1 12).bind fun r18=>
 cond (!r18) (
 some 1) (
 (zone_in a0_r.2.2.2.1 1 5).bind fun r24=>
 cond (!r24) (
 some 1) (
 (zone_in a0_r.2.2.2.2.1 0 6).bind fun r30=>
 cond (!r30) (
 some 1) (
 (zone_in a0_r.2.2.2.2.2.1 0 86399).bind fun r36=>
 cond (!r36) (
 some 1) (
 (zone_in a0_r.2.2.2.2.2.2 (-64800) 64800).bind fun r42=>
 cond (!r42) (
 some 1) (
 some 0)))))))
def j0dB (a0_year:Int):Option (Bool):=
 let t4:=(Int.tmod a0_year 4)
 let t8:=(Int.tmod a0_year 100)
 let t12:=(Int.tmod a0_year 400)
 some (cond (t4==0) (cond (t8 != 0) true (t12==0)) false)
def j05Z (a0_year a1_month:Int):Option (Int):=
 cond (cond (decide (a1_month<1)) true (decide (a1_month>12))) (
 some 0) (
 let t12:(List Int):=[31,28,31,30,31,30,31,31,30,31,30,31]
 let t5:(List Int):=(List.replicate 12 0)
 cond (a1_month==2) (
 (j0dB a0_year).bind fun r18=>
 cond r18 (
 some 29) (
 let t21:=(w64 (a1_month-1))
 cond (inR t21 12) (
 let t23:=(List.getD t12 (Int.toNat t21) 0)
 some t23) none)) (
 let t21_1:=(w64 (a1_month-1))
 cond (inR t21_1 12) (
 let t23_1:=(List.getD t12 (Int.toNat t21_1) 0)
 some t23_1) none))
def j08Y (a0_d:Tn3):Option (Bool):=
 cond (decide (a0_d.1≥1970)) (
 cond (decide (a0_d.1≤2240)) (
 cond (decide (a0_d.2.2≥1)) (
 (j05Z a0_d.1 a0_d.2.1).bind fun r23=>
 some (decide (a0_d.2.2≤r23))) (
 some false)) (
 some false)) (
 some false)
def j06n (a0_a a1_b:Int):Option (Int):=
 cond (!(a1_b==0)) (
 let t8:=(w64 (Int.tdiv a0_a a1_b))
 cond (!(a1_b==0)) (
 let t11:=(Int.tmod a0_a a1_b)
 cond (decide (t11<0)) (
 let t14:=(w64 (t8-1))
 some t14) (
 some t8)) none) none
def j04l (a0_year:Int):Option (Int):=
 let t5:=(w64 (a0_year-1))
 let t7:=(w64 (a0_year-1970))
 let t8:=(w64 (365*t7))
 (j06n t5 4).bind fun r10=>
 let t11:=(w64 (t8+r10))
 (j06n t5 100).bind fun r13=>
 let t14:=(w64 (t11-r13))
 (j06n t5 400).bind fun r16=>
 let t17:=(w64 (t14+r16))
 let t18:=(w64 (t17-477))
 some t18
def j034 (s3 s4 b1 b1_1 b1_2:Int):Option ((Int×Int×Int×Int×Int) ⊕ (Int)):=
 cond (decide (s4<b1_1)) (
 (j05Z b1 s4).bind fun r22_1=>
 let t23_1:=(w64 (s3+r22_1))
 let t17_1:=(w64 (s4+1))
 some (.inl (t23_1,t17_1,b1,b1_1,b1_2))) (
 some (.inr s3))
def j04m [LP] (s3 s4 b1 b1_1 b1_2:Int):Option (Int):=
 LP.lp (fun h=>j034 h.1 h.2.1 h.2.2.1 h.2.2.2.1 h.2.2.2.2) (s3,s4,b1,b1_1,b1_2)
theorem j08Z (s3 s4 b1 b1_1 b1_2:Int):j04m s3 s4 b1 b1_1 b1_2=lpK (j034 s3 s4 b1 b1_1 b1_2) (fun h=>j04m h.1 h.2.1 h.2.2.1 h.2.2.2.1 h.2.2.2.2):=j005 _ _
def j05x [LP] (a0_d:Tn3):Option (Int):=
 (j04l a0_d.1).bind fun r7=>
 let t10:=(w64 (r7+a0_d.2.2))
 let t11:=(w64 (t10-1))
 (j04m t11 1 a0_d.1 a0_d.2.1 a0_d.2.2).bind fun q0=>
 some q0
def j05R (a0_day:Int):Option (Int):=
 let t4:=(Int.tmod a0_day 7)
 let t5:=(w64 (t4+10))
 let t6:=(Int.tmod t5 7)
 some t6
def j09j [LP] (a0_year a1_month a2_week a3_weekday:Int):Option (Int×Int):=
 (j08Y (a0_year,(a1_month,1))).bind fun r17=>
 let t26:Bool:=(cond (cond (!r17) true (decide (a2_week<1))) true (decide (a2_week>5)))
 let t34:Bool:=(cond (cond t26 true (decide (a3_weekday<0))) true (decide (a3_weekday>6)))
 cond t34 (
 some (0,1)) (
 (j05x (a0_year,(a1_month,1))).bind fun r36=>
 (j05R r36).bind fun r40=>
 let t41:=(w64 (a3_weekday-r40))
 let t42:=(w64 (t41+7))
 let t43:=(Int.tmod t42 7)
 let t44:=(w64 (r36+t43))
 let t46:=(w64 (a2_week-1))
 let t47:=(w64 (7*t46))
 let t48:=(w64 (t44+t47))
 (j05Z a0_year a1_month).bind fun r53=>
 let t54:=(w64 (r36+r53))
 cond (decide (t48≥t54)) (
 let t57:=(w64 (t48-7))
 some (t57,0)) (
 some (t48,0)))
def j060 (a0_a a1_b:(Int×Int)):Option (Int):=
 let t9:=(w64 (a0_a.1-a1_b.1))
 some t9
def j00e (s1 s2 s8 s9:Int) (b0:Tn2):Option ((Int×Int×Int×Int×Tn2) ⊕ ((Int×Int×Int×Tn2))):=
 cond (decide (s9>s1)) (
 cond (inR s9 (List.length b0)) (
 let t26_2:=(List.getD b0 (Int.toNat s9) (0,0)).1
 let t26_3:=(List.getD b0 (Int.toNat s9) (0,0)).2
 let t29_1:=(w64 (s9-1))
 cond (inR t29_1 (List.length b0)) (
 let t31_2:=(List.getD b0 (Int.toNat t29_1) (0,0)).1
 let t31_3:=(List.getD b0 (Int.toNat t29_1) (0,0)).2
 (j060 (t26_2,t26_3) (t31_2,t31_3)).bind fun r32_1=>
 cond (decide (r32_1<0)) (
 let t41_1:=(w64 (s9-1))
 let t44_1:=(w64 (s9-1))
 cond (inR t44_1 (List.length b0)) (
 let t46_2:=(List.getD b0 (Int.toNat t44_1) (0,0)).1
 let t46_3:=(List.getD b0 (Int.toNat t44_1) (0,0)).2
 cond (inR s9 (List.length b0)) (
 let t50_2:=(List.getD b0 (Int.toNat s9) (0,0)).1
 let t50_3:=(List.getD b0 (Int.toNat s9) (0,0)).2
 cond (inR s9 (List.length b0)) (
 let m15_1:Tn2:=(List.set b0 (Int.toNat s9) (t46_2,t46_3))
 cond (inR t41_1 (List.length m15_1)) (
 let m17_1:Tn2:=(List.set m15_1 (Int.toNat t41_1) (t50_2,t50_3))
 let t36_1:=(w64 (s9-1))
 some (.inl (s1,s2,s8,t36_1,m17_1))) none) none) none) none) (
 some (.inr (s1,s2,s8,b0)))) none) none) (
 some (.inr (s1,s2,s8,b0)))
def j00a [LP] (s1 s2 s8 s9:Int) (b0:Tn2):Option ((Int×Int×Int×Tn2)):=
 LP.lp (fun h=>j00e h.1 h.2.1 h.2.2.1 h.2.2.2.1 h.2.2.2.2) (s1,s2,s8,s9,b0)
theorem j01Q (s1 s2 s8 s9:Int) (b0:Tn2):j00a s1 s2 s8 s9 b0=lpK (j00e s1 s2 s8 s9 b0) (fun h=>j00a h.1 h.2.1 h.2.2.1 h.2.2.2.1 h.2.2.2.2):=j005 _ _
def j003 [LP] (s1 s2 s8:Int) (b0:Tn2):Option ((Int×Int×Int×Tn2) ⊕ (Tn2)):=
 cond (decide (s8<s2)) (
 (j00a s1 s2 s8 s8 b0).bind fun q2_1=>
 let t16_1:=(w64 (q2_1.2.2.1+1))
 some (.inl (q2_1.1,q2_1.2.1,t16_1,q2_1.2.2.2))) (
 some (.inr b0))
def j00b [LP] (s1 s2 s8:Int) (b0:Tn2):Option (Tn2):=
 LP.lp (fun h=>j003 h.1 h.2.1 h.2.2.1 h.2.2.2) (s1,s2,s8,b0)
theorem j00Q (s1 s2 s8:Int) (b0:Tn2):j00b s1 s2 s8 b0=lpK (j003 s1 s2 s8 b0) (fun h=>j00b h.1 h.2.1 h.2.2.1 h.2.2.2):=j005 _ _
def j006 [LP] (a0_data:Tn2) (a1_a a2_b:Int):Option (Tn2):=
 let t11:=(w64 (a1_a+1))
 (j00b a1_a a2_b t11 a0_data).bind fun q0=>
 some q0
def j008 [LP] (s1 s6 s7 s8:Int) (b0:Tn2):Option ((Int×Int×Int×Int×Tn2) ⊕ ((Int×Int×Int×Tn2))):=
 cond (decide (s8≤s1)) (
 (j006 b0 s7 s8).bind fun r18_1=>
 let t22_1:=(w64 (s8+s6))
 some (.inl (s1,s6,s8,t22_1,r18_1))) (
 some (.inr (s1,s6,s7,b0)))
def j00p [LP] (s1 s6 s7 s8:Int) (b0:Tn2):Option ((Int×Int×Int×Tn2)):=
 LP.lp (fun h=>j008 h.1 h.2.1 h.2.2.1 h.2.2.2.1 h.2.2.2.2) (s1,s6,s7,s8,b0)
theorem j04s (s1 s6 s7 s8:Int) (b0:Tn2):j00p s1 s6 s7 s8 b0=lpK (j008 s1 s6 s7 s8 b0) (fun h=>j00p h.1 h.2.1 h.2.2.1 h.2.2.2.1 h.2.2.2.2):=j005 _ _
def j026 (s1 s6 s7 s8:Int) (b0:Tn2):Option ((Int×Int×Int×Int×Tn2) ⊕ ((Int×Int×Int×Tn2))):=
 cond (decide (s8≤s1)) (
 let t40_1:=(w64 (s7+s6))
 none) (
 some (.inr (s1,s6,s7,b0)))
def j01E [LP] (s1 s6 s7 s8:Int) (b0:Tn2):Option ((Int×Int×Int×Tn2)):=
 LP.lp (unc5 (j026)) (s1,s6,s7,s8,b0)
def j009 [LP] (s1 s6:Int) (b0:Tn2):Option ((Int×Int×Tn2) ⊕ (Tn2)):=
 cond (decide (s6<s1)) (
 let t32_1:=(w64 (2*s6))
 (j01E s1 s6 0 t32_1 b0).bind fun q4_1=>
 let t51_1:=(w64 (q4_1.2.2.1+q4_1.2.1))
 cond (decide (t51_1<q4_1.1)) (
 none) (
 let t62_1:=(w64 (q4_1.2.1*2))
 some (.inl (q4_1.1,t62_1,q4_1.2.2.2)))) (
 some (.inr b0))
def j00q [LP] (s1 s6:Int) (b0:Tn2):Option (Tn2):=
 LP.lp (fun h=>j009 h.1 h.2.1 h.2.2) (s1,s6,b0)
theorem j04t (s1 s6:Int) (b0:Tn2):j00q s1 s6 b0=lpK (j009 s1 s6 b0) (fun h=>j00q h.1 h.2.1 h.2.2):=j005 _ _
def j00B [LP] (a0_data:Tn2) (a1_n:Int):Option (Tn2):=
 (j00p a1_n 20 0 20 a0_data).bind fun q0=>
 (j006 q0.2.2.2 q0.2.2.1 q0.1).bind fun r27=>
 (j00q q0.1 q0.2.1 r27).bind fun q2=>
 some q2
def j004 [LP] (a0_x:Tn2):Option (Tn2):=
 let t6:=(Int.ofNat (List.length a0_x))
 (j00B a0_x t6).bind fun r8=>
 some r8
def j027 (s4:Int) (s23:Tn42) (s24 s25:Int) (b1:ByteArray) (b1_1:Int) (b1_2:Tn42):Option ((Int×Tn42×Int×Int×ByteArray×Int×Tn42) ⊕ (Int ⊕ (Int×ByteArray×Int×Tn42))):=
 cond (decide (s25<s24)) (
 cond (inR s25 (List.length s23)) (
 let t27_1:=(List.getD s23 (Int.toNat s25) (0,(0,(0,(0,(0,(0,0)))))))
 (j0br (t27_1.1,(t27_1.2.1,(t27_1.2.2.1,(t27_1.2.2.2.1,(t27_1.2.2.2.2.1,(t27_1.2.2.2.2.2.1,t27_1.2.2.2.2.2.2))))))).bind fun r30_1=>
 cond (r30_1 != 0) (
 some (.inr (.inl r30_1))) (
 let t39_1:=(w64 (t27_1.2.1-t27_1.1))
 let t40_1:=(w64 (t39_1+1))
 let t41_1:=(w64 (s4+t40_1))
 let t42_1:=(w64 (s25+1))
 some (.inl (t41_1,s23,s24,t42_1,b1,b1_1,b1_2)))) none) (
 some (.inr (.inr (s4,b1,b1_1,b1_2))))
def j028 [LP] (s4:Int) (s23:Tn42) (s24 s25:Int) (b1:ByteArray) (b1_1:Int) (b1_2:Tn42):Option (Int ⊕ (Int×ByteArray×Int×Tn42)):=
 LP.lp (fun h=>j027 h.1 h.2.1 h.2.2.1 h.2.2.2.1 h.2.2.2.2.1 h.2.2.2.2.2.1 h.2.2.2.2.2.2) (s4,s23,s24,s25,b1,b1_1,b1_2)
theorem j06D (s4:Int) (s23:Tn42) (s24 s25:Int) (b1:ByteArray) (b1_1:Int) (b1_2:Tn42):j028 s4 s23 s24 s25 b1 b1_1 b1_2=lpK (j027 s4 s23 s24 s25 b1 b1_1 b1_2) (fun h=>j028 h.1 h.2.1 h.2.2.1 h.2.2.2.1 h.2.2.2.2.1 h.2.2.2.2.2.1 h.2.2.2.2.2.2):=j005 _ _
def j00R [LP] (s11:Int) (s46:Tn42) (s47 s48 b10 b10_1 b10_2 b10_3 b10_4 b10_5 b10_6:Int) (l8:Tn2):Option ((Int×Tn42×Int×Int×Int×Int×Int×Int×Int×Int×Int×Tn2) ⊕ ((Tn42×Int×Int×Tn2))):=
 cond (decide (s11≤b10_1)) (
 (j09j s11 b10_2 b10_3 b10_4).bind fun r68_4=>
 let t73_4:=(w64 (r68_4.1*86400))
 let t76_4:=(w64 (t73_4+b10_5))
 let t80_4:Tn2:=[(t76_4,b10_6)]
 cond (decide (List.length l8+List.length t80_4≤sizeMax)) (
 let t81_4:Tn2:=(l8++t80_4)
 let t59_4:=(w64 (s11+1))
 some (.inl (t59_4,s46,s47,s48,b10,b10_1,b10_2,b10_3,b10_4,b10_5,b10_6,t81_4))) none) (
 some (.inr (s46,s47,s48,l8)))
def j02D [LP] (s11:Int) (s46:Tn42) (s47 s48 b10 b10_1 b10_2 b10_3 b10_4 b10_5 b10_6:Int) (l8:Tn2):Option ((Tn42×Int×Int×Tn2)):=
 LP.lp (fun h=>j00R h.1 h.2.1 h.2.2.1 h.2.2.2.1 h.2.2.2.2.1 h.2.2.2.2.2.1 h.2.2.2.2.2.2.1 h.2.2.2.2.2.2.2.1 h.2.2.2.2.2.2.2.2.1 h.2.2.2.2.2.2.2.2.2.1 h.2.2.2.2.2.2.2.2.2.2.1 h.2.2.2.2.2.2.2.2.2.2.2) (s11,s46,s47,s48,b10,b10_1,b10_2,b10_3,b10_4,b10_5,b10_6,l8)
theorem j06E (s11:Int) (s46:Tn42) (s47 s48 b10 b10_1 b10_2 b10_3 b10_4 b10_5 b10_6:Int) (l8:Tn2):j02D s11 s46 s47 s48 b10 b10_1 b10_2 b10_3 b10_4 b10_5 b10_6 l8=lpK (j00R s11 s46 s47 s48 b10 b10_1 b10_2 b10_3 b10_4 b10_5 b10_6 l8) (fun h=>j02D h.1 h.2.1 h.2.2.1 h.2.2.2.1 h.2.2.2.2.1 h.2.2.2.2.2.1 h.2.2.2.2.2.2.1 h.2.2.2.2.2.2.2.1 h.2.2.2.2.2.2.2.2.1 h.2.2.2.2.2.2.2.2.2.1 h.2.2.2.2.2.2.2.2.2.2.1 h.2.2.2.2.2.2.2.2.2.2.2):=j005 _ _
def j00S [LP] (s46:Tn42) (s47 s48:Int) (l8:Tn2):Option ((Tn42×Int×Int×Tn2) ⊕ (Tn2)):=
 cond (decide (s48<s47)) (
 cond (inR s48 (List.length s46)) (
 let t50_2:=(List.getD s46 (Int.toNat s48) (0,(0,(0,(0,(0,(0,0)))))))
 (j02D t50_2.1 s46 s47 s48 t50_2.1 t50_2.2.1 t50_2.2.2.1 t50_2.2.2.2.1 t50_2.2.2.2.2.1 t50_2.2.2.2.2.2.1 t50_2.2.2.2.2.2.2 l8).bind fun q4_2=>
 let t82_2:=(w64 (q4_2.2.2.1+1))
 some (.inl (q4_2.1,q4_2.2.1,t82_2,q4_2.2.2.2))) none) (
 some (.inr l8))
def j029 [LP] (s46:Tn42) (s47 s48:Int) (l8:Tn2):Option (Tn2):=
 LP.lp (fun h=>j00S h.1 h.2.1 h.2.2.1 h.2.2.2) (s46,s47,s48,l8)
theorem j06F (s46:Tn42) (s47 s48:Int) (l8:Tn2):j029 s46 s47 s48 l8=lpK (j00S s46 s47 s48 l8) (fun h=>j029 h.1 h.2.1 h.2.2.1 h.2.2.2):=j005 _ _
def j035 [LP] (a0_z:Tn52):Option (Tn2×Int):=
 (zone_in a0_z.2.1 (-64800) 64800).bind fun r16=>
 cond (!r16) (
 some (([]:Tn2),1)) (
 let t20:=(Int.ofNat (List.length a0_z.2.2))
 cond (decide (t20>16)) (
 some (([]:Tn2),5)) (
 let t24:=(Int.ofNat (List.length a0_z.2.2))
 (j028 0 a0_z.2.2 t24 0 a0_z.1 a0_z.2.1 a0_z.2.2).bind fun q0=>
 sumC q0 (fun a=>
 some (([]:Tn2),a)) (fun b=>
 cond (decide (b.1>640)) (
 some (([]:Tn2),5)) (
 let t47:=(Int.ofNat (List.length b.2.2.2))
 (j029 b.2.2.2 t47 0 ([]:Tn2)).bind fun q2=>
 (j004 q2).bind fun r84=>
 some (r84,0)))))
def j02a (s7 s23 s24:Int) (l6 l22:Tn2):Option ((Int×Int×Int×Tn2×Tn2) ⊕ (Int ⊕ Tn2)):=
 cond (decide (s24<s23)) (
 cond (inR s24 (List.length l22)) (
 let t27_4:=(List.getD l22 (Int.toNat s24) (0,0)).1
 let t27_5:=(List.getD l22 (Int.toNat s24) (0,0)).2
 cond (t27_5==s7) (
 let t77_4:=(w64 (s24+1))
 some (.inl (s7,s23,t77_4,l6,l22))) (
 let t35_2:=(w64 (t27_4-s7))
 let t39_2:=(w64 (t27_5-s7))
 cond (cond (decide (t39_2≥86400)) true (decide (t39_2≤(-86400)))) (
 let t53_2:=(Int.ofNat (List.length l6))
 let t59_2:=(Int.ofNat (List.length l6))
 let t60_4:=(w64 (t59_2-1))
 cond ((inR t60_4 (List.length l6)) || !((!true)&&(decide (t53_2>0)))) (
 let t63_2:=(List.getD l6 (Int.toNat t60_4) (0,0)).1
 let t64_2:=(w64 (t63_2+604800))
 some (.inr (.inl 6))) none) (
 (zone_in t35_2 0 8589934592).bind fun r48_2=>
 let t53_3:=(Int.ofNat (List.length l6))
 let t59_3:=(Int.ofNat (List.length l6))
 let t60_5:=(w64 (t59_3-1))
 cond ((inR t60_5 (List.length l6)) || !((!(!r48_2))&&(decide (t53_3>0)))) (
 let t63_3:=(List.getD l6 (Int.toNat t60_5) (0,0)).1
 let t64_3:=(w64 (t63_3+604800))
 cond (cond (!r48_2) true (cond (decide (t53_3>0)) (decide (t35_2<t64_3)) false)) (
 some (.inr (.inl 6))) (
 let t73_2:Tn2:=[(t35_2,t27_5)]
 cond (decide (List.length l6+List.length t73_2≤sizeMax)) (
 let t74_2:Tn2:=(l6++t73_2)
 let t77_5:=(w64 (s24+1))
 some (.inl (t27_5,s23,t77_5,t74_2,l22))) none)) none))) none) (
 some (.inr (.inr l6)))
def j02b [LP] (s7 s23 s24:Int) (l6 l22:Tn2):Option (Int ⊕ Tn2):=
 LP.lp (fun h=>j02a h.1 h.2.1 h.2.2.1 h.2.2.2.1 h.2.2.2.2) (s7,s23,s24,l6,l22)
theorem j06G (s7 s23 s24:Int) (l6 l22:Tn2):j02b s7 s23 s24 l6 l22=lpK (j02a s7 s23 s24 l6 l22) (fun h=>j02b h.1 h.2.1 h.2.2.1 h.2.2.2.1 h.2.2.2.2):=j005 _ _
def j01V [LP] (a0_z:Tn52):Option (Tn2×Int):=
 (j035 (a0_z.1,(a0_z.2.1,a0_z.2.2))).bind fun r14=>
 cond (r14.2 != 0) (
 some (([]:Tn2),r14.2)) (
 let t23:=(Int.ofNat (List.length r14.1))
 (j02b a0_z.2.1 t23 0 ([]:Tn2) r14.1).bind fun q0=>
 sumC q0 (fun a=>
 some (([]:Tn2),a)) (fun b=>
 some (b,0)))
def j06H [LP] (a0_z:Tn52):Option (Int):=
 (j01V (a0_z.1,(a0_z.2.1,a0_z.2.2))).bind fun r7=>
 some r7.2
def j05y (a0_r:Tn38):Option (Bool):=
 let t5:=(Int.tmod a0_r.2.2.2.2.2.2 60)
 some (t5 != 0)
def j00f (s0:Tn42) (s7 s8:Int):Option ((Tn42×Int×Int) ⊕ (Int ⊕ Unit)):=
 cond (decide (s8<s7)) (
 cond (inR s8 (List.length s0)) (
 let t14_1:=(List.getD s0 (Int.toNat s8) (0,(0,(0,(0,(0,(0,0)))))))
 (j05y (t14_1.1,(t14_1.2.1,(t14_1.2.2.1,(t14_1.2.2.2.1,(t14_1.2.2.2.2.1,(t14_1.2.2.2.2.2.1,t14_1.2.2.2.2.2.2))))))).bind fun r16_1=>
 cond r16_1 (
 some (.inr (.inl s8))) (
 let t18_1:=(w64 (s8+1))
 some (.inl (s0,s7,t18_1)))) none) (
 some (.inr (.inr ())))
def j00c [LP] (s0:Tn42) (s7 s8:Int):Option (Int ⊕ Unit):=
 LP.lp (fun h=>j00f h.1 h.2.1 h.2.2) (s0,s7,s8)
theorem j01W (s0:Tn42) (s7 s8:Int):j00c s0 s7 s8=lpK (j00f s0 s7 s8) (fun h=>j00c h.1 h.2.1 h.2.2):=j005 _ _
def j00j [LP] (a0_s:Tn42):Option (Int):=
 let t7:=(Int.ofNat (List.length a0_s))
 (j00c a0_s t7 0).bind fun q0=>
 sumC q0 (fun a=>
 some a) (fun b=>
 some (-1))
def j00d [LP] (a0_s:Tn42):Option (Bool):=
 (j00j a0_s).bind fun r7=>
 some (decide (r7≥0))
def j02m [LP] (a0_z:Tn52):Option (Int):=
 (j06H (a0_z.1,(a0_z.2.1,a0_z.2.2))).bind fun r4=>
 let t9:=(Int.tmod a0_z.2.1 60)
 cond (cond (r4 != 0) true (t9 != 0)) (
 some 8) (
 (j00d a0_z.2.2).bind fun r15=>
 cond r15 (
 some 8) (
 some 0))
def j00t [LP] (s13:Tn54) (s14 s15:Int) (l7:(List (ByteArray×Bool))):Option ((Tn54×Int×Int×(List (ByteArray×Bool))) ⊕ (Int ⊕ Unit)):=
 cond (decide (s15<s14)) (
 cond (inR s15 (List.length s13)) (
 let t17_1:=(List.getD s13 (Int.toNat s15) (ByteArray.empty,(0,([]:Tn42))))
 (j07E (t17_1.1,(t17_1.2.1,t17_1.2.2))).bind fun r21_1=>
 (j033 r21_1 l7).bind fun r23_1=>
 cond (r23_1.1 != 0) (
 some (.inr (.inl r23_1.1))) (
 (j02m (t17_1.1,(t17_1.2.1,t17_1.2.2))).bind fun r29_1=>
 cond (r29_1 != 0) (
 some (.inr (.inl r29_1))) (
 let t33_1:=(w64 (s15+1))
 some (.inl (s13,s14,t33_1,r23_1.2))))) none) (
 some (.inr (.inr ())))
def j013 [LP] (s13:Tn54) (s14 s15:Int) (l7:(List (ByteArray×Bool))):Option (Int ⊕ Unit):=
 LP.lp (fun h=>j00t h.1 h.2.1 h.2.2.1 h.2.2.2) (s13,s14,s15,l7)
theorem j04H (s13:Tn54) (s14 s15:Int) (l7:(List (ByteArray×Bool))):j013 s13 s14 s15 l7=lpK (j00t s13 s14 s15 l7) (fun h=>j013 h.1 h.2.1 h.2.2.1 h.2.2.2):=j005 _ _
def j01u [LP] (a0_l:Tn54):Option (Int):=
 let t12:(List (ByteArray×Bool)):=([]:(List (ByteArray×Bool)))
 let t14:=(Int.ofNat (List.length a0_l))
 (j013 a0_l t14 0 t12).bind fun q0=>
 sumC q0 (fun a=>
 some a) (fun b=>
 some 0)
def j01Z (a0_i a1_n:Int):Option (Bool):=
 some (cond (decide (a0_i≥0)) (decide (a0_i<a1_n)) false)
def j03O (s0 s8:Tn2) (s9 s10:Int):Option ((Tn2×Tn2×Int×Int) ⊕ (Int ⊕ Unit)):=
 cond (decide (s10<s9)) (
 cond (inR s10 (List.length s8)) (
 let t13_1:=(List.getD s8 (Int.toNat s10) (0,0))
 let t30_1:Bool:=(cond (cond (decide (t13_1.1<0)) true (decide (t13_1.1≥t13_1.2))) true (decide (t13_1.2>604800)))
 cond t30_1 (
 some (.inr (.inl 1))) (
 cond (decide (s10>0)) (
 let t39_1:=(w64 (s10-1))
 cond (inR t39_1 (List.length s0)) (
 let t40_1:=(List.getD s0 (Int.toNat t39_1) (0,0))
 cond (decide (t13_1.1<t40_1.2)) (
 some (.inr (.inl 6))) (
 let t45_2:=(w64 (s10+1))
 some (.inl (s0,s8,s9,t45_2)))) none) (
 let t45_3:=(w64 (s10+1))
 some (.inl (s0,s8,s9,t45_3))))) none) (
 some (.inr (.inr ())))
def j05S [LP] (s0 s8:Tn2) (s9 s10:Int):Option (Int ⊕ Unit):=
 LP.lp (fun h=>j03O h.1 h.2.1 h.2.2.1 h.2.2.2) (s0,s8,s9,s10)
theorem j0a9 (s0 s8:Tn2) (s9 s10:Int):j05S s0 s8 s9 s10=lpK (j03O s0 s8 s9 s10) (fun h=>j05S h.1 h.2.1 h.2.2.1 h.2.2.2):=j005 _ _
def j06I [LP] (a0_l:Tn2):Option (Int):=
 let t6:=(Int.ofNat (List.length a0_l))
 cond (decide (t6>14)) (
 some 5) (
 let t9:=(Int.ofNat (List.length a0_l))
 (j05S a0_l a0_l t9 0).bind fun q0=>
 sumC q0 (fun a=>
 some a) (fun b=>
 some 0))
def j061 (a0_n a1_lo a2_hi:Int):Option (Bool):=
 some (cond (decide (a0_n≥a1_lo)) (decide (a0_n≤a2_hi)) false)
def j04I (a0_n:Int):Option (Bool):=
 (j061 a0_n 0 604800).bind fun r4=>
 let t7:=(Int.tmod a0_n 3600)
 some (cond r4 (t7==0) false)
def j01o [LP] (a0_c:Tn71) (a1_p:Tn44):Option (Int):=
 let t10:=(Int.ofNat (List.length a0_c.1))
 (j01Z a1_p.2.1 t10).bind fun r11=>
 cond (!r11) (
 some 3) (
 (j06I a1_p.2.2.1).bind fun r16=>
 cond (r16 != 0) (
 some 8) (
 (j04I a1_p.2.2.2.1).bind fun r21=>
 cond (!r21) (
 some 1) (
 (j04I a1_p.2.2.2.2.1).bind fun r26=>
 cond (!r26) (
 some 1) (
 some 0))))
def j07F (a0_x:Tn19):Option (ByteArray):=
 some a0_x.1
def j090 (s0 s3:Int):Option ((Int×Int) ⊕ (Int)):=
 let t8_1:=(w64 (s3+1))
 (j04l t8_1).bind fun r9_1=>
 cond (decide (r9_1≤s0)) (
 let t13_1:=(w64 (s3+1))
 some (.inl (s0,t13_1))) (
 some (.inr s3))
def j0aa [LP] (s0 s3:Int):Option (Int):=
 LP.lp (unc2 (j090)) (s0,s3)
def j0ab [LP] (a0_day:Int):Option (Int):=
 (j06n a0_day 366).bind fun r5=>
 let t6:=(w64 (1970+r5))
 (j0aa a0_day t6).bind fun q0=>
 some q0
def j07G (s5 b2 b2_1 b2_2 b4 b4_1 b4_2:Int):Option ((Int×Int×Int×Int×Int×Int×Int) ⊕ ((Int×Int×Int×Int×Int×Int×Int))):=
 (j05Z b4 b4_1).bind fun r28_1=>
 cond (decide (s5≥r28_1)) (
 (j05Z b4 b4_1).bind fun r35_1=>
 let t36_1:=(w64 (s5-r35_1))
 let t39_1:=(w64 (b4_1+1))
 some (.inl (t36_1,b2,b2_1,b2_2,b4,t39_1,b4_2))) (
 some (.inr (s5,b2,b2_1,b2_2,b4,b4_1,b4_2)))
def j08B [LP] (s5 b2 b2_1 b2_2 b4 b4_1 b4_2:Int):Option ((Int×Int×Int×Int×Int×Int×Int)):=
 LP.lp (unc7 (j07G)) (s5,b2,b2_1,b2_2,b4,b4_1,b4_2)
def j05z [LP] (a0_day:Int):Option (Tn3×Int):=
 (j04l 1970).bind fun r7=>
 cond (decide (a0_day<r7)) (
 some ((0,(0,0)),1)) (
 (j04l 2241).bind fun r11=>
 cond (decide (a0_day≥r11)) (
 some ((0,(0,0)),1)) (
 (j0ab a0_day).bind fun r16=>
 (j04l r16).bind fun r21=>
 let t22:=(w64 (a0_day-r21))
 (j08B t22 0 0 0 r16 1 0).bind fun q0=>
 let t42:=(w64 (q0.1+1))
 some ((q0.2.2.2.2.1,(q0.2.2.2.2.2.1,t42)),0)))
def j01t [LP] (a0_n:Int):Option (Bool):=
 (j05z a0_n).bind fun r7=>
 some (r7.2==0)
def j01F [LP] (a0_n:Int):Option (Bool):=
 (j01t a0_n).bind fun r4=>
 some (!r4)
def j00m [LP] (s0:(List Int)) (s7 s8:Int):Option (((List Int)×Int×Int) ⊕ (Int ⊕ Unit)):=
 cond (decide (s8<s7)) (
 cond (inR s8 (List.length s0)) (
 let t14_1:=(List.getD s0 (Int.toNat s8) 0)
 (j01F t14_1).bind fun r16_1=>
 cond r16_1 (
 some (.inr (.inl s8))) (
 let t18_1:=(w64 (s8+1))
 some (.inl (s0,s7,t18_1)))) none) (
 some (.inr (.inr ())))
def j018 [LP] (s0:(List Int)) (s7 s8:Int):Option (Int ⊕ Unit):=
 LP.lp (fun h=>j00m h.1 h.2.1 h.2.2) (s0,s7,s8)
theorem j04j (s0:(List Int)) (s7 s8:Int):j018 s0 s7 s8=lpK (j00m s0 s7 s8) (fun h=>j018 h.1 h.2.1 h.2.2):=j005 _ _
def j01G [LP] (a0_s:(List Int)):Option (Int):=
 let t7:=(Int.ofNat (List.length a0_s))
 (j018 a0_s t7 0).bind fun q0=>
 sumC q0 (fun a=>
 some a) (fun b=>
 some (-1))
def j019 [LP] (a0_s:(List Int)):Option (Bool):=
 (j01G a0_s).bind fun r7=>
 some (decide (r7≥0))
def j01p (s25 s26:Int) (b3:ByteArray) (b3_1:Int) (b3_2:(List Int)):Option ((Int×Int×ByteArray×Int×(List Int)) ⊕ (Int ⊕ Unit)):=
 cond (decide (s26<s25)) (
 cond (decide (s26>0)) (
 cond (inR s26 (List.length b3_2)) (
 let t35_1:=(List.getD b3_2 (Int.toNat s26) 0)
 let t40_1:=(w64 (s26-1))
 cond (inR t40_1 (List.length b3_2)) (
 let t41_1:=(List.getD b3_2 (Int.toNat t40_1) 0)
 cond (decide (t35_1≤t41_1)) (
 some (.inr (.inl 6))) (
 let t45_2:=(w64 (s26+1))
 some (.inl (s25,t45_2,b3,b3_1,b3_2)))) none) none) (
 let t45_3:=(w64 (s26+1))
 some (.inl (s25,t45_3,b3,b3_1,b3_2)))) (
 some (.inr (.inr ())))
def j01H [LP] (s25 s26:Int) (b3:ByteArray) (b3_1:Int) (b3_2:(List Int)):Option (Int ⊕ Unit):=
 LP.lp (fun h=>j01p h.1 h.2.1 h.2.2.1 h.2.2.2.1 h.2.2.2.2) (s25,s26,b3,b3_1,b3_2)
theorem j054 (s25 s26:Int) (b3:ByteArray) (b3_1:Int) (b3_2:(List Int)):j01H s25 s26 b3 b3_1 b3_2=lpK (j01p s25 s26 b3 b3_1 b3_2) (fun h=>j01H h.1 h.2.1 h.2.2.1 h.2.2.2.1 h.2.2.2.2):=j005 _ _
def j01h [LP] (a0_c:Tn71) (a1_x:Tn19):Option (Int):=
 let t11:=(Int.ofNat (List.length a0_c.1))
 (j01Z a1_x.2.1 t11).bind fun r12=>
 cond (!r12) (
 some 3) (
 let t17:=(Int.ofNat (List.length a1_x.2.2))
 cond (decide (t17>64)) (
 some 5) (
 (j019 a1_x.2.2).bind fun r22=>
 cond r22 (
 some 1) (
 let t25:=(Int.ofNat (List.length a1_x.2.2))
 (j01H t25 0 a1_x.1 a1_x.2.1 a1_x.2.2).bind fun q1=>
 sumC q1 (fun a=>
 some a) (fun b=>
 some 0))))
def j03P [LP] (a0_x:Tn19) (a1:Tn54) (a1_1:Tn48) (a1_2:Tn26) (a1_3:Tn65):Option (Int):=
 (j01h (a1,(a1_1,(a1_2,a1_3))) (a0_x.1,(a0_x.2.1,a0_x.2.2))).bind fun r6=>
 some r6
def j00h [LP] (s2:Tn54) (s2_1:Tn48) (s2_2:Tn26) (s2_3:Tn65) (s13:Tn26) (s14 s15:Int) (l7:(List (ByteArray×Bool))):Option ((Tn54×Tn48×Tn26×Tn65×Tn26×Int×Int×(List (ByteArray×Bool))) ⊕ (Int ⊕ Unit)):=
 cond (decide (s15<s14)) (
 cond (inR s15 (List.length s13)) (
 let t17_1:=(List.getD s13 (Int.toNat s15) (ByteArray.empty,(0,([]:(List Int)))))
 (j07F (t17_1.1,(t17_1.2.1,t17_1.2.2))).bind fun r21_1=>
 (j033 r21_1 l7).bind fun r23_1=>
 cond (r23_1.1 != 0) (
 some (.inr (.inl r23_1.1))) (
 (j03P (t17_1.1,(t17_1.2.1,t17_1.2.2)) s2 s2_1 s2_2 s2_3).bind fun r29_1=>
 cond (r29_1 != 0) (
 some (.inr (.inl r29_1))) (
 let t33_1:=(w64 (s15+1))
 some (.inl (s2,s2_1,s2_2,s2_3,s13,s14,t33_1,r23_1.2))))) none) (
 some (.inr (.inr ())))
def j00G [LP] (s2:Tn54) (s2_1:Tn48) (s2_2:Tn26) (s2_3:Tn65) (s13:Tn26) (s14 s15:Int) (l7:(List (ByteArray×Bool))):Option (Int ⊕ Unit):=
 LP.lp (fun h=>j00h h.1 h.2.1 h.2.2.1 h.2.2.2.1 h.2.2.2.2.1 h.2.2.2.2.2.1 h.2.2.2.2.2.2.1 h.2.2.2.2.2.2.2) (s2,s2_1,s2_2,s2_3,s13,s14,s15,l7)
theorem j03Q (s2:Tn54) (s2_1:Tn48) (s2_2:Tn26) (s2_3:Tn65) (s13:Tn26) (s14 s15:Int) (l7:(List (ByteArray×Bool))):j00G s2 s2_1 s2_2 s2_3 s13 s14 s15 l7=lpK (j00h s2 s2_1 s2_2 s2_3 s13 s14 s15 l7) (fun h=>j00G h.1 h.2.1 h.2.2.1 h.2.2.2.1 h.2.2.2.2.1 h.2.2.2.2.2.1 h.2.2.2.2.2.2.1 h.2.2.2.2.2.2.2):=j005 _ _
def j00V [LP] (a0_l:Tn26) (a2_check:Tn54) (a2_check_1:Tn48) (a2_check_2:Tn26) (a2_check_3:Tn65):Option (Int):=
 let t12:(List (ByteArray×Bool)):=([]:(List (ByteArray×Bool)))
 let t14:=(Int.ofNat (List.length a0_l))
 (j00G a2_check a2_check_1 a2_check_2 a2_check_3 a0_l t14 0 t12).bind fun q0=>
 sumC q0 (fun a=>
 some a) (fun b=>
 some 0)
def j07H (a0_s:Tn64):Option (ByteArray):=
 some a0_s.1
def j048 (a0_l:Tn59):Option (ByteArray):=
 some a0_l.1
def j056 (a0_m:Int) (a1:Tn54) (a1_1:Tn48) (a1_2:Tn26) (a1_3:Tn65):Option (Bool):=
 let t7:=(Int.ofNat (List.length a1_1))
 (j01Z a0_m t7).bind fun r8=>
 some (!r8)
def j00J (s0:(List Int)) (s1:Tn54) (s1_1:Tn48) (s1_2:Tn26) (s1_3:Tn65) (s7 s8:Int):Option (((List Int)×Tn54×Tn48×Tn26×Tn65×Int×Int) ⊕ (Int ⊕ Unit)):=
 cond (decide (s8<s7)) (
 cond (inR s8 (List.length s0)) (
 let t14_1:=(List.getD s0 (Int.toNat s8) 0)
 (j056 t14_1 s1 s1_1 s1_2 s1_3).bind fun r16_1=>
 cond r16_1 (
 some (.inr (.inl s8))) (
 let t18_1:=(w64 (s8+1))
 some (.inl (s0,s1,s1_1,s1_2,s1_3,s7,t18_1)))) none) (
 some (.inr (.inr ())))
def j00N [LP] (s0:(List Int)) (s1:Tn54) (s1_1:Tn48) (s1_2:Tn26) (s1_3:Tn65) (s7 s8:Int):Option (Int ⊕ Unit):=
 LP.lp (fun h=>j00J h.1 h.2.1 h.2.2.1 h.2.2.2.1 h.2.2.2.2.1 h.2.2.2.2.2.1 h.2.2.2.2.2.2) (s0,s1,s1_1,s1_2,s1_3,s7,s8)
theorem j03H (s0:(List Int)) (s1:Tn54) (s1_1:Tn48) (s1_2:Tn26) (s1_3:Tn65) (s7 s8:Int):j00N s0 s1 s1_1 s1_2 s1_3 s7 s8=lpK (j00J s0 s1 s1_1 s1_2 s1_3 s7 s8) (fun h=>j00N h.1 h.2.1 h.2.2.1 h.2.2.2.1 h.2.2.2.2.1 h.2.2.2.2.2.1 h.2.2.2.2.2.2):=j005 _ _
def j01a [LP] (a0_s:(List Int)) (a1_f:Tn54) (a1_f_1:Tn48) (a1_f_2:Tn26) (a1_f_3:Tn65):Option (Int):=
 let t7:=(Int.ofNat (List.length a0_s))
 (j00N a0_s a1_f a1_f_1 a1_f_2 a1_f_3 t7 0).bind fun q0=>
 sumC q0 (fun a=>
 some a) (fun b=>
 some (-1))
def j00O [LP] (a0_s:(List Int)) (a1_f:Tn54) (a1_f_1:Tn48) (a1_f_2:Tn26) (a1_f_3:Tn65):Option (Bool):=
 (j01a a0_s a1_f a1_f_1 a1_f_2 a1_f_3).bind fun r7=>
 some (decide (r7≥0))
def j020 [LP] (a0_c:Tn71) (a1_l:Tn59):Option (Int):=
 let t10:=(Int.ofNat (List.length a0_c.1))
 (j01Z a1_l.2.1 t10).bind fun r11=>
 cond (!r11) (
 some 3) (
 cond (decide (a1_l.2.2.1.1<1)) (
 some 1) (
 (j01t a1_l.2.2.1.1).bind fun r22=>
 cond (!r22) (
 some 1) (
 (j061 a1_l.2.2.1.2 0 86399).bind fun r29=>
 cond (!r29) (
 some 1) (
 (j061 a1_l.2.2.2.1 0 2).bind fun r35=>
 cond (!r35) (
 some 1) (
 (j061 a1_l.2.2.2.2.1 1 400).bind fun r41=>
 cond (!r41) (
 some 1) (
 let t47:=(Int.ofNat (List.length a1_l.2.2.2.2.2.1))
 cond (t47==0) (
 some 7) (
 let t52:=(Int.ofNat (List.length a1_l.2.2.2.2.2.1))
 cond (decide (t52>12)) (
 some 5) (
 (j00O a1_l.2.2.2.2.2.1 a0_c.1 a0_c.2.1 a0_c.2.2.1 a0_c.2.2.2).bind fun r58=>
 cond r58 (
 some 3) (
 (j06I a1_l.2.2.2.2.2.2.1).bind fun r62=>
 cond (r62 != 0) (
 some 8) (
 (j061 a1_l.2.2.2.2.2.2.2.2 0 2).bind fun r67=>
 cond (!r67) (
 some 1) (
 let t78:=(Int.ofNat (List.length a0_c.2.2.1))
 cond (a1_l.2.2.2.2.2.2.2.2 != 0) (
 (j01Z a1_l.2.2.2.2.2.2.2.1 t78).bind fun r79=>
 cond (!r79) (
 some 3) (
 cond (cond (a1_l.2.2.2.2.2.2.2.2==0) (a1_l.2.2.2.2.2.2.2.1 != 0) false) (
 some 1) (
 some 0))) (
 cond (cond (a1_l.2.2.2.2.2.2.2.2==0) (a1_l.2.2.2.2.2.2.2.1 != 0) false) (
 some 1) (
 some 0)))))))))))))
def j01I [LP] (a0_l:Tn59) (a1:Tn54) (a1_1:Tn48) (a1_2:Tn26) (a1_3:Tn65):Option (Int):=
 (j020 (a1,(a1_1,(a1_2,a1_3))) (a0_l.1,(a0_l.2.1,((a0_l.2.2.1.1,a0_l.2.2.1.2),(a0_l.2.2.2.1,(a0_l.2.2.2.2.1,(a0_l.2.2.2.2.2.1,(a0_l.2.2.2.2.2.2.1,(a0_l.2.2.2.2.2.2.2.1,a0_l.2.2.2.2.2.2.2.2))))))))).bind fun r6=>
 some r6
def j00r [LP] (s2:Tn54) (s2_1:Tn48) (s2_2:Tn26) (s2_3:Tn65) (s13:Tn60) (s14 s15:Int) (l7:(List (ByteArray×Bool))):Option ((Tn54×Tn48×Tn26×Tn65×Tn60×Int×Int×(List (ByteArray×Bool))) ⊕ (Int ⊕ Unit)):=
 cond (decide (s15<s14)) (
 cond (inR s15 (List.length s13)) (
 let t17_1:=(List.getD s13 (Int.toNat s15) (ByteArray.empty,(0,((0,0),(0,(0,(([]:(List Int)),(([]:Tn2),(0,0)))))))))
 (j048 (t17_1.1,(t17_1.2.1,((t17_1.2.2.1.1,t17_1.2.2.1.2),(t17_1.2.2.2.1,(t17_1.2.2.2.2.1,(t17_1.2.2.2.2.2.1,(t17_1.2.2.2.2.2.2.1,(t17_1.2.2.2.2.2.2.2.1,t17_1.2.2.2.2.2.2.2.2))))))))).bind fun r21_1=>
 (j033 r21_1 l7).bind fun r23_1=>
 cond (r23_1.1 != 0) (
 some (.inr (.inl r23_1.1))) (
 (j01I (t17_1.1,(t17_1.2.1,((t17_1.2.2.1.1,t17_1.2.2.1.2),(t17_1.2.2.2.1,(t17_1.2.2.2.2.1,(t17_1.2.2.2.2.2.1,(t17_1.2.2.2.2.2.2.1,(t17_1.2.2.2.2.2.2.2.1,t17_1.2.2.2.2.2.2.2.2)))))))) s2 s2_1 s2_2 s2_3).bind fun r29_1=>
 cond (r29_1 != 0) (
 some (.inr (.inl r29_1))) (
 let t33_1:=(w64 (s15+1))
 some (.inl (s2,s2_1,s2_2,s2_3,s13,s14,t33_1,r23_1.2))))) none) (
 some (.inr (.inr ())))
def j00W [LP] (s2:Tn54) (s2_1:Tn48) (s2_2:Tn26) (s2_3:Tn65) (s13:Tn60) (s14 s15:Int) (l7:(List (ByteArray×Bool))):Option (Int ⊕ Unit):=
 LP.lp (fun h=>j00r h.1 h.2.1 h.2.2.1 h.2.2.2.1 h.2.2.2.2.1 h.2.2.2.2.2.1 h.2.2.2.2.2.2.1 h.2.2.2.2.2.2.2) (s2,s2_1,s2_2,s2_3,s13,s14,s15,l7)
theorem j04B (s2:Tn54) (s2_1:Tn48) (s2_2:Tn26) (s2_3:Tn65) (s13:Tn60) (s14 s15:Int) (l7:(List (ByteArray×Bool))):j00W s2 s2_1 s2_2 s2_3 s13 s14 s15 l7=lpK (j00r s2 s2_1 s2_2 s2_3 s13 s14 s15 l7) (fun h=>j00W h.1 h.2.1 h.2.2.1 h.2.2.2.1 h.2.2.2.2.1 h.2.2.2.2.2.1 h.2.2.2.2.2.2.1 h.2.2.2.2.2.2.2):=j005 _ _
def j01n [LP] (a0_l:Tn60) (a2_check:Tn54) (a2_check_1:Tn48) (a2_check_2:Tn26) (a2_check_3:Tn65):Option (Int):=
 let t12:(List (ByteArray×Bool)):=([]:(List (ByteArray×Bool)))
 let t14:=(Int.ofNat (List.length a0_l))
 (j00W a2_check a2_check_1 a2_check_2 a2_check_3 a0_l t14 0 t12).bind fun q0=>
 sumC q0 (fun a=>
 some a) (fun b=>
 some 0)
def j02n [LP] (a0_c:Tn71) (a1_x:Tn24):Option (Int):=
 let t8:=(Int.ofNat (List.length a0_c.2.1))
 (j061 a1_x.1 0 2).bind fun r12=>
 cond (!r12) (
 some 1) (
 (j01Z a1_x.2.1 t8).bind fun r18=>
 cond (cond (!r18) (!(cond (a1_x.1==1) (a1_x.2.1==(-1)) false)) false) (
 cond (cond (!r18) (!(cond (a1_x.1==1) (a1_x.2.1==(-1)) false)) false) (
 some 3) (
 cond (cond (a1_x.1 != 2) (a1_x.2.2.1 != 0) false) (
 some 1) (
 cond (cond (a1_x.1==2) (a1_x.2.1==a1_x.2.2.1) false) (
 some 4) (
 let t73:=(w64 (Int.tdiv a1_x.2.2.2.2 86400))
 cond (cond (decide (a1_x.2.2.2.1<0)) true (decide (a1_x.2.2.2.2<0))) (
 some 1) (
 (j01t t73).bind fun r74=>
 cond (!r74) (
 some 1) (
 cond (decide (a1_x.2.2.2.1≥a1_x.2.2.2.2)) (
 some 6) (
 some 0))))))) (
 cond (a1_x.1==2) (
 (j01Z a1_x.2.2.1 t8).bind fun r38=>
 cond (!r38) (
 some 3) (
 cond (cond (a1_x.1 != 2) (a1_x.2.2.1 != 0) false) (
 some 1) (
 cond (cond (a1_x.1==2) (a1_x.2.1==a1_x.2.2.1) false) (
 some 4) (
 let t73_1:=(w64 (Int.tdiv a1_x.2.2.2.2 86400))
 cond (cond (decide (a1_x.2.2.2.1<0)) true (decide (a1_x.2.2.2.2<0))) (
 some 1) (
 (j01t t73_1).bind fun r74_1=>
 cond (!r74_1) (
 some 1) (
 cond (decide (a1_x.2.2.2.1≥a1_x.2.2.2.2)) (
 some 6) (
 some 0))))))) (
 cond (cond (a1_x.1 != 2) (a1_x.2.2.1 != 0) false) (
 some 1) (
 cond (cond (a1_x.1==2) (a1_x.2.1==a1_x.2.2.1) false) (
 some 4) (
 let t73_2:=(w64 (Int.tdiv a1_x.2.2.2.2 86400))
 cond (cond (decide (a1_x.2.2.2.1<0)) true (decide (a1_x.2.2.2.2<0))) (
 some 1) (
 (j01t t73_2).bind fun r74_2=>
 cond (!r74_2) (
 some 1) (
 cond (decide (a1_x.2.2.2.1≥a1_x.2.2.2.2)) (
 some 6) (
 some 0))))))))
def j00A [LP] (s27:Tn29) (s28 s29:Int) (b2:Tn54) (b2_1:Tn48) (b2_2:Tn26) (b2_3:Tn65):Option ((Tn29×Int×Int×Tn54×Tn48×Tn26×Tn65) ⊕ (Int ⊕ Unit)):=
 cond (decide (s29<s28)) (
 cond (inR s29 (List.length s27)) (
 let t31_1:=(List.getD s27 (Int.toNat s29) (0,(0,(0,(0,0)))))
 (j02n (b2,(b2_1,(b2_2,b2_3))) (t31_1.1,(t31_1.2.1,(t31_1.2.2.1,(t31_1.2.2.2.1,t31_1.2.2.2.2))))).bind fun r35_1=>
 cond (r35_1 != 0) (
 some (.inr (.inl r35_1))) (
 let t39_1:=(w64 (s29+1))
 some (.inl (s27,s28,t39_1,b2,b2_1,b2_2,b2_3)))) none) (
 some (.inr (.inr ())))
def j01J [LP] (s27:Tn29) (s28 s29:Int) (b2:Tn54) (b2_1:Tn48) (b2_2:Tn26) (b2_3:Tn65):Option (Int ⊕ Unit):=
 LP.lp (fun h=>j00A h.1 h.2.1 h.2.2.1 h.2.2.2.1 h.2.2.2.2.1 h.2.2.2.2.2.1 h.2.2.2.2.2.2) (s27,s28,s29,b2,b2_1,b2_2,b2_3)
theorem j055 (s27:Tn29) (s28 s29:Int) (b2:Tn54) (b2_1:Tn48) (b2_2:Tn26) (b2_3:Tn65):j01J s27 s28 s29 b2 b2_1 b2_2 b2_3=lpK (j00A s27 s28 s29 b2 b2_1 b2_2 b2_3) (fun h=>j01J h.1 h.2.1 h.2.2.1 h.2.2.2.1 h.2.2.2.2.1 h.2.2.2.2.2.1 h.2.2.2.2.2.2):=j005 _ _
def j01i [LP] (a0_c:Tn71) (a1_s:Tn64):Option (Int):=
 let t11:=(Int.ofNat (List.length a1_s.2.1))
 let t16:=(Int.ofNat (List.length a1_s.2.2))
 cond (cond (decide (t11>6)) true (decide (t16>48))) (
 some 5) (
 (j01n a1_s.2.1 a0_c.1 a0_c.2.1 a0_c.2.2.1 a0_c.2.2.2).bind fun r22=>
 cond (r22 != 0) (
 some r22) (
 let t28:=(Int.ofNat (List.length a1_s.2.2))
 (j01J a1_s.2.2 t28 0 a0_c.1 a0_c.2.1 a0_c.2.2.1 a0_c.2.2.2).bind fun q0=>
 sumC q0 (fun a=>
 some a) (fun b=>
 some 0)))
def j03R [LP] (a0_s:Tn64) (a1:Tn54) (a1_1:Tn48) (a1_2:Tn26) (a1_3:Tn65):Option (Int):=
 (j01i (a1,(a1_1,(a1_2,a1_3))) (a0_s.1,(a0_s.2.1,a0_s.2.2))).bind fun r6=>
 some r6
def j00i [LP] (s2:Tn54) (s2_1:Tn48) (s2_2:Tn26) (s2_3 s13:Tn65) (s14 s15:Int) (l7:(List (ByteArray×Bool))):Option ((Tn54×Tn48×Tn26×Tn65×Tn65×Int×Int×(List (ByteArray×Bool))) ⊕ (Int ⊕ Unit)):=
 cond (decide (s15<s14)) (
 cond (inR s15 (List.length s13)) (
 let t17_1:=(List.getD s13 (Int.toNat s15) (ByteArray.empty,(([]:Tn60),([]:Tn29))))
 (j07H (t17_1.1,(t17_1.2.1,t17_1.2.2))).bind fun r21_1=>
 (j033 r21_1 l7).bind fun r23_1=>
 cond (r23_1.1 != 0) (
 some (.inr (.inl r23_1.1))) (
 (j03R (t17_1.1,(t17_1.2.1,t17_1.2.2)) s2 s2_1 s2_2 s2_3).bind fun r29_1=>
 cond (r29_1 != 0) (
 some (.inr (.inl r29_1))) (
 let t33_1:=(w64 (s15+1))
 some (.inl (s2,s2_1,s2_2,s2_3,s13,s14,t33_1,r23_1.2))))) none) (
 some (.inr (.inr ())))
def j00H [LP] (s2:Tn54) (s2_1:Tn48) (s2_2:Tn26) (s2_3 s13:Tn65) (s14 s15:Int) (l7:(List (ByteArray×Bool))):Option (Int ⊕ Unit):=
 LP.lp (fun h=>j00i h.1 h.2.1 h.2.2.1 h.2.2.2.1 h.2.2.2.2.1 h.2.2.2.2.2.1 h.2.2.2.2.2.2.1 h.2.2.2.2.2.2.2) (s2,s2_1,s2_2,s2_3,s13,s14,s15,l7)
theorem j03S (s2:Tn54) (s2_1:Tn48) (s2_2:Tn26) (s2_3 s13:Tn65) (s14 s15:Int) (l7:(List (ByteArray×Bool))):j00H s2 s2_1 s2_2 s2_3 s13 s14 s15 l7=lpK (j00i s2 s2_1 s2_2 s2_3 s13 s14 s15 l7) (fun h=>j00H h.1 h.2.1 h.2.2.1 h.2.2.2.1 h.2.2.2.2.1 h.2.2.2.2.2.1 h.2.2.2.2.2.2.1 h.2.2.2.2.2.2.2):=j005 _ _
def j01g [LP] (a0_l:Tn65) (a2_check:Tn54) (a2_check_1:Tn48) (a2_check_2:Tn26) (a2_check_3:Tn65):Option (Int):=
 let t12:(List (ByteArray×Bool)):=([]:(List (ByteArray×Bool)))
 let t14:=(Int.ofNat (List.length a0_l))
 (j00H a2_check a2_check_1 a2_check_2 a2_check_3 a0_l t14 0 t12).bind fun q0=>
 sumC q0 (fun a=>
 some a) (fun b=>
 some 0)
def j01j [LP] (s39:Tn48) (s40 s41:Int) (b1:Tn54) (b1_1:Tn48) (b1_2:Tn26) (b1_3:Tn65) (l4:(List (ByteArray×Bool))):Option ((Tn48×Int×Int×Tn54×Tn48×Tn26×Tn65×(List (ByteArray×Bool))) ⊕ (Int ⊕ (Tn54×Tn48×Tn26×Tn65))):=
 cond (decide (s41<s40)) (
 cond (inR s41 (List.length s39)) (
 let t43_1:=(List.getD s39 (Int.toNat s41) (ByteArray.empty,(0,(([]:Tn2),(0,(0,false))))))
 (j033 t43_1.1 l4).bind fun r48_1=>
 let t51:Bool:=(ByteArray.toList t43_1.1==ByteArray.toList (ByteArray.mk #[110,111,98,111,100,121]))
 cond t51 (
 cond (2==0) (
 (j01o (b1,(b1_1,(b1_2,b1_3))) (t43_1.1,(t43_1.2.1,(t43_1.2.2.1,(t43_1.2.2.2.1,(t43_1.2.2.2.2.1,t43_1.2.2.2.2.2)))))).bind fun r56_2=>
 cond (r56_2 != 0) (
 some (.inr (.inl r56_2))) (
 let t60_4:=(w64 (s41+1))
 some (.inl (s39,s40,t60_4,b1,b1_1,b1_2,b1_3,r48_1.2)))) (
 cond (2 != 0) (
 some (.inr (.inl 2))) (
 let t60_5:=(w64 (s41+1))
 some (.inl (s39,s40,t60_5,b1,b1_1,b1_2,b1_3,r48_1.2))))) (
 cond (r48_1.1==0) (
 (j01o (b1,(b1_1,(b1_2,b1_3))) (t43_1.1,(t43_1.2.1,(t43_1.2.2.1,(t43_1.2.2.2.1,(t43_1.2.2.2.2.1,t43_1.2.2.2.2.2)))))).bind fun r56_3=>
 cond (r56_3 != 0) (
 some (.inr (.inl r56_3))) (
 let t60_6:=(w64 (s41+1))
 some (.inl (s39,s40,t60_6,b1,b1_1,b1_2,b1_3,r48_1.2)))) (
 cond (r48_1.1 != 0) (
 some (.inr (.inl r48_1.1))) (
 let t60_7:=(w64 (s41+1))
 some (.inl (s39,s40,t60_7,b1,b1_1,b1_2,b1_3,r48_1.2)))))) none) (
 some (.inr (.inr (b1,b1_1,b1_2,b1_3))))
def j036 [LP] (s39:Tn48) (s40 s41:Int) (b1:Tn54) (b1_1:Tn48) (b1_2:Tn26) (b1_3:Tn65) (l4:(List (ByteArray×Bool))):Option (Int ⊕ (Tn54×Tn48×Tn26×Tn65)):=
 LP.lp (fun h=>j01j h.1 h.2.1 h.2.2.1 h.2.2.2.1 h.2.2.2.2.1 h.2.2.2.2.2.1 h.2.2.2.2.2.2.1 h.2.2.2.2.2.2.2) (s39,s40,s41,b1,b1_1,b1_2,b1_3,l4)
theorem j08j (s39:Tn48) (s40 s41:Int) (b1:Tn54) (b1_1:Tn48) (b1_2:Tn26) (b1_3:Tn65) (l4:(List (ByteArray×Bool))):j036 s39 s40 s41 b1 b1_1 b1_2 b1_3 l4=lpK (j01j s39 s40 s41 b1 b1_1 b1_2 b1_3 l4) (fun h=>j036 h.1 h.2.1 h.2.2.1 h.2.2.2.1 h.2.2.2.2.1 h.2.2.2.2.2.1 h.2.2.2.2.2.2.1 h.2.2.2.2.2.2.2):=j005 _ _
def j044 [LP] (a0_c:Tn71):Option (Int):=
 let t11:=(Int.ofNat (List.length a0_c.1))
 let t16:=(Int.ofNat (List.length a0_c.2.1))
 let t22:=(Int.ofNat (List.length a0_c.2.2.1))
 let t24:Bool:=(cond (cond (decide (t11>16)) true (decide (t16>32))) true (decide (t22>8)))
 let t28:=(Int.ofNat (List.length a0_c.2.2.2))
 cond (cond t24 true (decide (t28>12))) (
 some 5) (
 (j01u a0_c.1).bind fun r33=>
 cond (r33 != 0) (
 some r33) (
 let t37:(List (ByteArray×Bool)):=([]:(List (ByteArray×Bool)))
 let t40:=(Int.ofNat (List.length a0_c.2.1))
 (j036 a0_c.2.1 t40 0 a0_c.1 a0_c.2.1 a0_c.2.2.1 a0_c.2.2.2 t37).bind fun q0=>
 sumC q0 (fun a=>
 some a) (fun b=>
 (j00V b.2.2.1 b.1 b.2.1 b.2.2.1 b.2.2.2).bind fun r64=>
 cond (r64 != 0) (
 some r64) (
 (j01g b.2.2.2 b.1 b.2.1 b.2.2.1 b.2.2.2).bind fun r71=>
 some r71))))
def zone_Of [LP] (a0_z:Tn52):Option (Tn13×Int):=
 (j01V (a0_z.1,(a0_z.2.1,a0_z.2.2))).bind fun r8=>
 some ((a0_z.2.1,r8.1),r8.2)
def j01R [LP] (s8:Tn54) (s9 s10:Int) (l3:Tn20):Option ((Tn54×Int×Int×Tn20) ⊕ (Tn20)):=
 cond (decide (s10<s9)) (
 cond (inR s10 (List.length s8)) (
 let t12_2:=(List.getD s8 (Int.toNat s10) (ByteArray.empty,(0,([]:Tn42))))
 (zone_Of (t12_2.1,(t12_2.2.1,t12_2.2.2))).bind fun r16_2=>
 let t21_2:Tn20:=[(r16_2.1.1,r16_2.1.2)]
 cond (decide (List.length l3+List.length t21_2≤sizeMax)) (
 let t22_2:Tn20:=(l3++t21_2)
 let t23_2:=(w64 (s10+1))
 some (.inl (s8,s9,t23_2,t22_2))) none) none) (
 some (.inr l3))
def j049 [LP] (s8:Tn54) (s9 s10:Int) (l3:Tn20):Option (Tn20):=
 LP.lp (fun h=>j01R h.1 h.2.1 h.2.2.1 h.2.2.2) (s8,s9,s10,l3)
theorem j09K (s8:Tn54) (s9 s10:Int) (l3:Tn20):j049 s8 s9 s10 l3=lpK (j01R s8 s9 s10 l3) (fun h=>j049 h.1 h.2.1 h.2.2.1 h.2.2.2):=j005 _ _
def j07z [LP] (a0_l:Tn54):Option (Tn20):=
 let t9:=(Int.ofNat (List.length a0_l))
 (j049 a0_l t9 0 ([]:Tn20)).bind fun q0=>
 some q0
def j09k [LP] (a0_c:Tn71):Option (Tn73):=
 (j07z a0_c.1).bind fun r6=>
 some ((a0_c.1,(a0_c.2.1,(a0_c.2.2.1,a0_c.2.2.2))),r6)
def duty_Of [LP] (a0_c:Tn71):Option (Tn73×Bool):=
 (j044 (a0_c.1,(a0_c.2.1,(a0_c.2.2.1,a0_c.2.2.2)))).bind fun r5=>
 cond (r5 != 0) (
 some (((([]:Tn54),(([]:Tn48),(([]:Tn26),([]:Tn65)))),([]:Tn20)),false)) (
 (j09k (a0_c.1,(a0_c.2.1,(a0_c.2.2.1,a0_c.2.2.2)))).bind fun r9=>
 some (((r9.1.1,(r9.1.2.1,(r9.1.2.2.1,r9.1.2.2.2))),r9.2),true))
def j091 (a0_c:Tn71) (a1_schedule:Int):Option (Bool):=
 let t11:=(Int.ofNat (List.length a0_c.2.2.2))
 some (cond (decide (a1_schedule≥0)) (decide (a1_schedule<t11)) false)
def j0dC (a0_from a1_to:Int):Option (Bool):=
 let t15:Bool:=(cond (cond (decide (a0_from≥0)) (decide (a0_from≤8589934592)) false) (decide (a1_to≥a0_from)) false)
 let t23:=(w64 (a1_to-a0_from))
 let t25:Bool:=(cond (cond t15 (decide (a1_to≤8589934592)) false) (decide (t23≤34560000)) false)
 some t25
def j05T [LP] (a0_c:Tn71) (a1_schedule a2_from a3_to:Int):Option (Tn73×Int):=
 (duty_Of (a0_c.1,(a0_c.2.1,(a0_c.2.2.1,a0_c.2.2.2)))).bind fun r14=>
 cond (!r14.2) (
 some (((r14.1.1.1,(r14.1.1.2.1,(r14.1.1.2.2.1,r14.1.1.2.2.2))),r14.1.2),8)) (
 (j091 (a0_c.1,(a0_c.2.1,(a0_c.2.2.1,a0_c.2.2.2))) a1_schedule).bind fun r24=>
 cond (!r24) (
 some (((r14.1.1.1,(r14.1.1.2.1,(r14.1.1.2.2.1,r14.1.1.2.2.2))),r14.1.2),3)) (
 (j0dC a2_from a3_to).bind fun r30=>
 cond (!r30) (
 some (((r14.1.1.1,(r14.1.1.2.1,(r14.1.1.2.2.1,r14.1.1.2.2.2))),r14.1.2),1)) (
 some (((r14.1.1.1,(r14.1.1.2.1,(r14.1.1.2.2.1,r14.1.1.2.2.2))),r14.1.2),0))))
def j00K (a0_s:Tn60):Option (Tn60):=
 some a0_s
def j07I (a0_l:Tn59):Option (Int):=
 cond (a0_l.2.2.2.1==2) (
 let t8:=(w64 (7*a0_l.2.2.2.2.1))
 some t8) (
 some a0_l.2.2.2.2.1)
def j062 (a0_i a1:Int) (a1_1:Tn2) (a2:Int):Option (Bool):=
 cond (inR a0_i (List.length a1_1)) (
 let t8:=(List.getD a1_1 (Int.toNat a0_i) (0,0))
 some (decide (t8.1>a2))) none
def j02E (s1:Int) (s1_1:Tn2) (s1_2 s5 s6:Int):Option ((Int×Tn2×Int×Int×Int) ⊕ (Int)):=
 cond (decide (s5<s6)) (
 let t14_1:=(w64 (s5+s6))
 let t15_1:Int:=(IntKind.wrap .u64 t14_1)
 let t16_1:Int:=(Int.fdiv t15_1 2)
 let t17:=(w64 t16_1)
 (j062 t17 s1 s1_1 s1_2).bind fun r20_1=>
 cond (!r20_1) (
 let t23_1:=(w64 (t17+1))
 some (.inl (s1,s1_1,s1_2,t23_1,s6))) (
 some (.inl (s1,s1_1,s1_2,s5,t17)))) (
 some (.inr s5))
def j04T [LP] (s1:Int) (s1_1:Tn2) (s1_2 s5 s6:Int):Option (Int):=
 LP.lp (fun h=>j02E h.1 h.2.1 h.2.2.1 h.2.2.2.1 h.2.2.2.2) (s1,s1_1,s1_2,s5,s6)
theorem j09L (s1:Int) (s1_1:Tn2) (s1_2 s5 s6:Int):j04T s1 s1_1 s1_2 s5 s6=lpK (j02E s1 s1_1 s1_2 s5 s6) (fun h=>j04T h.1 h.2.1 h.2.2.1 h.2.2.2.1 h.2.2.2.2):=j005 _ _
def j07A [LP] (a0_n a1_f:Int) (a1_f_1:Tn2) (a1_f_2:Int):Option (Int):=
 (j04T a1_f a1_f_1 a1_f_2 0 a0_n).bind fun q0=>
 some q0
def j02u [LP] (a0_b:Tn13) (a1_t:Int):Option (Int):=
 let t7:=(Int.ofNat (List.length a0_b.2))
 (j07A t7 a0_b.1 a0_b.2 a1_t).bind fun r9=>
 some r9
def j03m (a0_b:Tn13) (a1_i:Int):Option (Int):=
 cond (a1_i==0) (
 some a0_b.1) (
 let t12:=(w64 (a1_i-1))
 cond (inR t12 (List.length a0_b.2)) (
 let t13:=(List.getD a0_b.2 (Int.toNat t12) (0,0))
 some t13.2) none)
def j00g [LP] (s1 s2 b3:Int) (b3_1:Tn2) (l7:Tn14):Option ((Int×Int×Int×Tn2×Tn14) ⊕ (Tn14)):=
 cond (decide (s1<s2)) (
 (j02u (b3,b3_1) s1).bind fun r15_2=>
 let t20_2:=(Int.ofNat (List.length b3_1))
 cond (decide (r15_2<t20_2)) (
 cond (inR r15_2 (List.length b3_1)) (
 let t26_2:=(List.getD b3_1 (Int.toNat r15_2) (0,0))
 let t29_2:Int:=(if t26_2.1<s2 then t26_2.1 else s2:Int)
 (j03m (b3,b3_1) r15_2).bind fun r35_4=>
 let t37_4:Tn14:=[(s1,(t29_2,r35_4))]
 cond (decide (List.length l7+List.length t37_4≤sizeMax)) (
 let t38_4:Tn14:=(l7++t37_4)
 some (.inl (t29_2,s2,b3,b3_1,t38_4))) none) none) (
 (j03m (b3,b3_1) r15_2).bind fun r35_5=>
 let t37_5:Tn14:=[(s1,(s2,r35_5))]
 cond (decide (List.length l7+List.length t37_5≤sizeMax)) (
 let t38_5:Tn14:=(l7++t37_5)
 some (.inl (s2,s2,b3,b3_1,t38_5))) none)) (
 some (.inr l7))
def j01v [LP] (s1 s2 b3:Int) (b3_1:Tn2) (l7:Tn14):Option (Tn14):=
 LP.lp (fun h=>j00g h.1 h.2.1 h.2.2.1 h.2.2.2.1 h.2.2.2.2) (s1,s2,b3,b3_1,l7)
theorem j01S (s1 s2 b3:Int) (b3_1:Tn2) (l7:Tn14):j01v s1 s2 b3 b3_1 l7=lpK (j00g s1 s2 b3 b3_1 l7) (fun h=>j01v h.1 h.2.1 h.2.2.1 h.2.2.2.1 h.2.2.2.2):=j005 _ _
def j011 [LP] (a0_b:Tn13) (a1_from a2_to:Int):Option (Tn14):=
 (j01v a1_from a2_to a0_b.1 a0_b.2 ([]:Tn14)).bind fun q0=>
 some q0
def j03y (a0_l:(Int×Int)):Option (Int):=
 let t5:Int:=(if (-1048576)>a0_l.1 then (-1048576) else a0_l.1:Int)
 let t6:Int:=(if 1048576<t5 then 1048576 else t5:Int)
 let t7:=(w64 (t6*86400))
 let t10:=(w64 (t7+a0_l.2))
 some t10
def j01c (s11 s12 b3 b3_1:Int) (l10:Tn14):Option ((Int×Int×Int×Int×Tn14) ⊕ ((Int×Bool) ⊕ Unit)):=
 cond (decide (s12<s11)) (
 cond (inR s12 (List.length l10)) (
 let t15_3:=(List.getD l10 (Int.toNat s12) (0,(0,0))).1
 let t15_4:=(List.getD l10 (Int.toNat s12) (0,(0,0))).2.1
 let t15_5:=(List.getD l10 (Int.toNat s12) (0,(0,0))).2.2
 (j03y (b3,b3_1)).bind fun r19_1=>
 let t22_1:=(w64 (r19_1-t15_5))
 let t23_1:Int:=(if t22_1>t15_3 then t22_1 else t15_3:Int)
 cond (decide (t23_1<t15_4)) (
 some (.inr (.inl (t23_1,true)))) (
 let t29_1:=(w64 (s12+1))
 some (.inl (s11,t29_1,b3,b3_1,l10)))) none) (
 some (.inr (.inr ())))
def j02c [LP] (s11 s12 b3 b3_1:Int) (l10:Tn14):Option ((Int×Bool) ⊕ Unit):=
 LP.lp (fun h=>j01c h.1 h.2.1 h.2.2.1 h.2.2.2.1 h.2.2.2.2) (s11,s12,b3,b3_1,l10)
theorem j03p (s11 s12 b3 b3_1:Int) (l10:Tn14):j02c s11 s12 b3 b3_1 l10=lpK (j01c s11 s12 b3 b3_1 l10) (fun h=>j02c h.1 h.2.1 h.2.2.1 h.2.2.2.1 h.2.2.2.2):=j005 _ _
def j01w [LP] (a0_b:Tn13) (a1_l:(Int×Int)):Option (Int×Bool):=
 (j011 (a0_b.1,a0_b.2) 0 8589934593).bind fun r10=>
 let t11:=(Int.ofNat (List.length r10))
 (j02c t11 0 a1_l.1 a1_l.2 r10).bind fun q0=>
 sumC q0 (fun a=>
 some (a.1,a.2)) (fun b=>
 some (0,false))
def j00C [LP] (a0_b:Tn13) (a1_l:Tn59) (a2_k:Int):Option (Int×Bool):=
 cond (decide (a2_k>8589934592)) (
 some (0,false)) (
 cond (a1_l.2.2.2.1 != 0) (
 (j07I (a1_l.1,(a1_l.2.1,((a1_l.2.2.1.1,a1_l.2.2.1.2),(a1_l.2.2.2.1,(a1_l.2.2.2.2.1,(a1_l.2.2.2.2.2.1,(a1_l.2.2.2.2.2.2.1,(a1_l.2.2.2.2.2.2.2.1,a1_l.2.2.2.2.2.2.2.2))))))))).bind fun r22=>
 let t23:=(w64 (a2_k*r22))
 let t24:=(w64 (a1_l.2.2.1.1+t23))
 (j01w (a0_b.1,a0_b.2) (t24,a1_l.2.2.1.2)).bind fun r28=>
 some (r28.1,r28.2)) (
 (j01w (a0_b.1,a0_b.2) (a1_l.2.2.1.1,a1_l.2.2.1.2)).bind fun r34=>
 let t40:=(w64 (3600*a1_l.2.2.2.2.1))
 let t42:=(w64 (t40*a2_k))
 let t43:=(w64 (r34.1+t42))
 some (t43,(cond r34.2 (decide (t43≤8589934592)) false))))
def j02G (a0_s:Tn2):Option (Tn2):=
 cond (decide (List.length ([]:List ((Int×Int)))+List.length a0_s≤sizeMax)) (
 some (([]:List ((Int×Int)))++a0_s)) none
def j06J (a0_s:(Int×Int)):Option (Bool):=
 some (decide (a0_s.2≤a0_s.1))
def j00y (s7 s8:Int) (b0:Tn2):Option ((Int×Int×Tn2) ⊕ (Tn13 ⊕ Tn2)):=
 cond (decide (s8<s7)) (
 cond (inR s8 (List.length b0)) (
 let t15_2:=(List.getD b0 (Int.toNat s8) (0,0)).1
 let t15_3:=(List.getD b0 (Int.toNat s8) (0,0)).2
 (j06J (t15_2,t15_3)).bind fun r16_1=>
 cond r16_1 (
 some (.inr (.inl (s8,b0)))) (
 let t18_1:=(w64 (s8+1))
 some (.inl (s7,t18_1,b0)))) none) (
 some (.inr (.inr b0)))
def j00k [LP] (s7 s8:Int) (b0:Tn2):Option (Tn13 ⊕ Tn2):=
 LP.lp (fun h=>j00y h.1 h.2.1 h.2.2) (s7,s8,b0)
theorem j02v (s7 s8:Int) (b0:Tn2):j00k s7 s8 b0=lpK (j00y s7 s8 b0) (fun h=>j00k h.1 h.2.1 h.2.2):=j005 _ _
def j00E [LP] (a0_s:Tn2):Option Tn13:=
 let t7:=(Int.ofNat (List.length a0_s))
 (j00k t7 0 a0_s).bind fun q0=>
 sumC q0 (fun a=>
 some (a.1,a.2)) (fun b=>
 some ((-1),b))
def j00u (s5 s6:Int) (b0:Tn2):Option ((Int×Int×Tn2) ⊕ (Tn13)):=
 let t18_1:=(Int.ofNat (List.length b0))
 cond (decide (s6<t18_1)) (
 cond (inR s6 (List.length b0)) (
 let t25_2:=(List.getD b0 (Int.toNat s6) (0,0)).1
 let t25_3:=(List.getD b0 (Int.toNat s6) (0,0)).2
 (j06J (t25_2,t25_3)).bind fun r28_1=>
 cond (!r28_1) (
 cond (inR s5 (List.length b0)) (
 let m4_1:Tn2:=(List.set b0 (Int.toNat s5) (t25_2,t25_3))
 let t35_1:=(w64 (s5+1))
 let t21_2:=(w64 (s6+1))
 some (.inl (t35_1,t21_2,m4_1))) none) (
 let t21_3:=(w64 (s6+1))
 some (.inl (s5,t21_3,b0)))) none) (
 some (.inr (s5,b0)))
def j00s [LP] (s5 s6:Int) (b0:Tn2):Option (Tn13):=
 LP.lp (fun h=>j00u h.1 h.2.1 h.2.2) (s5,s6,b0)
theorem j02s (s5 s6:Int) (b0:Tn2):j00s s5 s6 b0=lpK (j00u s5 s6 b0) (fun h=>j00s h.1 h.2.1 h.2.2):=j005 _ _
def j00o [LP] (a0_s:Tn2):Option Tn13:=
 (j00E a0_s).bind fun r10=>
 cond (r10.1==(-1)) (
 some ((Int.ofNat (List.length r10.2)),r10.2)) (
 let t15:=(w64 (r10.1+1))
 (j00s r10.1 t15 r10.2).bind fun q0=>
 cond (decide (0≤q0.1)&&decide (q0.1≤(Int.ofNat (List.length q0.2)))) (
 let m3:Tn2:=(List.take (Int.toNat q0.1) q0.2++List.replicate (List.length q0.2-(Int.toNat q0.1)) (0,0))
 cond (decide (0≤q0.1)&&decide (q0.1≤(Int.ofNat (List.length m3)))) (
 some ((Int.ofNat (Int.toNat q0.1)),m3)) none) none)
def j05U (a0_a a1_b:(Int×Int)):Option (Int):=
 let t9:=(w64 (a0_a.1-a1_b.1))
 some t9
def j00M (a0_x:Tn2):Option (Tn2):=
 sortP ((.pair (.int .i64) (.int .i64))) (fun x y=>(j05U x y).getD 0) a0_x
def j030 (s14 s15:Int) (l4 l13:Tn2):Option ((Int×Int×Tn2×Tn2) ⊕ (Tn2)):=
 cond (decide (s15<s14)) (
 cond (inR s15 (List.length l13)) (
 let t18_4:=(List.getD l13 (Int.toNat s15) (0,0)).1
 let t18_5:=(List.getD l13 (Int.toNat s15) (0,0)).2
 let t20_1:=(Int.ofNat (List.length l4))
 cond (decide (t20_1>0)) (
 let t28_2:=(w64 (t20_1-1))
 cond (inR t28_2 (List.length l4)) (
 let t31_1:=(List.getD l4 (Int.toNat t28_2) (0,0)).2
 cond (decide (t18_4≤t31_1)) (
 let t36_1:=(w64 (t20_1-1))
 let t39_1:=(w64 (t20_1-1))
 cond (inR t39_1 (List.length l4)) (
 let t42_1:=(List.getD l4 (Int.toNat t39_1) (0,0)).2
 let t45_1:Int:=(if t18_5>t42_1 then t18_5 else t42_1:Int)
 cond (inR t36_1 (List.length l4)) (
 let m14_1:Tn2:=(List.set l4 (Int.toNat t36_1) ((List.getD l4 (Int.toNat t36_1) (0,0)).1,t45_1))
 let t52_4:=(w64 (s15+1))
 some (.inl (s14,t52_4,m14_1,l13))) none) none) (
 let t50_3:Tn2:=[(t18_4,t18_5)]
 cond (decide (List.length l4+List.length t50_3≤sizeMax)) (
 let t51_3:Tn2:=(l4++t50_3)
 let t52_5:=(w64 (s15+1))
 some (.inl (s14,t52_5,t51_3,l13))) none)) none) (
 let t50_4:Tn2:=[(t18_4,t18_5)]
 cond (decide (List.length l4+List.length t50_4≤sizeMax)) (
 let t51_4:Tn2:=(l4++t50_4)
 let t52_6:=(w64 (s15+1))
 some (.inl (s14,t52_6,t51_4,l13))) none)) none) (
 some (.inr l4))
def j04J [LP] (s14 s15:Int) (l4 l13:Tn2):Option (Tn2):=
 LP.lp (fun h=>j030 h.1 h.2.1 h.2.2.1 h.2.2.2) (s14,s15,l4,l13)
theorem j07J (s14 s15:Int) (l4 l13:Tn2):j04J s14 s15 l4 l13=lpK (j030 s14 s15 l4 l13) (fun h=>j04J h.1 h.2.1 h.2.2.1 h.2.2.2):=j005 _ _
def j05e [LP] (a0_l:Tn2):Option (Tn2):=
 (j02G a0_l).bind fun r9=>
 (j00o r9).bind fun r10=>
 let t10:Tn2:=(List.take (Int.toNat r10.1) r10.2)
 (j00M t10).bind fun r12=>
 let t14:=(Int.ofNat (List.length r12))
 (j04J t14 0 ([]:Tn2) r12).bind fun q0=>
 some q0
def j037 (s1:Tn2) (s13 s20 s21:Int) (s45:Tn2) (s46 s47 b11 b11_1 b11_2:Int) (l9:Tn2) (l19:Tn14):Option ((Tn2×Int×Int×Int×Tn2×Int×Int×Int×Int×Int×Tn2×Tn14) ⊕ ((Tn2×Int×Int×Int×Int×Int×Int×Tn2×Tn14))):=
 cond (decide (s47<s46)) (
 cond (inR s47 (List.length s45)) (
 let t49_6:=(List.getD s45 (Int.toNat s47) (0,0))
 let t57_6:=(w64 (s13+t49_6.1))
 let t58_6:Int:=(if t57_6>b11 then t57_6 else b11:Int)
 let t64_6:=(w64 (s13+t49_6.2))
 let t65_6:Int:=(if t64_6<b11_1 then t64_6 else b11_1:Int)
 let t67_6:Tn2:=[(t58_6,t65_6)]
 cond (decide (List.length l9+List.length t67_6≤sizeMax)) (
 let t68_6:Tn2:=(l9++t67_6)
 let t69_6:=(w64 (s47+1))
 some (.inl (s1,s13,s20,s21,s45,s46,t69_6,b11,b11_1,b11_2,t68_6,l19))) none) none) (
 some (.inr (s1,s13,s20,s21,b11,b11_1,b11_2,l9,l19)))
def j04n [LP] (s1:Tn2) (s13 s20 s21:Int) (s45:Tn2) (s46 s47 b11 b11_1 b11_2:Int) (l9:Tn2) (l19:Tn14):Option ((Tn2×Int×Int×Int×Int×Int×Int×Tn2×Tn14)):=
 LP.lp (fun h=>j037 h.1 h.2.1 h.2.2.1 h.2.2.2.1 h.2.2.2.2.1 h.2.2.2.2.2.1 h.2.2.2.2.2.2.1 h.2.2.2.2.2.2.2.1 h.2.2.2.2.2.2.2.2.1 h.2.2.2.2.2.2.2.2.2.1 h.2.2.2.2.2.2.2.2.2.2.1 h.2.2.2.2.2.2.2.2.2.2.2) (s1,s13,s20,s21,s45,s46,s47,b11,b11_1,b11_2,l9,l19)
theorem j092 (s1:Tn2) (s13 s20 s21:Int) (s45:Tn2) (s46 s47 b11 b11_1 b11_2:Int) (l9:Tn2) (l19:Tn14):j04n s1 s13 s20 s21 s45 s46 s47 b11 b11_1 b11_2 l9 l19=lpK (j037 s1 s13 s20 s21 s45 s46 s47 b11 b11_1 b11_2 l9 l19) (fun h=>j04n h.1 h.2.1 h.2.2.1 h.2.2.2.1 h.2.2.2.2.1 h.2.2.2.2.2.1 h.2.2.2.2.2.2.1 h.2.2.2.2.2.2.2.1 h.2.2.2.2.2.2.2.2.1 h.2.2.2.2.2.2.2.2.2.1 h.2.2.2.2.2.2.2.2.2.2.1 h.2.2.2.2.2.2.2.2.2.2.2):=j005 _ _
def j01x [LP] (s1:Tn2) (s13 s20 s21 b11 b11_1 b11_2:Int) (l9:Tn2) (l19:Tn14):Option ((Tn2×Int×Int×Int×Int×Int×Int×Tn2×Tn14) ⊕ ((Tn2×Int×Int×Tn2×Tn14))):=
 cond (decide (s13<b11_1)) (
 let t46_4:=(Int.ofNat (List.length s1))
 (j04n s1 s13 s20 s21 s1 t46_4 0 b11 b11_1 b11_2 l9 l19).bind fun q4_4=>
 let t44_4:=(w64 (q4_4.2.1+604800))
 some (.inl (q4_4.1,t44_4,q4_4.2.2.1,q4_4.2.2.2.1,q4_4.2.2.2.2.1,q4_4.2.2.2.2.2.1,q4_4.2.2.2.2.2.2.1,q4_4.2.2.2.2.2.2.2.1,q4_4.2.2.2.2.2.2.2.2))) (
 some (.inr (s1,s20,s21,l9,l19)))
def j04o [LP] (s1:Tn2) (s13 s20 s21 b11 b11_1 b11_2:Int) (l9:Tn2) (l19:Tn14):Option ((Tn2×Int×Int×Tn2×Tn14)):=
 LP.lp (fun h=>j01x h.1 h.2.1 h.2.2.1 h.2.2.2.1 h.2.2.2.2.1 h.2.2.2.2.2.1 h.2.2.2.2.2.2.1 h.2.2.2.2.2.2.2.1 h.2.2.2.2.2.2.2.2) (s1,s13,s20,s21,b11,b11_1,b11_2,l9,l19)
theorem j093 (s1:Tn2) (s13 s20 s21 b11 b11_1 b11_2:Int) (l9:Tn2) (l19:Tn14):j04o s1 s13 s20 s21 b11 b11_1 b11_2 l9 l19=lpK (j01x s1 s13 s20 s21 b11 b11_1 b11_2 l9 l19) (fun h=>j04o h.1 h.2.1 h.2.2.1 h.2.2.2.1 h.2.2.2.2.1 h.2.2.2.2.2.1 h.2.2.2.2.2.2.1 h.2.2.2.2.2.2.2.1 h.2.2.2.2.2.2.2.2):=j005 _ _
def j01y [LP] (s1:Tn2) (s20 s21:Int) (l9:Tn2) (l19:Tn14):Option ((Tn2×Int×Int×Tn2×Tn14) ⊕ (Tn2)):=
 cond (decide (s21<s20)) (
 cond (inR s21 (List.length l19)) (
 let t24_6:=(List.getD l19 (Int.toNat s21) (0,(0,0))).1
 let t24_7:=(List.getD l19 (Int.toNat s21) (0,(0,0))).2.1
 let t24_8:=(List.getD l19 (Int.toNat s21) (0,(0,0))).2.2
 let t29_2:=(w64 (t24_6+t24_8))
 let t30_2:=(w64 (t29_2-(-259200)))
 let t33_2:=(Int.tmod t30_2 604800)
 let t34_2:=(w64 (t30_2-t33_2))
 let t35_2:=(w64 (t34_2+(-259200)))
 let t38_2:=(w64 (t35_2-t24_8))
 (j04o s1 t38_2 s20 s21 t24_6 t24_7 t24_8 l9 l19).bind fun q2_2=>
 let t70_2:=(w64 (q2_2.2.2.1+1))
 some (.inl (q2_2.1,q2_2.2.1,t70_2,q2_2.2.2.2.1,q2_2.2.2.2.2))) none) (
 some (.inr l9))
def j04p [LP] (s1:Tn2) (s20 s21:Int) (l9:Tn2) (l19:Tn14):Option (Tn2):=
 LP.lp (fun h=>j01y h.1 h.2.1 h.2.2.1 h.2.2.2.1 h.2.2.2.2) (s1,s20,s21,l9,l19)
theorem j094 (s1:Tn2) (s20 s21:Int) (l9:Tn2) (l19:Tn14):j04p s1 s20 s21 l9 l19=lpK (j01y s1 s20 s21 l9 l19) (fun h=>j04p h.1 h.2.1 h.2.2.1 h.2.2.2.1 h.2.2.2.2):=j005 _ _
def j038 [LP] (a0_b:Tn13) (a1_l:Tn2) (a2_from a3_to:Int):Option (Tn2):=
 (j011 (a0_b.1,a0_b.2) a2_from a3_to).bind fun r19=>
 let t20:=(Int.ofNat (List.length r19))
 (j04p a1_l t20 0 ([]:Tn2) r19).bind fun q0=>
 (j05e q0).bind fun r72=>
 some r72
def j02w (s24 s25:Int) (s30:(List Int)) (s31 s32:Int) (b5:ByteArray) (b5_1:Int) (b5_2:(List Int)) (b11 b11_1 b11_2:Int) (l9:Tn2) (l23:Tn14):Option ((Int×Int×(List Int)×Int×Int×ByteArray×Int×(List Int)×Int×Int×Int×Tn2×Tn14) ⊕ ((Int×Int×ByteArray×Int×(List Int)×Tn2×Tn14))):=
 cond (decide (s32<s31)) (
 cond (inR s32 (List.length s30)) (
 let t34_4:=(List.getD s30 (Int.toNat s32) 0)
 let t37_4:=(w64 (t34_4*86400))
 let t40_4:=(w64 (t37_4-b11_2))
 let t45_4:Int:=(if t40_4>b11 then t40_4 else b11:Int)
 let t49_4:=(w64 (t40_4+86400))
 let t50_4:Int:=(if t49_4<b11_1 then t49_4 else b11_1:Int)
 let t52_4:Tn2:=[(t45_4,t50_4)]
 cond (decide (List.length l9+List.length t52_4≤sizeMax)) (
 let t53_4:Tn2:=(l9++t52_4)
 let t54_4:=(w64 (s32+1))
 some (.inl (s24,s25,s30,s31,t54_4,b5,b5_1,b5_2,b11,b11_1,b11_2,t53_4,l23))) none) none) (
 some (.inr (s24,s25,b5,b5_1,b5_2,l9,l23)))
def j02H [LP] (s24 s25:Int) (s30:(List Int)) (s31 s32:Int) (b5:ByteArray) (b5_1:Int) (b5_2:(List Int)) (b11 b11_1 b11_2:Int) (l9:Tn2) (l23:Tn14):Option ((Int×Int×ByteArray×Int×(List Int)×Tn2×Tn14)):=
 LP.lp (fun h=>j02w h.1 h.2.1 h.2.2.1 h.2.2.2.1 h.2.2.2.2.1 h.2.2.2.2.2.1 h.2.2.2.2.2.2.1 h.2.2.2.2.2.2.2.1 h.2.2.2.2.2.2.2.2.1 h.2.2.2.2.2.2.2.2.2.1 h.2.2.2.2.2.2.2.2.2.2.1 h.2.2.2.2.2.2.2.2.2.2.2.1 h.2.2.2.2.2.2.2.2.2.2.2.2) (s24,s25,s30,s31,s32,b5,b5_1,b5_2,b11,b11_1,b11_2,l9,l23)
theorem j07K (s24 s25:Int) (s30:(List Int)) (s31 s32:Int) (b5:ByteArray) (b5_1:Int) (b5_2:(List Int)) (b11 b11_1 b11_2:Int) (l9:Tn2) (l23:Tn14):j02H s24 s25 s30 s31 s32 b5 b5_1 b5_2 b11 b11_1 b11_2 l9 l23=lpK (j02w s24 s25 s30 s31 s32 b5 b5_1 b5_2 b11 b11_1 b11_2 l9 l23) (fun h=>j02H h.1 h.2.1 h.2.2.1 h.2.2.2.1 h.2.2.2.2.1 h.2.2.2.2.2.1 h.2.2.2.2.2.2.1 h.2.2.2.2.2.2.2.1 h.2.2.2.2.2.2.2.2.1 h.2.2.2.2.2.2.2.2.2.1 h.2.2.2.2.2.2.2.2.2.2.1 h.2.2.2.2.2.2.2.2.2.2.2.1 h.2.2.2.2.2.2.2.2.2.2.2.2):=j005 _ _
def j017 [LP] (s24 s25:Int) (b5:ByteArray) (b5_1:Int) (b5_2:(List Int)) (l9:Tn2) (l23:Tn14):Option ((Int×Int×ByteArray×Int×(List Int)×Tn2×Tn14) ⊕ (Tn2)):=
 cond (decide (s25<s24)) (
 cond (inR s25 (List.length l23)) (
 let t28_6:=(List.getD l23 (Int.toNat s25) (0,(0,0))).1
 let t28_7:=(List.getD l23 (Int.toNat s25) (0,(0,0))).2.1
 let t28_8:=(List.getD l23 (Int.toNat s25) (0,(0,0))).2.2
 let t31_2:=(Int.ofNat (List.length b5_2))
 (j02H s24 s25 b5_2 t31_2 0 b5 b5_1 b5_2 t28_6 t28_7 t28_8 l9 l23).bind fun q2_2=>
 let t55_2:=(w64 (q2_2.2.1+1))
 some (.inl (q2_2.1,t55_2,q2_2.2.2.1,q2_2.2.2.2.1,q2_2.2.2.2.2.1,q2_2.2.2.2.2.2.1,q2_2.2.2.2.2.2.2))) none) (
 some (.inr l9))
def j02I [LP] (s24 s25:Int) (b5:ByteArray) (b5_1:Int) (b5_2:(List Int)) (l9:Tn2) (l23:Tn14):Option (Tn2):=
 LP.lp (fun h=>j017 h.1 h.2.1 h.2.2.1 h.2.2.2.1 h.2.2.2.2.1 h.2.2.2.2.2.1 h.2.2.2.2.2.2) (s24,s25,b5,b5_1,b5_2,l9,l23)
theorem j07L (s24 s25:Int) (b5:ByteArray) (b5_1:Int) (b5_2:(List Int)) (l9:Tn2) (l23:Tn14):j02I s24 s25 b5 b5_1 b5_2 l9 l23=lpK (j017 s24 s25 b5 b5_1 b5_2 l9 l23) (fun h=>j02I h.1 h.2.1 h.2.2.1 h.2.2.2.1 h.2.2.2.2.1 h.2.2.2.2.2.1 h.2.2.2.2.2.2):=j005 _ _
def j01q [LP] (a0_v:Tn73) (a1_c:Tn19) (a2_from a3_to:Int):Option (Tn2):=
 cond (inR a1_c.2.1 (List.length a0_v.2)) (
 let t19:=(List.getD a0_v.2 (Int.toNat a1_c.2.1) (0,([]:Tn2)))
 (j011 (t19.1,t19.2) a2_from a3_to).bind fun r23=>
 let t24:=(Int.ofNat (List.length r23))
 (j02I t24 0 a1_c.1 a1_c.2.1 a1_c.2.2 ([]:Tn2) r23).bind fun q0=>
 (j05e q0).bind fun r57=>
 some r57) none
def j039 (s1:Tn2) (s6:Int) (s11:Tn2) (s12 s13 b8 b8_1:Int) (l5:Tn2):Option ((Tn2×Int×Tn2×Int×Int×Int×Int×Tn2) ⊕ ((Tn2×Int×Tn2×Int×Int×Int×Int×Tn2))):=
 let t19_3:=(Int.ofNat (List.length s1))
 cond (decide (s6<t19_3)) (
 cond (inR s6 (List.length s1)) (
 let t24_3:=(List.getD s1 (Int.toNat s6) (0,0))
 cond (decide (t24_3.2≤b8)) (
 let t32_3:=(w64 (s6+1))
 some (.inl (s1,t32_3,s11,s12,s13,b8,b8_1,l5))) (
 some (.inr (s1,s6,s11,s12,s13,b8,b8_1,l5)))) none) (
 some (.inr (s1,s6,s11,s12,s13,b8,b8_1,l5)))
def j04q [LP] (s1:Tn2) (s6:Int) (s11:Tn2) (s12 s13 b8 b8_1:Int) (l5:Tn2):Option ((Tn2×Int×Tn2×Int×Int×Int×Int×Tn2)):=
 LP.lp (fun h=>j039 h.1 h.2.1 h.2.2.1 h.2.2.2.1 h.2.2.2.2.1 h.2.2.2.2.2.1 h.2.2.2.2.2.2.1 h.2.2.2.2.2.2.2) (s1,s6,s11,s12,s13,b8,b8_1,l5)
theorem j095 (s1:Tn2) (s6:Int) (s11:Tn2) (s12 s13 b8 b8_1:Int) (l5:Tn2):j04q s1 s6 s11 s12 s13 b8 b8_1 l5=lpK (j039 s1 s6 s11 s12 s13 b8 b8_1 l5) (fun h=>j04q h.1 h.2.1 h.2.2.1 h.2.2.2.1 h.2.2.2.2.1 h.2.2.2.2.2.1 h.2.2.2.2.2.2.1 h.2.2.2.2.2.2.2):=j005 _ _
def j03a (s1:Tn2) (s6 s9 s10:Int) (s11:Tn2) (s12 s13 b8 b8_1:Int) (l5:Tn2):Option ((Tn2×Int×Int×Int×Tn2×Int×Int×Int×Int×Tn2) ⊕ ((Tn2×Int×Int×Tn2×Int×Int×Int×Int×Tn2))):=
 let t38_4:=(Int.ofNat (List.length s1))
 cond (decide (s10<t38_4)) (
 cond (inR s10 (List.length s1)) (
 let t43_4:=(List.getD s1 (Int.toNat s10) (0,0))
 cond (decide (t43_4.1<b8_1)) (
 cond (inR s10 (List.length s1)) (
 let t55_4:=(List.getD s1 (Int.toNat s10) (0,0))
 cond (decide (s9<t55_4.1)) (
 cond (inR s10 (List.length s1)) (
 let t63_4:=(List.getD s1 (Int.toNat s10) (0,0))
 let t67_4:Tn2:=[(s9,t63_4.1)]
 cond (decide (List.length l5+List.length t67_4≤sizeMax)) (
 let t68_4:Tn2:=(l5++t67_4)
 cond (inR s10 (List.length s1)) (
 let t72_8:=(List.getD s1 (Int.toNat s10) (0,0))
 let t75_8:Int:=(if t72_8.2>s9 then t72_8.2 else s9:Int)
 let t51_8:=(w64 (s10+1))
 some (.inl (s1,s6,t75_8,t51_8,s11,s12,s13,b8,b8_1,t68_4))) none) none) none) (
 cond (inR s10 (List.length s1)) (
 let t72_9:=(List.getD s1 (Int.toNat s10) (0,0))
 let t75_9:Int:=(if t72_9.2>s9 then t72_9.2 else s9:Int)
 let t51_9:=(w64 (s10+1))
 some (.inl (s1,s6,t75_9,t51_9,s11,s12,s13,b8,b8_1,l5))) none)) none) (
 some (.inr (s1,s6,s9,s11,s12,s13,b8,b8_1,l5)))) none) (
 some (.inr (s1,s6,s9,s11,s12,s13,b8,b8_1,l5)))
def j03z [LP] (s1:Tn2) (s6 s9 s10:Int) (s11:Tn2) (s12 s13 b8 b8_1:Int) (l5:Tn2):Option ((Tn2×Int×Int×Tn2×Int×Int×Int×Int×Tn2)):=
 LP.lp (fun h=>j03a h.1 h.2.1 h.2.2.1 h.2.2.2.1 h.2.2.2.2.1 h.2.2.2.2.2.1 h.2.2.2.2.2.2.1 h.2.2.2.2.2.2.2.1 h.2.2.2.2.2.2.2.2.1 h.2.2.2.2.2.2.2.2.2) (s1,s6,s9,s10,s11,s12,s13,b8,b8_1,l5)
theorem j096 (s1:Tn2) (s6 s9 s10:Int) (s11:Tn2) (s12 s13 b8 b8_1:Int) (l5:Tn2):j03z s1 s6 s9 s10 s11 s12 s13 b8 b8_1 l5=lpK (j03a s1 s6 s9 s10 s11 s12 s13 b8 b8_1 l5) (fun h=>j03z h.1 h.2.1 h.2.2.1 h.2.2.2.1 h.2.2.2.2.1 h.2.2.2.2.2.1 h.2.2.2.2.2.2.1 h.2.2.2.2.2.2.2.1 h.2.2.2.2.2.2.2.2.1 h.2.2.2.2.2.2.2.2.2):=j005 _ _
def j01z [LP] (s1:Tn2) (s6:Int) (s11:Tn2) (s12 s13:Int) (l5:Tn2):Option ((Tn2×Int×Tn2×Int×Int×Tn2) ⊕ (Tn2)):=
 cond (decide (s13<s12)) (
 cond (inR s13 (List.length s11)) (
 let t15_2:=(List.getD s11 (Int.toNat s13) (0,0))
 (j04q s1 s6 s11 s12 s13 t15_2.1 t15_2.2 l5).bind fun q2_2=>
 (j03z q2_2.1 q2_2.2.1 q2_2.2.2.2.2.2.1 q2_2.2.1 q2_2.2.2.1 q2_2.2.2.2.1 q2_2.2.2.2.2.1 q2_2.2.2.2.2.2.1 q2_2.2.2.2.2.2.2.1 q2_2.2.2.2.2.2.2.2).bind fun q4_2=>
 cond (decide (q4_2.2.2.1<q4_2.2.2.2.2.2.2.2.1)) (
 let t85_2:Tn2:=[(q4_2.2.2.1,q4_2.2.2.2.2.2.2.2.1)]
 cond (decide (List.length q4_2.2.2.2.2.2.2.2.2+List.length t85_2≤sizeMax)) (
 let t86_2:Tn2:=(q4_2.2.2.2.2.2.2.2.2++t85_2)
 let t87_4:=(w64 (q4_2.2.2.2.2.2.1+1))
 some (.inl (q4_2.1,q4_2.2.1,q4_2.2.2.2.1,q4_2.2.2.2.2.1,t87_4,t86_2))) none) (
 let t87_5:=(w64 (q4_2.2.2.2.2.2.1+1))
 some (.inl (q4_2.1,q4_2.2.1,q4_2.2.2.2.1,q4_2.2.2.2.2.1,t87_5,q4_2.2.2.2.2.2.2.2.2)))) none) (
 some (.inr l5))
def j02W [LP] (s1:Tn2) (s6:Int) (s11:Tn2) (s12 s13:Int) (l5:Tn2):Option (Tn2):=
 LP.lp (fun h=>j01z h.1 h.2.1 h.2.2.1 h.2.2.2.1 h.2.2.2.2.1 h.2.2.2.2.2) (s1,s6,s11,s12,s13,l5)
theorem j097 (s1:Tn2) (s6:Int) (s11:Tn2) (s12 s13:Int) (l5:Tn2):j02W s1 s6 s11 s12 s13 l5=lpK (j01z s1 s6 s11 s12 s13 l5) (fun h=>j02W h.1 h.2.1 h.2.2.1 h.2.2.2.1 h.2.2.2.2.1 h.2.2.2.2.2):=j005 _ _
def j01Y [LP] (a0_a a1_b:Tn2):Option (Tn2):=
 let t12:=(Int.ofNat (List.length a0_a))
 (j02W a1_b 0 a0_a t12 0 ([]:Tn2)).bind fun q0=>
 some q0
def j04C (s0 s1:Tn2) (s6 s7:Int) (l5:Tn2):Option ((Tn2×Tn2×Int×Int×Tn2) ⊕ (Tn2)):=
 let t11_2:=(Int.ofNat (List.length s0))
 let t16_2:=(Int.ofNat (List.length s1))
 cond (cond (decide (s6<t11_2)) (decide (s7<t16_2)) false) (
 cond (inR s6 (List.length s0)) (
 let t21_2:=(List.getD s0 (Int.toNat s6) (0,0))
 cond (inR s7 (List.length s1)) (
 let t26_2:=(List.getD s1 (Int.toNat s7) (0,0))
 let t29_2:Int:=(if t26_2.1>t21_2.1 then t26_2.1 else t21_2.1:Int)
 cond (inR s6 (List.length s0)) (
 let t32_2:=(List.getD s0 (Int.toNat s6) (0,0))
 cond (inR s7 (List.length s1)) (
 let t37_2:=(List.getD s1 (Int.toNat s7) (0,0))
 let t40_2:Int:=(if t37_2.2<t32_2.2 then t37_2.2 else t32_2.2:Int)
 cond (decide (t29_2<t40_2)) (
 let t49_2:Tn2:=[(t29_2,t40_2)]
 cond (decide (List.length l5+List.length t49_2≤sizeMax)) (
 let t50_2:Tn2:=(l5++t49_2)
 cond (inR s6 (List.length s0)) (
 let t53_4:=(List.getD s0 (Int.toNat s6) (0,0))
 cond (inR s7 (List.length s1)) (
 let t58_4:=(List.getD s1 (Int.toNat s7) (0,0))
 cond (decide (t53_4.2<t58_4.2)) (
 let t63_4:=(w64 (s6+1))
 some (.inl (s0,s1,t63_4,s7,t50_2))) (
 let t65_4:=(w64 (s7+1))
 some (.inl (s0,s1,s6,t65_4,t50_2)))) none) none) none) (
 cond (inR s6 (List.length s0)) (
 let t53_5:=(List.getD s0 (Int.toNat s6) (0,0))
 cond (inR s7 (List.length s1)) (
 let t58_5:=(List.getD s1 (Int.toNat s7) (0,0))
 cond (decide (t53_5.2<t58_5.2)) (
 let t63_5:=(w64 (s6+1))
 some (.inl (s0,s1,t63_5,s7,l5))) (
 let t65_5:=(w64 (s7+1))
 some (.inl (s0,s1,s6,t65_5,l5)))) none) none)) none) none) none) none) (
 some (.inr l5))
def j02T [LP] (s0 s1:Tn2) (s6 s7:Int) (l5:Tn2):Option (Tn2):=
 LP.lp (fun h=>j04C h.1 h.2.1 h.2.2.1 h.2.2.2.1 h.2.2.2.2) (s0,s1,s6,s7,l5)
theorem j0d0 (s0 s1:Tn2) (s6 s7:Int) (l5:Tn2):j02T s0 s1 s6 s7 l5=lpK (j04C s0 s1 s6 s7 l5) (fun h=>j02T h.1 h.2.1 h.2.2.1 h.2.2.2.1 h.2.2.2.2):=j005 _ _
def j05V [LP] (a0_a a1_b:Tn2):Option (Tn2):=
 (j02T a0_a a1_b 0 0 ([]:Tn2)).bind fun q0=>
 some q0
def j02X [LP] (a0_v:Tn73) (a1_l:Tn59) (a2_from a3_to:Int):Option (Tn2):=
 cond (inR a1_l.2.1 (List.length a0_v.2)) (
 let t17:=(List.getD a0_v.2 (Int.toNat a1_l.2.1) (0,([]:Tn2)))
 (j00C (t17.1,t17.2) (a1_l.1,(a1_l.2.1,((a1_l.2.2.1.1,a1_l.2.2.1.2),(a1_l.2.2.2.1,(a1_l.2.2.2.2.1,(a1_l.2.2.2.2.2.1,(a1_l.2.2.2.2.2.2.1,(a1_l.2.2.2.2.2.2.2.1,a1_l.2.2.2.2.2.2.2.2)))))))) 0).bind fun r20=>
 cond (cond (cond (!r20.2) true (decide (r20.1≥a3_to))) true (decide (a2_from≥a3_to))) (
 some ([]:Tn2)) (
 let t37:Int:=(if r20.1>a2_from then r20.1 else a2_from:Int)
 let t41:Tn2:=[(t37,a3_to)]
 let t44:=(Int.ofNat (List.length a1_l.2.2.2.2.2.2.1))
 cond (decide (t44>0)) (
 cond (inR a1_l.2.1 (List.length a0_v.2)) (
 let t50:=(List.getD a0_v.2 (Int.toNat a1_l.2.1) (0,([]:Tn2)))
 (j038 (t50.1,t50.2) a1_l.2.2.2.2.2.2.1 t37 a3_to).bind fun r56=>
 cond (a1_l.2.2.2.2.2.2.2.2==1) (
 cond (inR a1_l.2.2.2.2.2.2.2.1 (List.length a0_v.1.2.2.1)) (
 let t68:=(List.getD a0_v.1.2.2.1 (Int.toNat a1_l.2.2.2.2.2.2.2.1) (ByteArray.empty,(0,([]:(List Int)))))
 (j01q ((a0_v.1.1,(a0_v.1.2.1,(a0_v.1.2.2.1,a0_v.1.2.2.2))),a0_v.2) (t68.1,(t68.2.1,t68.2.2)) t37 a3_to).bind fun r72=>
 (j01Y r56 r72).bind fun r73=>
 some r73) none) (
 cond (a1_l.2.2.2.2.2.2.2.2==2) (
 cond (inR a1_l.2.2.2.2.2.2.2.1 (List.length a0_v.1.2.2.1)) (
 let t83:=(List.getD a0_v.1.2.2.1 (Int.toNat a1_l.2.2.2.2.2.2.2.1) (ByteArray.empty,(0,([]:(List Int)))))
 (j01q ((a0_v.1.1,(a0_v.1.2.1,(a0_v.1.2.2.1,a0_v.1.2.2.2))),a0_v.2) (t83.1,(t83.2.1,t83.2.2)) t37 a3_to).bind fun r87=>
 (j05V r56 r87).bind fun r88=>
 some r88) none) (
 some r56))) none) (
 cond (a1_l.2.2.2.2.2.2.2.2==1) (
 cond (inR a1_l.2.2.2.2.2.2.2.1 (List.length a0_v.1.2.2.1)) (
 let t68_1:=(List.getD a0_v.1.2.2.1 (Int.toNat a1_l.2.2.2.2.2.2.2.1) (ByteArray.empty,(0,([]:(List Int)))))
 (j01q ((a0_v.1.1,(a0_v.1.2.1,(a0_v.1.2.2.1,a0_v.1.2.2.2))),a0_v.2) (t68_1.1,(t68_1.2.1,t68_1.2.2)) t37 a3_to).bind fun r72_1=>
 (j01Y t41 r72_1).bind fun r73_1=>
 some r73_1) none) (
 cond (a1_l.2.2.2.2.2.2.2.2==2) (
 cond (inR a1_l.2.2.2.2.2.2.2.1 (List.length a0_v.1.2.2.1)) (
 let t83_1:=(List.getD a0_v.1.2.2.1 (Int.toNat a1_l.2.2.2.2.2.2.2.1) (ByteArray.empty,(0,([]:(List Int)))))
 (j01q ((a0_v.1.1,(a0_v.1.2.1,(a0_v.1.2.2.1,a0_v.1.2.2.2))),a0_v.2) (t83_1.1,(t83_1.2.1,t83_1.2.2)) t37 a3_to).bind fun r87_1=>
 (j05V t41 r87_1).bind fun r88_1=>
 some r88_1) none) (
 some t41))))) none
def j02J [LP] (a0_b:Tn13) (a1_t:Int):Option (Int):=
 (j02u (a0_b.1,a0_b.2) a1_t).bind fun r8=>
 (j03m (a0_b.1,a0_b.2) r8).bind fun r9=>
 some r9
def j0bs (a0_n:Int):Option ((Int×Int)):=
 let t5:=(w64 (Int.tdiv a0_n 86400))
 let t7:=(Int.tmod a0_n 86400)
 cond (decide (t7<0)) (
 let t10:=(w64 (t5-1))
 let t14:=(w64 (t10*86400))
 let t15:=(w64 (a0_n-t14))
 some (t10,t15)) (
 let t14_1:=(w64 (t5*86400))
 let t15_1:=(w64 (a0_n-t14_1))
 some (t5,t15_1))
def j00n [LP] (a0_b:Tn13) (a1_t:Int):Option ((Int×Int)):=
 (j02J (a0_b.1,a0_b.2) a1_t).bind fun r8=>
 let t9:=(w64 (a1_t+r8))
 (j0bs t9).bind fun r10=>
 some (r10.1,r10.2)
def j01k [LP] (s2 s9 b3:Int) (b3_1:Tn2) (b4:ByteArray) (b4_1 b4_2 b4_3 b4_4 b4_5:Int) (b4_6:(List Int)) (b4_7:Tn2) (b4_8 b4_9:Int):Option ((Int×Int×Int×Tn2×ByteArray×Int×Int×Int×Int×Int×(List Int)×Tn2×Int×Int) ⊕ ((Int×Int×Int×Tn2×ByteArray×Int×Int×Int×Int×Int×(List Int)×Tn2×Int×Int))):=
 cond (decide (s9>0)) (
 (j00C (b3,b3_1) (b4,(b4_1,((b4_2,b4_3),(b4_4,(b4_5,(b4_6,(b4_7,(b4_8,b4_9)))))))) s9).bind fun r55_1=>
 cond (cond r55_1.2 (decide (r55_1.1≤s2)) false) (
 some (.inr (s2,s9,b3,b3_1,b4,b4_1,b4_2,b4_3,b4_4,b4_5,b4_6,b4_7,b4_8,b4_9))) (
 let t65_1:=(w64 (s9-1))
 some (.inl (s2,t65_1,b3,b3_1,b4,b4_1,b4_2,b4_3,b4_4,b4_5,b4_6,b4_7,b4_8,b4_9)))) (
 some (.inr (s2,s9,b3,b3_1,b4,b4_1,b4_2,b4_3,b4_4,b4_5,b4_6,b4_7,b4_8,b4_9)))
def j03T [LP] (s2 s9 b3:Int) (b3_1:Tn2) (b4:ByteArray) (b4_1 b4_2 b4_3 b4_4 b4_5:Int) (b4_6:(List Int)) (b4_7:Tn2) (b4_8 b4_9:Int):Option ((Int×Int×Int×Tn2×ByteArray×Int×Int×Int×Int×Int×(List Int)×Tn2×Int×Int)):=
 LP.lp (fun h=>j01k h.1 h.2.1 h.2.2.1 h.2.2.2.1 h.2.2.2.2.1 h.2.2.2.2.2.1 h.2.2.2.2.2.2.1 h.2.2.2.2.2.2.2.1 h.2.2.2.2.2.2.2.2.1 h.2.2.2.2.2.2.2.2.2.1 h.2.2.2.2.2.2.2.2.2.2.1 h.2.2.2.2.2.2.2.2.2.2.2.1 h.2.2.2.2.2.2.2.2.2.2.2.2.1 h.2.2.2.2.2.2.2.2.2.2.2.2.2) (s2,s9,b3,b3_1,b4,b4_1,b4_2,b4_3,b4_4,b4_5,b4_6,b4_7,b4_8,b4_9)
theorem j08k (s2 s9 b3:Int) (b3_1:Tn2) (b4:ByteArray) (b4_1 b4_2 b4_3 b4_4 b4_5:Int) (b4_6:(List Int)) (b4_7:Tn2) (b4_8 b4_9:Int):j03T s2 s9 b3 b3_1 b4 b4_1 b4_2 b4_3 b4_4 b4_5 b4_6 b4_7 b4_8 b4_9=lpK (j01k s2 s9 b3 b3_1 b4 b4_1 b4_2 b4_3 b4_4 b4_5 b4_6 b4_7 b4_8 b4_9) (fun h=>j03T h.1 h.2.1 h.2.2.1 h.2.2.2.1 h.2.2.2.2.1 h.2.2.2.2.2.1 h.2.2.2.2.2.2.1 h.2.2.2.2.2.2.2.1 h.2.2.2.2.2.2.2.2.1 h.2.2.2.2.2.2.2.2.2.1 h.2.2.2.2.2.2.2.2.2.2.1 h.2.2.2.2.2.2.2.2.2.2.2.1 h.2.2.2.2.2.2.2.2.2.2.2.2.1 h.2.2.2.2.2.2.2.2.2.2.2.2.2):=j005 _ _
def j01L [LP] (s2 s9 b3:Int) (b3_1:Tn2) (b4:ByteArray) (b4_1 b4_2 b4_3 b4_4 b4_5:Int) (b4_6:(List Int)) (b4_7:Tn2) (b4_8 b4_9:Int):Option ((Int×Int×Int×Tn2×ByteArray×Int×Int×Int×Int×Int×(List Int)×Tn2×Int×Int) ⊕ (Int)):=
 let t70_1:=(w64 (s9+1))
 (j00C (b3,b3_1) (b4,(b4_1,((b4_2,b4_3),(b4_4,(b4_5,(b4_6,(b4_7,(b4_8,b4_9)))))))) t70_1).bind fun r71_1=>
 cond (cond (!r71_1.2) true (decide (r71_1.1>s2))) (
 some (.inr s9)) (
 let t83_1:=(w64 (s9+1))
 some (.inl (s2,t83_1,b3,b3_1,b4,b4_1,b4_2,b4_3,b4_4,b4_5,b4_6,b4_7,b4_8,b4_9)))
def j03U [LP] (s2 s9 b3:Int) (b3_1:Tn2) (b4:ByteArray) (b4_1 b4_2 b4_3 b4_4 b4_5:Int) (b4_6:(List Int)) (b4_7:Tn2) (b4_8 b4_9:Int):Option (Int):=
 LP.lp (fun h=>j01L h.1 h.2.1 h.2.2.1 h.2.2.2.1 h.2.2.2.2.1 h.2.2.2.2.2.1 h.2.2.2.2.2.2.1 h.2.2.2.2.2.2.2.1 h.2.2.2.2.2.2.2.2.1 h.2.2.2.2.2.2.2.2.2.1 h.2.2.2.2.2.2.2.2.2.2.1 h.2.2.2.2.2.2.2.2.2.2.2.1 h.2.2.2.2.2.2.2.2.2.2.2.2.1 h.2.2.2.2.2.2.2.2.2.2.2.2.2) (s2,s9,b3,b3_1,b4,b4_1,b4_2,b4_3,b4_4,b4_5,b4_6,b4_7,b4_8,b4_9)
theorem j0bt (s2 s9 b3:Int) (b3_1:Tn2) (b4:ByteArray) (b4_1 b4_2 b4_3 b4_4 b4_5:Int) (b4_6:(List Int)) (b4_7:Tn2) (b4_8 b4_9:Int):j03U s2 s9 b3 b3_1 b4 b4_1 b4_2 b4_3 b4_4 b4_5 b4_6 b4_7 b4_8 b4_9=lpK (j01L s2 s9 b3 b3_1 b4 b4_1 b4_2 b4_3 b4_4 b4_5 b4_6 b4_7 b4_8 b4_9) (fun h=>j03U h.1 h.2.1 h.2.2.1 h.2.2.2.1 h.2.2.2.2.1 h.2.2.2.2.2.1 h.2.2.2.2.2.2.1 h.2.2.2.2.2.2.2.1 h.2.2.2.2.2.2.2.2.1 h.2.2.2.2.2.2.2.2.2.1 h.2.2.2.2.2.2.2.2.2.2.1 h.2.2.2.2.2.2.2.2.2.2.2.1 h.2.2.2.2.2.2.2.2.2.2.2.2.1 h.2.2.2.2.2.2.2.2.2.2.2.2.2):=j005 _ _
def j01A [LP] (a0_b:Tn13) (a1_l:Tn59) (a2_t:Int):Option (Int):=
 (j00C (a0_b.1,a0_b.2) (a1_l.1,(a1_l.2.1,((a1_l.2.2.1.1,a1_l.2.2.1.2),(a1_l.2.2.2.1,(a1_l.2.2.2.2.1,(a1_l.2.2.2.2.2.1,(a1_l.2.2.2.2.2.2.1,(a1_l.2.2.2.2.2.2.2.1,a1_l.2.2.2.2.2.2.2.2)))))))) 0).bind fun r17=>
 cond (cond (!r17.2) true (decide (r17.1>a2_t))) (
 some (-1)) (
 cond (a1_l.2.2.2.1==0) (
 let t32:=(w64 (a2_t-r17.1))
 let t35:=(w64 (3600*a1_l.2.2.2.2.1))
 cond (!(t35==0)) (
 let t36:=(w64 (Int.tdiv t32 t35))
 some t36) none) (
 (j00n (a0_b.1,a0_b.2) a2_t).bind fun r39=>
 let t44:=(w64 (r39.1-a1_l.2.2.1.1))
 (j07I (a1_l.1,(a1_l.2.1,((a1_l.2.2.1.1,a1_l.2.2.1.2),(a1_l.2.2.2.1,(a1_l.2.2.2.2.1,(a1_l.2.2.2.2.2.1,(a1_l.2.2.2.2.2.2.1,(a1_l.2.2.2.2.2.2.2.1,a1_l.2.2.2.2.2.2.2.2))))))))).bind fun r46=>
 cond (!(r46==0)) (
 let t47:=(w64 (Int.tdiv t44 r46))
 let t48:Int:=(if t47>0 then t47 else 0:Int)
 (j03T a2_t t48 a0_b.1 a0_b.2 a1_l.1 a1_l.2.1 a1_l.2.2.1.1 a1_l.2.2.1.2 a1_l.2.2.2.1 a1_l.2.2.2.2.1 a1_l.2.2.2.2.2.1 a1_l.2.2.2.2.2.2.1 a1_l.2.2.2.2.2.2.2.1 a1_l.2.2.2.2.2.2.2.2).bind fun q0=>
 (j03U q0.1 q0.2.1 q0.2.2.1 q0.2.2.2.1 q0.2.2.2.2.1 q0.2.2.2.2.2.1 q0.2.2.2.2.2.2.1 q0.2.2.2.2.2.2.2.1 q0.2.2.2.2.2.2.2.2.1 q0.2.2.2.2.2.2.2.2.2.1 q0.2.2.2.2.2.2.2.2.2.2.1 q0.2.2.2.2.2.2.2.2.2.2.2.1 q0.2.2.2.2.2.2.2.2.2.2.2.2.1 q0.2.2.2.2.2.2.2.2.2.2.2.2.2).bind fun q2=>
 some q2) none))
def j03V (s7:Tn14) (s8 s9:Int) (l3:Tn14):Option ((Tn14×Int×Int×Tn14) ⊕ (Tn14)):=
 cond (decide (s9<s8)) (
 cond (inR s9 (List.length s7)) (
 let t11_2:=(List.getD s7 (Int.toNat s9) (0,(0,0)))
 cond (decide (t11_2.2.1≤t11_2.1)) (
 let t55_7:=(w64 (s9+1))
 some (.inl (s7,s8,t55_7,l3))) (
 let t19_1:=(Int.ofNat (List.length l3))
 cond (decide (t19_1>0)) (
 let t25_2:=(w64 (t19_1-1))
 cond (inR t25_2 (List.length l3)) (
 let t28_1:=(List.getD l3 (Int.toNat t25_2) (0,(0,0))).2.1
 cond (t28_1==t11_2.1) (
 let t36_1:=(w64 (t19_1-1))
 cond (inR t36_1 (List.length l3)) (
 let t39_1:=(List.getD l3 (Int.toNat t36_1) (0,(0,0))).2.2
 cond (t39_1==t11_2.2.2) (
 let t46_1:=(w64 (t19_1-1))
 cond (inR t46_1 (List.length l3)) (
 let m7_1:Tn14:=(List.set l3 (Int.toNat t46_1) ((List.getD l3 (Int.toNat t46_1) (0,(0,0))).1,(t11_2.2.1,(List.getD l3 (Int.toNat t46_1) (0,(0,0))).2.2)))
 let t55_8:=(w64 (s9+1))
 some (.inl (s7,s8,t55_8,m7_1))) none) (
 let t53_4:Tn14:=[(t11_2.1,(t11_2.2.1,t11_2.2.2))]
 cond (decide (List.length l3+List.length t53_4≤sizeMax)) (
 let t54_4:Tn14:=(l3++t53_4)
 let t55_9:=(w64 (s9+1))
 some (.inl (s7,s8,t55_9,t54_4))) none)) none) (
 let t53_5:Tn14:=[(t11_2.1,(t11_2.2.1,t11_2.2.2))]
 cond (decide (List.length l3+List.length t53_5≤sizeMax)) (
 let t54_5:Tn14:=(l3++t53_5)
 let t55_10:=(w64 (s9+1))
 some (.inl (s7,s8,t55_10,t54_5))) none)) none) (
 let t53_6:Tn14:=[(t11_2.1,(t11_2.2.1,t11_2.2.2))]
 cond (decide (List.length l3+List.length t53_6≤sizeMax)) (
 let t54_6:Tn14:=(l3++t53_6)
 let t55_11:=(w64 (s9+1))
 some (.inl (s7,s8,t55_11,t54_6))) none))) none) (
 some (.inr l3))
def j045 [LP] (s7:Tn14) (s8 s9:Int) (l3:Tn14):Option (Tn14):=
 LP.lp (fun h=>j03V h.1 h.2.1 h.2.2.1 h.2.2.2) (s7,s8,s9,l3)
theorem j0ac (s7:Tn14) (s8 s9:Int) (l3:Tn14):j045 s7 s8 s9 l3=lpK (j03V s7 s8 s9 l3) (fun h=>j045 h.1 h.2.1 h.2.2.1 h.2.2.2):=j005 _ _
def j063 [LP] (a0_l:Tn14):Option (Tn14):=
 let t8:=(Int.ofNat (List.length a0_l))
 (j045 a0_l t8 0 ([]:Tn14)).bind fun q0=>
 some q0
def j00X [LP] (s3 s11 s12 s13 s31 s32:Int) (b5:ByteArray) (b5_1 b5_2 b5_3 b5_4 b5_5:Int) (b5_6:(List Int)) (b5_7:Tn2) (b5_8 b5_9 b10:Int) (b10_1:Tn2) (b15 b15_1:Int) (l9:Tn14) (l30:Tn2):Option ((Int×Int×Int×Int×Int×Int×ByteArray×Int×Int×Int×Int×Int×(List Int)×Tn2×Int×Int×Int×Tn2×Int×Int×Tn14×Tn2) ⊕ ((Int×Int×Int×Int×Int×Int×ByteArray×Int×Int×Int×Int×Int×(List Int)×Tn2×Int×Int×Int×Tn2×Tn14×Tn2))):=
 cond (decide (s11<b15_1)) (
 cond (decide (s11≥s13)) (
 (j01A (b10,b10_1) (b5,(b5_1,((b5_2,b5_3),(b5_4,(b5_5,(b5_6,(b5_7,(b5_8,b5_9)))))))) s11).bind fun r55_3=>
 let t60_3:=(w64 (r55_3+1))
 (j00C (b10,b10_1) (b5,(b5_1,((b5_2,b5_3),(b5_4,(b5_5,(b5_6,(b5_7,(b5_8,b5_9)))))))) t60_3).bind fun r61_3=>
 cond (!r61_3.2) (
 let t70_9:Int:=(if 8589934593<b15_1 then 8589934593 else b15_1:Int)
 let t79_9:=(Int.ofNat (List.length b5_6))
 cond (!(t79_9==0)) (
 let t80_9:=(Int.tmod r55_3 t79_9)
 cond (inR t80_9 (List.length b5_6)) (
 let t81_9:=(List.getD b5_6 (Int.toNat t80_9) 0)
 let t84_9:Tn14:=[(s11,(t70_9,t81_9))]
 cond (decide (List.length l9+List.length t84_9≤sizeMax)) (
 let t85_9:Tn14:=(l9++t84_9)
 some (.inl (s3,t70_9,r55_3,8589934593,s31,s32,b5,b5_1,b5_2,b5_3,b5_4,b5_5,b5_6,b5_7,b5_8,b5_9,b10,b10_1,b15,b15_1,t85_9,l30))) none) none) none) (
 let t70_10:Int:=(if r61_3.1<b15_1 then r61_3.1 else b15_1:Int)
 let t79_10:=(Int.ofNat (List.length b5_6))
 cond (!(t79_10==0)) (
 let t80_10:=(Int.tmod r55_3 t79_10)
 cond (inR t80_10 (List.length b5_6)) (
 let t81_10:=(List.getD b5_6 (Int.toNat t80_10) 0)
 let t84_10:Tn14:=[(s11,(t70_10,t81_10))]
 cond (decide (List.length l9+List.length t84_10≤sizeMax)) (
 let t85_10:Tn14:=(l9++t84_10)
 some (.inl (s3,t70_10,r55_3,r61_3.1,s31,s32,b5,b5_1,b5_2,b5_3,b5_4,b5_5,b5_6,b5_7,b5_8,b5_9,b10,b10_1,b15,b15_1,t85_10,l30))) none) none) none)) (
 let t70_11:Int:=(if s13<b15_1 then s13 else b15_1:Int)
 let t79_11:=(Int.ofNat (List.length b5_6))
 cond (!(t79_11==0)) (
 let t80_11:=(Int.tmod s12 t79_11)
 cond (inR t80_11 (List.length b5_6)) (
 let t81_11:=(List.getD b5_6 (Int.toNat t80_11) 0)
 let t84_11:Tn14:=[(s11,(t70_11,t81_11))]
 cond (decide (List.length l9+List.length t84_11≤sizeMax)) (
 let t85_11:Tn14:=(l9++t84_11)
 some (.inl (s3,t70_11,s12,s13,s31,s32,b5,b5_1,b5_2,b5_3,b5_4,b5_5,b5_6,b5_7,b5_8,b5_9,b10,b10_1,b15,b15_1,t85_11,l30))) none) none) none)) (
 some (.inr (s3,s11,s12,s13,s31,s32,b5,b5_1,b5_2,b5_3,b5_4,b5_5,b5_6,b5_7,b5_8,b5_9,b10,b10_1,l9,l30)))
def j01M [LP] (s3 s11 s12 s13 s31 s32:Int) (b5:ByteArray) (b5_1 b5_2 b5_3 b5_4 b5_5:Int) (b5_6:(List Int)) (b5_7:Tn2) (b5_8 b5_9 b10:Int) (b10_1:Tn2) (b15 b15_1:Int) (l9:Tn14) (l30:Tn2):Option ((Int×Int×Int×Int×Int×Int×ByteArray×Int×Int×Int×Int×Int×(List Int)×Tn2×Int×Int×Int×Tn2×Tn14×Tn2)):=
 LP.lp (fun h=>j00X h.1 h.2.1 h.2.2.1 h.2.2.2.1 h.2.2.2.2.1 h.2.2.2.2.2.1 h.2.2.2.2.2.2.1 h.2.2.2.2.2.2.2.1 h.2.2.2.2.2.2.2.2.1 h.2.2.2.2.2.2.2.2.2.1 h.2.2.2.2.2.2.2.2.2.2.1 h.2.2.2.2.2.2.2.2.2.2.2.1 h.2.2.2.2.2.2.2.2.2.2.2.2.1 h.2.2.2.2.2.2.2.2.2.2.2.2.2.1 h.2.2.2.2.2.2.2.2.2.2.2.2.2.2.1 h.2.2.2.2.2.2.2.2.2.2.2.2.2.2.2.1 h.2.2.2.2.2.2.2.2.2.2.2.2.2.2.2.2.1 h.2.2.2.2.2.2.2.2.2.2.2.2.2.2.2.2.2.1 h.2.2.2.2.2.2.2.2.2.2.2.2.2.2.2.2.2.2.1 h.2.2.2.2.2.2.2.2.2.2.2.2.2.2.2.2.2.2.2.1 h.2.2.2.2.2.2.2.2.2.2.2.2.2.2.2.2.2.2.2.2.1 h.2.2.2.2.2.2.2.2.2.2.2.2.2.2.2.2.2.2.2.2.2) (s3,s11,s12,s13,s31,s32,b5,b5_1,b5_2,b5_3,b5_4,b5_5,b5_6,b5_7,b5_8,b5_9,b10,b10_1,b15,b15_1,l9,l30)
theorem j09l (s3 s11 s12 s13 s31 s32:Int) (b5:ByteArray) (b5_1 b5_2 b5_3 b5_4 b5_5:Int) (b5_6:(List Int)) (b5_7:Tn2) (b5_8 b5_9 b10:Int) (b10_1:Tn2) (b15 b15_1:Int) (l9:Tn14) (l30:Tn2):j01M s3 s11 s12 s13 s31 s32 b5 b5_1 b5_2 b5_3 b5_4 b5_5 b5_6 b5_7 b5_8 b5_9 b10 b10_1 b15 b15_1 l9 l30=lpK (j00X s3 s11 s12 s13 s31 s32 b5 b5_1 b5_2 b5_3 b5_4 b5_5 b5_6 b5_7 b5_8 b5_9 b10 b10_1 b15 b15_1 l9 l30) (fun h=>j01M h.1 h.2.1 h.2.2.1 h.2.2.2.1 h.2.2.2.2.1 h.2.2.2.2.2.1 h.2.2.2.2.2.2.1 h.2.2.2.2.2.2.2.1 h.2.2.2.2.2.2.2.2.1 h.2.2.2.2.2.2.2.2.2.1 h.2.2.2.2.2.2.2.2.2.2.1 h.2.2.2.2.2.2.2.2.2.2.2.1 h.2.2.2.2.2.2.2.2.2.2.2.2.1 h.2.2.2.2.2.2.2.2.2.2.2.2.2.1 h.2.2.2.2.2.2.2.2.2.2.2.2.2.2.1 h.2.2.2.2.2.2.2.2.2.2.2.2.2.2.2.1 h.2.2.2.2.2.2.2.2.2.2.2.2.2.2.2.2.1 h.2.2.2.2.2.2.2.2.2.2.2.2.2.2.2.2.2.1 h.2.2.2.2.2.2.2.2.2.2.2.2.2.2.2.2.2.2.1 h.2.2.2.2.2.2.2.2.2.2.2.2.2.2.2.2.2.2.2.1 h.2.2.2.2.2.2.2.2.2.2.2.2.2.2.2.2.2.2.2.2.1 h.2.2.2.2.2.2.2.2.2.2.2.2.2.2.2.2.2.2.2.2.2):=j005 _ _
def j00I [LP] (s3 s11 s12 s13 s31 s32:Int) (b5:ByteArray) (b5_1 b5_2 b5_3 b5_4 b5_5:Int) (b5_6:(List Int)) (b5_7:Tn2) (b5_8 b5_9 b10:Int) (b10_1:Tn2) (l9:Tn14) (l30:Tn2):Option ((Int×Int×Int×Int×Int×Int×ByteArray×Int×Int×Int×Int×Int×(List Int)×Tn2×Int×Int×Int×Tn2×Tn14×Tn2) ⊕ ((Int×Int×Tn14))):=
 cond (decide (s32<s31)) (
 cond (inR s32 (List.length l30)) (
 let t35_4:=(List.getD l30 (Int.toNat s32) (0,0)).1
 let t35_5:=(List.getD l30 (Int.toNat s32) (0,0)).2
 let t41_2:Tn14:=[(s11,(t35_4,(-1)))]
 cond (decide (List.length l9+List.length t41_2≤sizeMax)) (
 let t42_2:Tn14:=(l9++t41_2)
 (j01M s3 t35_4 s12 s13 s31 s32 b5 b5_1 b5_2 b5_3 b5_4 b5_5 b5_6 b5_7 b5_8 b5_9 b10 b10_1 t35_4 t35_5 t42_2 l30).bind fun q2_2=>
 let t87_2:=(w64 (q2_2.2.2.2.2.2.1+1))
 some (.inl (q2_2.1,q2_2.2.1,q2_2.2.2.1,q2_2.2.2.2.1,q2_2.2.2.2.2.1,t87_2,q2_2.2.2.2.2.2.2.1,q2_2.2.2.2.2.2.2.2.1,q2_2.2.2.2.2.2.2.2.2.1,q2_2.2.2.2.2.2.2.2.2.2.1,q2_2.2.2.2.2.2.2.2.2.2.2.1,q2_2.2.2.2.2.2.2.2.2.2.2.2.1,q2_2.2.2.2.2.2.2.2.2.2.2.2.2.1,q2_2.2.2.2.2.2.2.2.2.2.2.2.2.2.1,q2_2.2.2.2.2.2.2.2.2.2.2.2.2.2.2.1,q2_2.2.2.2.2.2.2.2.2.2.2.2.2.2.2.2.1,q2_2.2.2.2.2.2.2.2.2.2.2.2.2.2.2.2.2.1,q2_2.2.2.2.2.2.2.2.2.2.2.2.2.2.2.2.2.2.1,q2_2.2.2.2.2.2.2.2.2.2.2.2.2.2.2.2.2.2.2.1,q2_2.2.2.2.2.2.2.2.2.2.2.2.2.2.2.2.2.2.2.2))) none) none) (
 some (.inr (s3,s11,l9)))
def j01N [LP] (s3 s11 s12 s13 s31 s32:Int) (b5:ByteArray) (b5_1 b5_2 b5_3 b5_4 b5_5:Int) (b5_6:(List Int)) (b5_7:Tn2) (b5_8 b5_9 b10:Int) (b10_1:Tn2) (l9:Tn14) (l30:Tn2):Option ((Int×Int×Tn14)):=
 LP.lp (fun h=>j00I h.1 h.2.1 h.2.2.1 h.2.2.2.1 h.2.2.2.2.1 h.2.2.2.2.2.1 h.2.2.2.2.2.2.1 h.2.2.2.2.2.2.2.1 h.2.2.2.2.2.2.2.2.1 h.2.2.2.2.2.2.2.2.2.1 h.2.2.2.2.2.2.2.2.2.2.1 h.2.2.2.2.2.2.2.2.2.2.2.1 h.2.2.2.2.2.2.2.2.2.2.2.2.1 h.2.2.2.2.2.2.2.2.2.2.2.2.2.1 h.2.2.2.2.2.2.2.2.2.2.2.2.2.2.1 h.2.2.2.2.2.2.2.2.2.2.2.2.2.2.2.1 h.2.2.2.2.2.2.2.2.2.2.2.2.2.2.2.2.1 h.2.2.2.2.2.2.2.2.2.2.2.2.2.2.2.2.2.1 h.2.2.2.2.2.2.2.2.2.2.2.2.2.2.2.2.2.2.1 h.2.2.2.2.2.2.2.2.2.2.2.2.2.2.2.2.2.2.2) (s3,s11,s12,s13,s31,s32,b5,b5_1,b5_2,b5_3,b5_4,b5_5,b5_6,b5_7,b5_8,b5_9,b10,b10_1,l9,l30)
theorem j064 (s3 s11 s12 s13 s31 s32:Int) (b5:ByteArray) (b5_1 b5_2 b5_3 b5_4 b5_5:Int) (b5_6:(List Int)) (b5_7:Tn2) (b5_8 b5_9 b10:Int) (b10_1:Tn2) (l9:Tn14) (l30:Tn2):j01N s3 s11 s12 s13 s31 s32 b5 b5_1 b5_2 b5_3 b5_4 b5_5 b5_6 b5_7 b5_8 b5_9 b10 b10_1 l9 l30=lpK (j00I s3 s11 s12 s13 s31 s32 b5 b5_1 b5_2 b5_3 b5_4 b5_5 b5_6 b5_7 b5_8 b5_9 b10 b10_1 l9 l30) (fun h=>j01N h.1 h.2.1 h.2.2.1 h.2.2.2.1 h.2.2.2.2.1 h.2.2.2.2.2.1 h.2.2.2.2.2.2.1 h.2.2.2.2.2.2.2.1 h.2.2.2.2.2.2.2.2.1 h.2.2.2.2.2.2.2.2.2.1 h.2.2.2.2.2.2.2.2.2.2.1 h.2.2.2.2.2.2.2.2.2.2.2.1 h.2.2.2.2.2.2.2.2.2.2.2.2.1 h.2.2.2.2.2.2.2.2.2.2.2.2.2.1 h.2.2.2.2.2.2.2.2.2.2.2.2.2.2.1 h.2.2.2.2.2.2.2.2.2.2.2.2.2.2.2.1 h.2.2.2.2.2.2.2.2.2.2.2.2.2.2.2.2.1 h.2.2.2.2.2.2.2.2.2.2.2.2.2.2.2.2.2.1 h.2.2.2.2.2.2.2.2.2.2.2.2.2.2.2.2.2.2.1 h.2.2.2.2.2.2.2.2.2.2.2.2.2.2.2.2.2.2.2):=j005 _ _
def j014 [LP] (a0_v:Tn73) (a1_l:Tn59) (a2_from a3_to:Int):Option (Tn14):=
 cond (inR a1_l.2.1 (List.length a0_v.2)) (
 let t23:=(List.getD a0_v.2 (Int.toNat a1_l.2.1) (0,([]:Tn2)))
 (j02X ((a0_v.1.1,(a0_v.1.2.1,(a0_v.1.2.2.1,a0_v.1.2.2.2))),a0_v.2) (a1_l.1,(a1_l.2.1,((a1_l.2.2.1.1,a1_l.2.2.1.2),(a1_l.2.2.2.1,(a1_l.2.2.2.2.1,(a1_l.2.2.2.2.2.1,(a1_l.2.2.2.2.2.2.1,(a1_l.2.2.2.2.2.2.2.1,a1_l.2.2.2.2.2.2.2.2)))))))) a2_from a3_to).bind fun r30=>
 let t31:=(Int.ofNat (List.length r30))
 (j01N a3_to a2_from (-1) (-1) t31 0 a1_l.1 a1_l.2.1 a1_l.2.2.1.1 a1_l.2.2.1.2 a1_l.2.2.2.1 a1_l.2.2.2.2.1 a1_l.2.2.2.2.2.1 a1_l.2.2.2.2.2.2.1 a1_l.2.2.2.2.2.2.2.1 a1_l.2.2.2.2.2.2.2.2 t23.1 t23.2 ([]:Tn14) r30).bind fun q0=>
 let t92:Tn14:=[(q0.2.1,(q0.1,(-1)))]
 cond (decide (List.length q0.2.2+List.length t92≤sizeMax)) (
 let t93:Tn14:=(q0.2.2++t92)
 (j063 t93).bind fun r94=>
 some r94) none) none
def j03b (s1:Int) (s9:Tn29) (s10 s11:Int) (l5:Tn2):Option ((Int×Tn29×Int×Int×Tn2) ⊕ (Tn2)):=
 cond (decide (s11<s10)) (
 cond (inR s11 (List.length s9)) (
 let t13_2:=(List.getD s9 (Int.toNat s11) (0,(0,(0,(0,0)))))
 cond (cond (t13_2.1==0) (t13_2.2.1==s1) false) (
 let t30_2:Tn2:=[(t13_2.2.2.2.1,t13_2.2.2.2.2)]
 cond (decide (List.length l5+List.length t30_2≤sizeMax)) (
 let t31_2:Tn2:=(l5++t30_2)
 let t32_4:=(w64 (s11+1))
 some (.inl (s1,s9,s10,t32_4,t31_2))) none) (
 let t32_5:=(w64 (s11+1))
 some (.inl (s1,s9,s10,t32_5,l5)))) none) (
 some (.inr l5))
def j03A [LP] (s1:Int) (s9:Tn29) (s10 s11:Int) (l5:Tn2):Option (Tn2):=
 LP.lp (fun h=>j03b h.1 h.2.1 h.2.2.1 h.2.2.2.1 h.2.2.2.2) (s1,s9,s10,s11,l5)
theorem j098 (s1:Int) (s9:Tn29) (s10 s11:Int) (l5:Tn2):j03A s1 s9 s10 s11 l5=lpK (j03b s1 s9 s10 s11 l5) (fun h=>j03A h.1 h.2.1 h.2.2.1 h.2.2.2.1 h.2.2.2.2):=j005 _ _
def j03B [LP] (a0_s:Tn64) (a1_person:Int):Option (Tn2):=
 let t10:=(Int.ofNat (List.length a0_s.2.2))
 (j03A a1_person a0_s.2.2 t10 0 ([]:Tn2)).bind fun q0=>
 (j05e q0).bind fun r34=>
 some r34
def j02P (s14:Tn14) (s15 s16 s50 s51:Int) (b2:ByteArray) (b2_1:Tn60) (b2_2:Tn29) (b8 b8_1 b8_2:Int) (l5:Tn20) (l6:Tn14) (l49:Tn2):Option ((Tn14×Int×Int×Int×Int×ByteArray×Tn60×Tn29×Int×Int×Int×Tn20×Tn14×Tn2) ⊕ ((Tn14×Int×Int×ByteArray×Tn60×Tn29×Tn20×Tn14))):=
 cond (decide (s51<s50)) (
 cond (inR s51 (List.length l49)) (
 let t54_8:=(List.getD l49 (Int.toNat s51) (0,0)).1
 let t54_9:=(List.getD l49 (Int.toNat s51) (0,0)).2
 let t63_4:Tn14:=[(t54_8,(t54_9,b8_2))]
 cond (decide (List.length l6+List.length t63_4≤sizeMax)) (
 let t64_4:Tn14:=(l6++t63_4)
 let t65_4:=(w64 (s51+1))
 some (.inl (s14,s15,s16,s50,t65_4,b2,b2_1,b2_2,b8,b8_1,b8_2,l5,t64_4,l49))) none) none) (
 some (.inr (s14,s15,s16,b2,b2_1,b2_2,l5,l6)))
def j02d [LP] (s14:Tn14) (s15 s16 s50 s51:Int) (b2:ByteArray) (b2_1:Tn60) (b2_2:Tn29) (b8 b8_1 b8_2:Int) (l5:Tn20) (l6:Tn14) (l49:Tn2):Option ((Tn14×Int×Int×ByteArray×Tn60×Tn29×Tn20×Tn14)):=
 LP.lp (fun h=>j02P h.1 h.2.1 h.2.2.1 h.2.2.2.1 h.2.2.2.2.1 h.2.2.2.2.2.1 h.2.2.2.2.2.2.1 h.2.2.2.2.2.2.2.1 h.2.2.2.2.2.2.2.2.1 h.2.2.2.2.2.2.2.2.2.1 h.2.2.2.2.2.2.2.2.2.2.1 h.2.2.2.2.2.2.2.2.2.2.2.1 h.2.2.2.2.2.2.2.2.2.2.2.2.1 h.2.2.2.2.2.2.2.2.2.2.2.2.2) (s14,s15,s16,s50,s51,b2,b2_1,b2_2,b8,b8_1,b8_2,l5,l6,l49)
theorem j08l (s14:Tn14) (s15 s16 s50 s51:Int) (b2:ByteArray) (b2_1:Tn60) (b2_2:Tn29) (b8 b8_1 b8_2:Int) (l5:Tn20) (l6:Tn14) (l49:Tn2):j02d s14 s15 s16 s50 s51 b2 b2_1 b2_2 b8 b8_1 b8_2 l5 l6 l49=lpK (j02P s14 s15 s16 s50 s51 b2 b2_1 b2_2 b8 b8_1 b8_2 l5 l6 l49) (fun h=>j02d h.1 h.2.1 h.2.2.1 h.2.2.2.1 h.2.2.2.2.1 h.2.2.2.2.2.1 h.2.2.2.2.2.2.1 h.2.2.2.2.2.2.2.1 h.2.2.2.2.2.2.2.2.1 h.2.2.2.2.2.2.2.2.2.1 h.2.2.2.2.2.2.2.2.2.2.1 h.2.2.2.2.2.2.2.2.2.2.2.1 h.2.2.2.2.2.2.2.2.2.2.2.2.1 h.2.2.2.2.2.2.2.2.2.2.2.2.2):=j005 _ _
def j01l [LP] (s14:Tn14) (s15 s16:Int) (b2:ByteArray) (b2_1:Tn60) (b2_2:Tn29) (l5:Tn20) (l6:Tn14):Option ((Tn14×Int×Int×ByteArray×Tn60×Tn29×Tn20×Tn14) ⊕ (Tn14)):=
 cond (decide (s16<s15)) (
 cond (inR s16 (List.length s14)) (
 let t18_2:=(List.getD s14 (Int.toNat s16) (0,(0,0)))
 cond (decide (t18_2.2.2<0)) (
 let t66_6:=(w64 (s16+1))
 some (.inl (s14,s15,t66_6,b2,b2_1,b2_2,l5,l6))) (
 let t27_2:Tn2:=(mapGet ([]:Tn2) l5 t18_2.2.2)
 cond (!(mapHas l5 t18_2.2.2)) (
 (j03B (b2,(b2_1,b2_2)) t18_2.2.2).bind fun r38_2=>
 let m7_2:Tn20:=(mapSet l5 t18_2.2.2 r38_2)
 let t44_4:Tn2:=[(t18_2.1,t18_2.2.1)]
 let t48_4:Tn2:=(mapGet ([]:Tn2) m7_2 t18_2.2.2)
 (j01Y t44_4 t48_4).bind fun r49_4=>
 let t50_4:=(Int.ofNat (List.length r49_4))
 (j02d s14 s15 s16 t50_4 0 b2 b2_1 b2_2 t18_2.1 t18_2.2.1 t18_2.2.2 m7_2 l6 r49_4).bind fun q2_4=>
 let t66_7:=(w64 (q2_4.2.2.1+1))
 some (.inl (q2_4.1,q2_4.2.1,t66_7,q2_4.2.2.2.1,q2_4.2.2.2.2.1,q2_4.2.2.2.2.2.1,q2_4.2.2.2.2.2.2.1,q2_4.2.2.2.2.2.2.2))) (
 let t44_5:Tn2:=[(t18_2.1,t18_2.2.1)]
 let t48_5:Tn2:=(mapGet ([]:Tn2) l5 t18_2.2.2)
 (j01Y t44_5 t48_5).bind fun r49_5=>
 let t50_5:=(Int.ofNat (List.length r49_5))
 (j02d s14 s15 s16 t50_5 0 b2 b2_1 b2_2 t18_2.1 t18_2.2.1 t18_2.2.2 l5 l6 r49_5).bind fun q2_5=>
 let t66_8:=(w64 (q2_5.2.2.1+1))
 some (.inl (q2_5.1,q2_5.2.1,t66_8,q2_5.2.2.2.1,q2_5.2.2.2.2.1,q2_5.2.2.2.2.2.1,q2_5.2.2.2.2.2.2.1,q2_5.2.2.2.2.2.2.2))))) none) (
 some (.inr l6))
def j02x [LP] (s14:Tn14) (s15 s16:Int) (b2:ByteArray) (b2_1:Tn60) (b2_2:Tn29) (l5:Tn20) (l6:Tn14):Option (Tn14):=
 LP.lp (fun h=>j01l h.1 h.2.1 h.2.2.1 h.2.2.2.1 h.2.2.2.2.1 h.2.2.2.2.2.1 h.2.2.2.2.2.2.1 h.2.2.2.2.2.2.2) (s14,s15,s16,b2,b2_1,b2_2,l5,l6)
theorem j08m (s14:Tn14) (s15 s16:Int) (b2:ByteArray) (b2_1:Tn60) (b2_2:Tn29) (l5:Tn20) (l6:Tn14):j02x s14 s15 s16 b2 b2_1 b2_2 l5 l6=lpK (j01l s14 s15 s16 b2 b2_1 b2_2 l5 l6) (fun h=>j02x h.1 h.2.1 h.2.2.1 h.2.2.2.1 h.2.2.2.2.1 h.2.2.2.2.2.1 h.2.2.2.2.2.2.1 h.2.2.2.2.2.2.2):=j005 _ _
def j046 [LP] (a0_s:Tn64) (a1_l:Tn14):Option (Tn14):=
 let t13:Tn20:=([]:Tn20)
 let t15:=(Int.ofNat (List.length a1_l))
 (j02x a1_l t15 0 a0_s.1 a0_s.2.1 a0_s.2.2 t13 ([]:Tn14)).bind fun q0=>
 some q0
def j04a (s0:Tn14) (s1:Tn2) (s6 s7:Int) (l5:Tn14):Option ((Tn14×Tn2×Int×Int×Tn14) ⊕ (Tn14)):=
 let t11_2:=(Int.ofNat (List.length s0))
 let t16_2:=(Int.ofNat (List.length s1))
 cond (cond (decide (s6<t11_2)) (decide (s7<t16_2)) false) (
 cond (inR s6 (List.length s0)) (
 let t21_2:=(List.getD s0 (Int.toNat s6) (0,(0,0)))
 cond (inR s7 (List.length s1)) (
 let t26_2:=(List.getD s1 (Int.toNat s7) (0,0))
 let t29_2:Int:=(if t26_2.1>t21_2.1 then t26_2.1 else t21_2.1:Int)
 cond (inR s6 (List.length s0)) (
 let t32_2:=(List.getD s0 (Int.toNat s6) (0,(0,0)))
 cond (inR s7 (List.length s1)) (
 let t37_2:=(List.getD s1 (Int.toNat s7) (0,0))
 let t40_2:Int:=(if t37_2.2<t32_2.2.1 then t37_2.2 else t32_2.2.1:Int)
 cond (inR s6 (List.length s0)) (
 let t43_2:=(List.getD s0 (Int.toNat s6) (0,(0,0)))
 cond (decide (t29_2<t40_2)) (
 let t54_2:Tn14:=[(t29_2,(t40_2,t43_2.2.2))]
 cond (decide (List.length l5+List.length t54_2≤sizeMax)) (
 let t55_2:Tn14:=(l5++t54_2)
 cond (inR s6 (List.length s0)) (
 let t58_4:=(List.getD s0 (Int.toNat s6) (0,(0,0)))
 cond (inR s7 (List.length s1)) (
 let t63_4:=(List.getD s1 (Int.toNat s7) (0,0))
 cond (decide (t58_4.2.1<t63_4.2)) (
 let t68_4:=(w64 (s6+1))
 some (.inl (s0,s1,t68_4,s7,t55_2))) (
 let t70_4:=(w64 (s7+1))
 some (.inl (s0,s1,s6,t70_4,t55_2)))) none) none) none) (
 cond (inR s6 (List.length s0)) (
 let t58_5:=(List.getD s0 (Int.toNat s6) (0,(0,0)))
 cond (inR s7 (List.length s1)) (
 let t63_5:=(List.getD s1 (Int.toNat s7) (0,0))
 cond (decide (t58_5.2.1<t63_5.2)) (
 let t68_5:=(w64 (s6+1))
 some (.inl (s0,s1,t68_5,s7,l5))) (
 let t70_5:=(w64 (s7+1))
 some (.inl (s0,s1,s6,t70_5,l5)))) none) none)) none) none) none) none) none) (
 some (.inr l5))
def j02t [LP] (s0:Tn14) (s1:Tn2) (s6 s7:Int) (l5:Tn14):Option (Tn14):=
 LP.lp (fun h=>j04a h.1 h.2.1 h.2.2.1 h.2.2.2.1 h.2.2.2.2) (s0,s1,s6,s7,l5)
theorem j0ck (s0:Tn14) (s1:Tn2) (s6 s7:Int) (l5:Tn14):j02t s0 s1 s6 s7 l5=lpK (j04a s0 s1 s6 s7 l5) (fun h=>j02t h.1 h.2.1 h.2.2.1 h.2.2.2.1 h.2.2.2.2):=j005 _ _
def j05A [LP] (a0_l:Tn14) (a1_free:Tn2):Option (Tn14):=
 (j02t a0_l a1_free 0 0 ([]:Tn14)).bind fun q0=>
 some q0
def j03q (s6:Tn14) (s7 s8:Int) (l3:Tn2):Option ((Tn14×Int×Int×Tn2) ⊕ (Tn2)):=
 cond (decide (s8<s7)) (
 cond (inR s8 (List.length s6)) (
 let t10_2:=(List.getD s6 (Int.toNat s8) (0,(0,0)))
 let t18_2:Tn2:=[(t10_2.1,t10_2.2.1)]
 cond (decide (List.length l3+List.length t18_2≤sizeMax)) (
 let t19_2:Tn2:=(l3++t18_2)
 let t20_2:=(w64 (s8+1))
 some (.inl (s6,s7,t20_2,t19_2))) none) none) (
 some (.inr l3))
def j04b [LP] (s6:Tn14) (s7 s8:Int) (l3:Tn2):Option (Tn2):=
 LP.lp (fun h=>j03q h.1 h.2.1 h.2.2.1 h.2.2.2) (s6,s7,s8,l3)
theorem j09M (s6:Tn14) (s7 s8:Int) (l3:Tn2):j04b s6 s7 s8 l3=lpK (j03q s6 s7 s8 l3) (fun h=>j04b h.1 h.2.1 h.2.2.1 h.2.2.2):=j005 _ _
def j05W [LP] (a0_l:Tn14):Option (Tn2):=
 let t7:=(Int.ofNat (List.length a0_l))
 (j04b a0_l t7 0 ([]:Tn2)).bind fun q0=>
 (j05e q0).bind fun r22=>
 some r22
def j02F (a0_a a1_b:Tn3):Option (Int):=
 let t9:=(w64 (a0_a.1-a1_b.1))
 some t9
def j00v (a0_x:Tn14):Option (Tn14):=
 sortP ((.pair (.int .i64) (.pair (.int .i64) (.int .i64)))) (fun x y=>(j02F x y).getD 0) a0_x
def j00T [LP] (n0:Int) (s25:Tn60) (b4:Tn54) (b4_1:Tn48) (b4_2:Tn26) (b4_3:Tn65) (b4_4:Tn20) (b5:ByteArray) (b5_1:Tn60) (b5_2:Tn29) (b6 b7:Int) (l9c0:Tn2) (l10c0:Tn14):Option ((Int×Tn60×Tn54×Tn48×Tn26×Tn65×Tn20×ByteArray×Tn60×Tn29×Int×Int×Tn2×Tn14) ⊕ ((Tn2×Tn14))):=
 cond (decide (n0≤0)) (
 some (.inr (l9c0,l10c0))) (
 cond (decide (n0≤Int.ofNat (List.length s25))) (
 let t26_2:Int:=(n0-1)
 let t27_2:=(List.getD s25 (Int.toNat t26_2) (ByteArray.empty,(0,((0,0),(0,(0,(([]:(List Int)),(([]:Tn2),(0,0)))))))))
 (j014 ((b4,(b4_1,(b4_2,b4_3))),b4_4) (t27_2.1,(t27_2.2.1,((t27_2.2.2.1.1,t27_2.2.2.1.2),(t27_2.2.2.2.1,(t27_2.2.2.2.2.1,(t27_2.2.2.2.2.2.1,(t27_2.2.2.2.2.2.2.1,(t27_2.2.2.2.2.2.2.2.1,t27_2.2.2.2.2.2.2.2.2)))))))) b6 b7).bind fun r33_2=>
 (j046 (b5,(b5_1,b5_2)) r33_2).bind fun r34_2=>
 (j05A r34_2 l9c0).bind fun r36_2=>
 cond (decide (List.length l10c0+List.length r36_2≤sizeMax)) (
 let t39_2:Tn14:=(l10c0++r36_2)
 (j05W r36_2).bind fun r42_2=>
 (j01Y l9c0 r42_2).bind fun r43_2=>
 some (.inl ((n0-1),s25,b4,b4_1,b4_2,b4_3,b4_4,b5,b5_1,b5_2,b6,b7,r43_2,t39_2))) none) none)
def j02e [LP] (n0:Int) (s25:Tn60) (b4:Tn54) (b4_1:Tn48) (b4_2:Tn26) (b4_3:Tn65) (b4_4:Tn20) (b5:ByteArray) (b5_1:Tn60) (b5_2:Tn29) (b6 b7:Int) (l9c0:Tn2) (l10c0:Tn14):Option ((Tn2×Tn14)):=
 LP.lp (fun h=>j00T h.1 h.2.1 h.2.2.1 h.2.2.2.1 h.2.2.2.2.1 h.2.2.2.2.2.1 h.2.2.2.2.2.2.1 h.2.2.2.2.2.2.2.1 h.2.2.2.2.2.2.2.2.1 h.2.2.2.2.2.2.2.2.2.1 h.2.2.2.2.2.2.2.2.2.2.1 h.2.2.2.2.2.2.2.2.2.2.2.1 h.2.2.2.2.2.2.2.2.2.2.2.2.1 h.2.2.2.2.2.2.2.2.2.2.2.2.2) (n0,s25,b4,b4_1,b4_2,b4_3,b4_4,b5,b5_1,b5_2,b6,b7,l9c0,l10c0)
theorem j06K (n0:Int) (s25:Tn60) (b4:Tn54) (b4_1:Tn48) (b4_2:Tn26) (b4_3:Tn65) (b4_4:Tn20) (b5:ByteArray) (b5_1:Tn60) (b5_2:Tn29) (b6 b7:Int) (l9c0:Tn2) (l10c0:Tn14):j02e n0 s25 b4 b4_1 b4_2 b4_3 b4_4 b5 b5_1 b5_2 b6 b7 l9c0 l10c0=lpK (j00T n0 s25 b4 b4_1 b4_2 b4_3 b4_4 b5 b5_1 b5_2 b6 b7 l9c0 l10c0) (fun h=>j02e h.1 h.2.1 h.2.2.1 h.2.2.2.1 h.2.2.2.2.1 h.2.2.2.2.2.1 h.2.2.2.2.2.2.1 h.2.2.2.2.2.2.2.1 h.2.2.2.2.2.2.2.2.1 h.2.2.2.2.2.2.2.2.2.1 h.2.2.2.2.2.2.2.2.2.2.1 h.2.2.2.2.2.2.2.2.2.2.2.1 h.2.2.2.2.2.2.2.2.2.2.2.2.1 h.2.2.2.2.2.2.2.2.2.2.2.2.2):=j005 _ _
def j02f (s45 s46:Int) (l44:Tn2) (l10c0:Tn14):Option ((Int×Int×Tn2×Tn14) ⊕ (Tn14)):=
 cond (decide (s46<s45)) (
 cond (inR s46 (List.length l44)) (
 let t49_2:=(List.getD l44 (Int.toNat s46) (0,0)).1
 let t49_3:=(List.getD l44 (Int.toNat s46) (0,0)).2
 let t56_1:Tn14:=[(t49_2,(t49_3,(-1)))]
 cond (decide (List.length l10c0+List.length t56_1≤sizeMax)) (
 let t57_1:Tn14:=(l10c0++t56_1)
 let t58_1:=(w64 (s46+1))
 some (.inl (s45,t58_1,l44,t57_1))) none) none) (
 some (.inr l10c0))
def j02g [LP] (s45 s46:Int) (l44:Tn2) (l10c0:Tn14):Option (Tn14):=
 LP.lp (fun h=>j02f h.1 h.2.1 h.2.2.1 h.2.2.2) (s45,s46,l44,l10c0)
theorem j06L (s45 s46:Int) (l44:Tn2) (l10c0:Tn14):j02g s45 s46 l44 l10c0=lpK (j02f s45 s46 l44 l10c0) (fun h=>j02g h.1 h.2.1 h.2.2.1 h.2.2.2):=j005 _ _
def j02h [LP] (a0_v:Tn73) (a1_s:Tn64) (a2_from a3_to:Int):Option (Tn14):=
 cond (decide (a2_from≥a3_to)) (
 some ([]:Tn14)) (
 let t22:Tn2:=[(a2_from,a3_to)]
 (j00K a1_s.2.1).bind fun r25=>
 (j02e (Int.ofNat (List.length r25)) r25 a0_v.1.1 a0_v.1.2.1 a0_v.1.2.2.1 a0_v.1.2.2.2 a0_v.2 a1_s.1 a1_s.2.1 a1_s.2.2 a2_from a3_to t22 ([]:Tn14)).bind fun q0=>
 let t45:=(Int.ofNat (List.length q0.1))
 (j02g t45 0 q0.1 q0.2).bind fun q2=>
 (j00v q2).bind fun r60=>
 (j063 r60).bind fun r62=>
 some r62)
def j02U [LP] (a0_c:Tn71) (a1_schedule a2_from a3_to:Int):Option (Tn14×Int):=
 (j05T (a0_c.1,(a0_c.2.1,(a0_c.2.2.1,a0_c.2.2.2))) a1_schedule a2_from a3_to).bind fun r18=>
 cond (r18.2 != 0) (
 some (([]:Tn14),r18.2)) (
 cond (inR a1_schedule (List.length a0_c.2.2.2)) (
 let t28:=(List.getD a0_c.2.2.2 (Int.toNat a1_schedule) (ByteArray.empty,(([]:Tn60),([]:Tn29))))
 (j02h ((r18.1.1.1,(r18.1.1.2.1,(r18.1.1.2.2.1,r18.1.1.2.2.2))),r18.1.2) (t28.1,(t28.2.1,t28.2.2)) a2_from a3_to).bind fun r32=>
 let t34:=(Int.ofNat (List.length r32))
 cond (decide (t34>16384)) (
 some (([]:Tn14),5)) (
 some (r32,0))) none)
def j06M [LP] (a0_c:Tn71) (a1_schedule:Int):Option (Tn73×Tn64×Bool):=
 (duty_Of (a0_c.1,(a0_c.2.1,(a0_c.2.2.1,a0_c.2.2.2)))).bind fun r11=>
 cond (!r11.2) (
 some (((r11.1.1.1,(r11.1.1.2.1,(r11.1.1.2.2.1,r11.1.1.2.2.2))),r11.1.2),(ByteArray.empty,(([]:Tn60),([]:Tn29))),false)) (
 (j091 (a0_c.1,(a0_c.2.1,(a0_c.2.2.1,a0_c.2.2.2))) a1_schedule).bind fun r19=>
 cond (!r19) (
 some (((r11.1.1.1,(r11.1.1.2.1,(r11.1.1.2.2.1,r11.1.1.2.2.2))),r11.1.2),(ByteArray.empty,(([]:Tn60),([]:Tn29))),false)) (
 cond (inR a1_schedule (List.length a0_c.2.2.2)) (
 let t28:=(List.getD a0_c.2.2.2 (Int.toNat a1_schedule) (ByteArray.empty,(([]:Tn60),([]:Tn29))))
 some (((r11.1.1.1,(r11.1.1.2.1,(r11.1.1.2.2.1,r11.1.1.2.2.2))),r11.1.2),(t28.1,(t28.2.1,t28.2.2)),true)) none))
def j02Y (a0_l:(Int×Int)):Option (Int):=
 (j05R a0_l.1).bind fun r5=>
 let t6:=(w64 (r5*86400))
 let t9:=(w64 (t6+a0_l.2))
 some t9
def j04K (s1:Int) (s7:Tn2) (s8 s9:Int):Option ((Int×Tn2×Int×Int) ⊕ (Bool ⊕ Unit)):=
 cond (decide (s9<s8)) (
 cond (inR s9 (List.length s7)) (
 let t11_1:=(List.getD s7 (Int.toNat s9) (0,0))
 cond (cond (decide (t11_1.1≤s1)) (decide (s1<t11_1.2)) false) (
 some (.inr (.inl true))) (
 let t23_1:=(w64 (s9+1))
 some (.inl (s1,s7,s8,t23_1)))) none) (
 some (.inr (.inr ())))
def j07B [LP] (s1:Int) (s7:Tn2) (s8 s9:Int):Option (Bool ⊕ Unit):=
 LP.lp (fun h=>j04K h.1 h.2.1 h.2.2.1 h.2.2.2) (s1,s7,s8,s9)
theorem j0bu (s1:Int) (s7:Tn2) (s8 s9:Int):j07B s1 s7 s8 s9=lpK (j04K s1 s7 s8 s9) (fun h=>j07B h.1 h.2.1 h.2.2.1 h.2.2.2):=j005 _ _
def j0aY [LP] (a0_l:Tn2) (a1_s:Int):Option (Bool):=
 let t8:=(Int.ofNat (List.length a0_l))
 (j07B a1_s a0_l t8 0).bind fun q0=>
 sumC q0 (fun a=>
 some a) (fun b=>
 some false)
def j08n (a0_x:Int):Option (Bool):=
 some (a0_x != a0_x)
def j09m (a0_x a1_y:Int):Option (Bool):=
 (j08n a0_x).bind fun r6=>
 cond r6 (
 (j08n a1_y).bind fun r9=>
 some (cond (!r9) true (decide (a0_x<a1_y)))) (
 some (decide (a0_x<a1_y)))
def j065 (a0_x:Int):Option (Bool):=
 some (a0_x != a0_x)
def j01f (s0:(List Int)) (s1 s6 s7 s8:Int):Option (((List Int)×Int×Int×Int×Int) ⊕ (((List Int)×Int×Int×Int))):=
 cond (decide (s7<s8)) (
 let t18_1:=(w64 (s7+s8))
 let t19_1:Int:=(IntKind.wrap .u64 t18_1)
 let t20_1:Int:=(Int.fdiv t19_1 2)
 let t21:=(w64 t20_1)
 cond (inR t21 (List.length s0)) (
 let t24_1:=(List.getD s0 (Int.toNat t21) 0)
 (j09m t24_1 s1).bind fun r27_1=>
 cond r27_1 (
 let t29_1:=(w64 (t21+1))
 some (.inl (s0,s1,s6,t29_1,s8))) (
 some (.inl (s0,s1,s6,s7,t21)))) none) (
 some (.inr (s0,s1,s6,s7)))
def j00P [LP] (s0:(List Int)) (s1 s6 s7 s8:Int):Option (((List Int)×Int×Int×Int)):=
 LP.lp (fun h=>j01f h.1 h.2.1 h.2.2.1 h.2.2.2.1 h.2.2.2.2) (s0,s1,s6,s7,s8)
theorem j06e (s0:(List Int)) (s1 s6 s7 s8:Int):j00P s0 s1 s6 s7 s8=lpK (j01f s0 s1 s6 s7 s8) (fun h=>j00P h.1 h.2.1 h.2.2.1 h.2.2.2.1 h.2.2.2.2):=j005 _ _
def j00x [LP] (a0_x:(List Int)) (a1_target:Int):Option (Int×Bool):=
 let t11:=(Int.ofNat (List.length a0_x))
 (j00P a0_x a1_target t11 0 t11).bind fun q0=>
 cond ((inR q0.2.2.2 (List.length q0.1)) || !(decide (q0.2.2.2<q0.2.2.1))) (
 let t38:=(List.getD q0.1 (Int.toNat q0.2.2.2) 0)
 cond ((inR q0.2.2.2 (List.length q0.1)) || !((decide (q0.2.2.2<q0.2.2.1))&&(!(t38==q0.2.1)))) (
 let t45:=(List.getD q0.1 (Int.toNat q0.2.2.2) 0)
 cond (decide (q0.2.2.2<q0.2.2.1)) (
 cond (t38==q0.2.1) (
 some (q0.2.2.2,true)) (
 (j065 t45).bind fun r47=>
 cond r47 (
 (j065 q0.2.1).bind fun r50=>
 some (q0.2.2.2,r50)) (
 some (q0.2.2.2,false)))) (
 cond ((t38==q0.2.1) || !false) (
 some (q0.2.2.2,false)) none)) none) none
def j03C [LP] (a0_v:Tn73) (a1_l:Tn59) (a2_t:Int):Option (Int×Bool):=
 cond (cond (decide (a2_t<0)) true (decide (a2_t>8589934592))) (
 some (0,false)) (
 cond (inR a1_l.2.1 (List.length a0_v.2)) (
 let t23:=(List.getD a0_v.2 (Int.toNat a1_l.2.1) (0,([]:Tn2)))
 (j01A (t23.1,t23.2) (a1_l.1,(a1_l.2.1,((a1_l.2.2.1.1,a1_l.2.2.1.2),(a1_l.2.2.2.1,(a1_l.2.2.2.2.1,(a1_l.2.2.2.2.2.1,(a1_l.2.2.2.2.2.2.1,(a1_l.2.2.2.2.2.2.2.1,a1_l.2.2.2.2.2.2.2.2)))))))) a2_t).bind fun r28=>
 cond (decide (r28<0)) (
 some (0,false)) (
 let t34:=(Int.ofNat (List.length a1_l.2.2.2.2.2.2.1))
 cond (decide (t34>0)) (
 (j00n (t23.1,t23.2) a2_t).bind fun r41=>
 (j02Y (r41.1,r41.2)).bind fun r42=>
 (j0aY a1_l.2.2.2.2.2.2.1 r42).bind fun r43=>
 cond (!r43) (
 some (0,false)) (
 cond (a1_l.2.2.2.2.2.2.2.2==0) (
 some (r28,true)) (
 cond (inR a1_l.2.2.2.2.2.2.2.1 (List.length a0_v.1.2.2.1)) (
 let t56:=(List.getD a0_v.1.2.2.1 (Int.toNat a1_l.2.2.2.2.2.2.2.1) (ByteArray.empty,(0,([]:(List Int)))))
 cond (inR t56.2.1 (List.length a0_v.2)) (
 let t65:=(List.getD a0_v.2 (Int.toNat t56.2.1) (0,([]:Tn2)))
 (j00n (t65.1,t65.2) a2_t).bind fun r68=>
 (j00x t56.2.2 r68.1).bind fun r70=>
 some (r28,(r70.2==(a1_l.2.2.2.2.2.2.2.2==2)))) none) none))) (
 cond (a1_l.2.2.2.2.2.2.2.2==0) (
 some (r28,true)) (
 cond (inR a1_l.2.2.2.2.2.2.2.1 (List.length a0_v.1.2.2.1)) (
 let t56_1:=(List.getD a0_v.1.2.2.1 (Int.toNat a1_l.2.2.2.2.2.2.2.1) (ByteArray.empty,(0,([]:(List Int)))))
 cond (inR t56_1.2.1 (List.length a0_v.2)) (
 let t65_1:=(List.getD a0_v.2 (Int.toNat t56_1.2.1) (0,([]:Tn2)))
 (j00n (t65_1.1,t65_1.2) a2_t).bind fun r68_1=>
 (j00x t56_1.2.2 r68_1.1).bind fun r70_1=>
 some (r28,(r70_1.2==(a1_l.2.2.2.2.2.2.2.2==2)))) none) none)))) none)
def j01e [LP] (a0_v:Tn73) (a1_l:Tn59) (a2_t:Int):Option (Int):=
 (j03C ((a0_v.1.1,(a0_v.1.2.1,(a0_v.1.2.2.1,a0_v.1.2.2.2))),a0_v.2) (a1_l.1,(a1_l.2.1,((a1_l.2.2.1.1,a1_l.2.2.1.2),(a1_l.2.2.2.1,(a1_l.2.2.2.2.1,(a1_l.2.2.2.2.2.1,(a1_l.2.2.2.2.2.2.1,(a1_l.2.2.2.2.2.2.2.1,a1_l.2.2.2.2.2.2.2.2)))))))) a2_t).bind fun r13=>
 cond (!r13.2) (
 some (-1)) (
 let t23:=(Int.ofNat (List.length a1_l.2.2.2.2.2.1))
 cond (!(t23==0)) (
 let t24:=(Int.tmod r13.1 t23)
 cond (inR t24 (List.length a1_l.2.2.2.2.2.1)) (
 let t25:=(List.getD a1_l.2.2.2.2.2.1 (Int.toNat t24) 0)
 some t25) none) none)
def j0ad (a0_x:Tn24) (a1 a2:Int):Option (Bool):=
 let t19:Bool:=(cond (cond (a0_x.1==0) (a0_x.2.1==a1) false) (decide (a0_x.2.2.2.1≤a2)) false)
 some (cond t19 (decide (a2<a0_x.2.2.2.2)) false)
def j00z (s0:Tn29) (s1 s1_1 s7 s8:Int):Option ((Tn29×Int×Int×Int×Int) ⊕ (Int ⊕ Unit)):=
 cond (decide (s8<s7)) (
 cond (inR s8 (List.length s0)) (
 let t14_1:=(List.getD s0 (Int.toNat s8) (0,(0,(0,(0,0)))))
 (j0ad (t14_1.1,(t14_1.2.1,(t14_1.2.2.1,(t14_1.2.2.2.1,t14_1.2.2.2.2)))) s1 s1_1).bind fun r16_1=>
 cond r16_1 (
 some (.inr (.inl s8))) (
 let t18_1:=(w64 (s8+1))
 some (.inl (s0,s1,s1_1,s7,t18_1)))) none) (
 some (.inr (.inr ())))
def j00l [LP] (s0:Tn29) (s1 s1_1 s7 s8:Int):Option (Int ⊕ Unit):=
 LP.lp (fun h=>j00z h.1 h.2.1 h.2.2.1 h.2.2.2.1 h.2.2.2.2) (s0,s1,s1_1,s7,s8)
theorem j02y (s0:Tn29) (s1 s1_1 s7 s8:Int):j00l s0 s1 s1_1 s7 s8=lpK (j00z s0 s1 s1_1 s7 s8) (fun h=>j00l h.1 h.2.1 h.2.2.1 h.2.2.2.1 h.2.2.2.2):=j005 _ _
def j00F [LP] (a0_s:Tn29) (a1_f a1_f_1:Int):Option (Int):=
 let t7:=(Int.ofNat (List.length a0_s))
 (j00l a0_s a1_f a1_f_1 t7 0).bind fun q0=>
 sumC q0 (fun a=>
 some a) (fun b=>
 some (-1))
def j00w [LP] (a0_s:Tn29) (a1_f a1_f_1:Int):Option (Bool):=
 (j00F a0_s a1_f a1_f_1).bind fun r7=>
 some (decide (r7≥0))
def j06N [LP] (a0_s:Tn64) (a1_person a2_t:Int):Option (Bool):=
 (j00w a0_s.2.2 a1_person a2_t).bind fun r10=>
 some r10
def j01m [LP] (n0:Int) (s13:Tn60) (b3:Tn54) (b3_1:Tn48) (b3_2:Tn26) (b3_3:Tn65) (b3_4:Tn20) (b4:ByteArray) (b4_1:Tn60) (b4_2:Tn29) (b5 b6 b7:Int):Option ((Int×Tn60×Tn54×Tn48×Tn26×Tn65×Tn20×ByteArray×Tn60×Tn29×Int×Int×Int) ⊕ ((Int×Int) ⊕ (Int×Int))):=
 cond (decide (n0≤0)) (
 some (.inr (.inl (b6,b7)))) (
 cond (decide (n0≤Int.ofNat (List.length s13))) (
 let t14_1:Int:=(n0-1)
 let t15_1:=(List.getD s13 (Int.toNat t14_1) (ByteArray.empty,(0,((0,0),(0,(0,(([]:(List Int)),(([]:Tn2),(0,0)))))))))
 (j01e ((b3,(b3_1,(b3_2,b3_3))),b3_4) (t15_1.1,(t15_1.2.1,((t15_1.2.2.1.1,t15_1.2.2.1.2),(t15_1.2.2.2.1,(t15_1.2.2.2.2.1,(t15_1.2.2.2.2.2.1,(t15_1.2.2.2.2.2.2.1,(t15_1.2.2.2.2.2.2.2.1,t15_1.2.2.2.2.2.2.2.2)))))))) b5).bind fun r19_1=>
 cond (decide (r19_1<0)) (
 some (.inl ((n0-1),s13,b3,b3_1,b3_2,b3_3,b3_4,b4,b4_1,b4_2,b5,b6,b7))) (
 (j06N (b4,(b4_1,b4_2)) r19_1 b5).bind fun r25_1=>
 cond (!r25_1) (
 some (.inr (.inr (t14_1,r19_1)))) (
 some (.inl ((n0-1),s13,b3,b3_1,b3_2,b3_3,b3_4,b4,b4_1,b4_2,b5,b6,b7))))) none)
def j03c [LP] (n0:Int) (s13:Tn60) (b3:Tn54) (b3_1:Tn48) (b3_2:Tn26) (b3_3:Tn65) (b3_4:Tn20) (b4:ByteArray) (b4_1:Tn60) (b4_2:Tn29) (b5 b6 b7:Int):Option ((Int×Int) ⊕ (Int×Int)):=
 LP.lp (fun h=>j01m h.1 h.2.1 h.2.2.1 h.2.2.2.1 h.2.2.2.2.1 h.2.2.2.2.2.1 h.2.2.2.2.2.2.1 h.2.2.2.2.2.2.2.1 h.2.2.2.2.2.2.2.2.1 h.2.2.2.2.2.2.2.2.2.1 h.2.2.2.2.2.2.2.2.2.2.1 h.2.2.2.2.2.2.2.2.2.2.2.1 h.2.2.2.2.2.2.2.2.2.2.2.2) (n0,s13,b3,b3_1,b3_2,b3_3,b3_4,b4,b4_1,b4_2,b5,b6,b7)
theorem j08o (n0:Int) (s13:Tn60) (b3:Tn54) (b3_1:Tn48) (b3_2:Tn26) (b3_3:Tn65) (b3_4:Tn20) (b4:ByteArray) (b4_1:Tn60) (b4_2:Tn29) (b5 b6 b7:Int):j03c n0 s13 b3 b3_1 b3_2 b3_3 b3_4 b4 b4_1 b4_2 b5 b6 b7=lpK (j01m n0 s13 b3 b3_1 b3_2 b3_3 b3_4 b4 b4_1 b4_2 b5 b6 b7) (fun h=>j03c h.1 h.2.1 h.2.2.1 h.2.2.2.1 h.2.2.2.2.1 h.2.2.2.2.2.1 h.2.2.2.2.2.2.1 h.2.2.2.2.2.2.2.1 h.2.2.2.2.2.2.2.2.1 h.2.2.2.2.2.2.2.2.2.1 h.2.2.2.2.2.2.2.2.2.2.1 h.2.2.2.2.2.2.2.2.2.2.2.1 h.2.2.2.2.2.2.2.2.2.2.2.2):=j005 _ _
def j02Z [LP] (a0_v:Tn73) (a1_s:Tn64) (a2_t:Int):Option (Int×Int):=
 (j00K a1_s.2.1).bind fun r13=>
 (j03c (Int.ofNat (List.length r13)) r13 a0_v.1.1 a0_v.1.2.1 a0_v.1.2.2.1 a0_v.1.2.2.2 a0_v.2 a1_s.1 a1_s.2.1 a1_s.2.2 a2_t 0 0).bind fun q0=>
 sumC q0 (fun a=>
 some ((-1),(-1))) (fun b=>
 some (b.1,b.2))
def j03r [LP] (a0_c:Tn71) (a1_schedule a2_t:Int):Option (Int):=
 (j06M (a0_c.1,(a0_c.2.1,(a0_c.2.2.1,a0_c.2.2.2))) a1_schedule).bind fun r15=>
 cond (!r15.2.2) (
 some (-1)) (
 (j02Z ((r15.1.1.1,(r15.1.1.2.1,(r15.1.1.2.2.1,r15.1.1.2.2.2))),r15.1.2) (r15.2.1.1,(r15.2.1.2.1,r15.2.1.2.2)) a2_t).bind fun r25=>
 some r25.2)
def j05X [LP] (a0_c:Tn71) (a1_schedule a2_t:Int):Option (Int):=
 (j06M (a0_c.1,(a0_c.2.1,(a0_c.2.2.1,a0_c.2.2.2))) a1_schedule).bind fun r15=>
 cond (!r15.2.2) (
 some (-1)) (
 (j02Z ((r15.1.1.1,(r15.1.1.2.1,(r15.1.1.2.2.1,r15.1.1.2.2.2))),r15.1.2) (r15.2.1.1,(r15.2.1.2.1,r15.2.1.2.2)) a2_t).bind fun r25=>
 some r25.1)
def j07M [LP]  : Option (Bool):=
 (j0ci).bind fun r5=>
 (j0ci).bind fun r6=>
 let t10:Tn29:=[(0,(2,(0,(950400,1036800))))]
 cond (inR 0 (List.length r6.2.2.2)) (
 let m6:Tn65:=(List.set r6.2.2.2 0 ((List.getD r6.2.2.2 0 (ByteArray.empty,(([]:Tn60),([]:Tn29)))).1,((List.getD r6.2.2.2 0 (ByteArray.empty,(([]:Tn60),([]:Tn29)))).2.1,t10)))
 (j02U (r5.1,(r5.2.1,(r5.2.2.1,r5.2.2.2))) 0 950400 1123200).bind fun r15=>
 cond (r15.2==0) (
 (j03r (r5.1,(r5.2.1,(r5.2.2.1,r5.2.2.2))) 0 950400).bind fun r22=>
 cond (r22==2) (
 (j03r (r6.1,(r6.2.1,(r6.2.2.1,m6))) 0 950400).bind fun r27=>
 cond (r27==1) (
 (j03r (r5.1,(r5.2.1,(r5.2.2.1,r5.2.2.2))) 0 1036800).bind fun r32=>
 cond (r32==1) (
 (j05X (r5.1,(r5.2.1,(r5.2.2.1,r5.2.2.2))) 0 950400).bind fun r37=>
 let t42:=(Int.ofNat (List.length r15.1))
 cond ((inR 0 (List.length m6)) || !(cond (r37==1) (t42==2) false)) (
 let t49:=(List.getD m6 0 (ByteArray.empty,(([]:Tn60),([]:Tn29)))).1
 let t49_1:=(List.getD m6 0 (ByteArray.empty,(([]:Tn60),([]:Tn29)))).2.1
 let t49_2:=(List.getD m6 0 (ByteArray.empty,(([]:Tn60),([]:Tn29)))).2.2
 cond (cond (r37==1) (t42==2) false) (
 (j06N (t49,(t49_1,t49_2)) 2 950400).bind fun r50=>
 some r50) (
 some false)) none) (
 let t42_1:=(Int.ofNat (List.length r15.1))
 cond ((inR 0 (List.length m6)) || !false) (
 let t49_3:=(List.getD m6 0 (ByteArray.empty,(([]:Tn60),([]:Tn29)))).1
 let t49_4:=(List.getD m6 0 (ByteArray.empty,(([]:Tn60),([]:Tn29)))).2.1
 let t49_5:=(List.getD m6 0 (ByteArray.empty,(([]:Tn60),([]:Tn29)))).2.2
 some false) none)) (
 let t42_2:=(Int.ofNat (List.length r15.1))
 cond ((inR 0 (List.length m6)) || !false) (
 let t49_6:=(List.getD m6 0 (ByteArray.empty,(([]:Tn60),([]:Tn29)))).1
 let t49_7:=(List.getD m6 0 (ByteArray.empty,(([]:Tn60),([]:Tn29)))).2.1
 let t49_8:=(List.getD m6 0 (ByteArray.empty,(([]:Tn60),([]:Tn29)))).2.2
 some false) none)) (
 let t42_3:=(Int.ofNat (List.length r15.1))
 cond ((inR 0 (List.length m6)) || !false) (
 let t49_9:=(List.getD m6 0 (ByteArray.empty,(([]:Tn60),([]:Tn29)))).1
 let t49_10:=(List.getD m6 0 (ByteArray.empty,(([]:Tn60),([]:Tn29)))).2.1
 let t49_11:=(List.getD m6 0 (ByteArray.empty,(([]:Tn60),([]:Tn29)))).2.2
 some false) none)) (
 let t42_4:=(Int.ofNat (List.length r15.1))
 cond ((inR 0 (List.length m6)) || !false) (
 let t49_12:=(List.getD m6 0 (ByteArray.empty,(([]:Tn60),([]:Tn29)))).1
 let t49_13:=(List.getD m6 0 (ByteArray.empty,(([]:Tn60),([]:Tn29)))).2.1
 let t49_14:=(List.getD m6 0 (ByteArray.empty,(([]:Tn60),([]:Tn29)))).2.2
 some false) none)) none
def j0f5 (a0_l:(List Int)):Option ((List Int)×Int):=
 some (a0_l,0)
def j002 (a0_d:(List Int)) (a0_d_1 a1_n:Int):Option (Int×(List Int)×Int):=
 let t14:=(Int.ofNat (List.length a0_d))
 cond (decide (a0_d_1≥t14)) (
 some (0,a0_d,a0_d_1)) (
 cond (decide (a1_n<1)) (
 some (0,a0_d,a0_d_1)) (
 cond (inR a0_d_1 (List.length a0_d)) (
 let t28:=(List.getD a0_d (Int.toNat a0_d_1) 0)
 cond (!(a1_n==0)) (
 let t31:=(Int.tmod t28 a1_n)
 let t36:=(w64 (a0_d_1+1))
 cond (decide (t31<0)) (
 let t43:=(w64 (t31+a1_n))
 some (t43,a0_d,t36)) (
 some (t31,a0_d,t36))) none) none))
def j01d (a0_d:(List Int)) (a0_d_1:Int) (a1_l:(List Int)):Option (Int×(List Int)×Int):=
 let t8:=(Int.ofNat (List.length a1_l))
 (j002 a0_d a0_d_1 t8).bind fun r9=>
 cond (inR r9.1 (List.length a1_l)) (
 let t10:=(List.getD a1_l (Int.toNat r9.1) 0)
 some (t10,r9.2.1,r9.2.2)) none
def j03s (a0_d:(List Int)) (a0_d_1:Int) (a1_name:ByteArray):Option (Tn52×(List Int)×Int):=
 let t10:(List Int):=[0,4,(-20),22,48,(-47)]
 (j01d a0_d a0_d_1 t10).bind fun r11=>
 (j002 r11.2.1 r11.2.2 2).bind fun r13=>
 (j002 r13.2.1 r13.2.2 3).bind fun r15=>
 let t16:=(w64 (r13.1*r15.1))
 let t17:=(w64 (r11.1+t16))
 let t18:=(w64 (900*t17))
 (j002 r15.2.1 r15.2.2 2).bind fun r21=>
 let t22:=(w64 (2025+r21.1))
 (j002 r21.2.1 r21.2.2 4).bind fun r24=>
 cond (r24.1==1) (
 let t30:=(w64 (t18+3600))
 let t36:Tn42:=[(2025,(t22,(3,(5,(6,(7200,t30)))))),(2025,(t22,(10,(5,(6,(10800,t18))))))]
 some ((a1_name,(t18,t36)),r24.2.1,r24.2.2)) (
 cond (r24.1==2) (
 (j002 r24.2.1 r24.2.2 4).bind fun r42=>
 let t43:=(w64 (1+r42.1))
 (j002 r42.2.1 r42.2.2 7).bind fun r45=>
 (j002 r45.2.1 r45.2.2 24).bind fun r47=>
 let t48:=(w64 (3600*r47.1))
 (j002 r47.2.1 r47.2.2 8).bind fun r52=>
 let t53:=(w64 (1+r52.1))
 let t54:=(w64 (1800*t53))
 let t55:=(w64 (t18+t54))
 (j002 r52.2.1 r52.2.2 2).bind fun r59=>
 let t60:=(w64 (2+r59.1))
 let t62:(List Int):=[2,3,5]
 (j01d r59.2.1 r59.2.2 t62).bind fun r63=>
 (j002 r63.2.1 r63.2.2 7).bind fun r65=>
 (j002 r65.2.1 r65.2.2 24).bind fun r67=>
 let t68:=(w64 (3600*r67.1))
 let t72:Tn42:=[(2025,(t22,(1,(t43,(r45.1,(t48,t55)))))),(2025,(t22,(t60,(r63.1,(r65.1,(t68,t18))))))]
 some ((a1_name,(t18,t72)),r67.2.1,r67.2.2)) (
 cond (r24.1==3) (
 let t79:(List Int):=[3600,(-3600),82800,(-82800),43200]
 (j01d r24.2.1 r24.2.2 t79).bind fun r80=>
 let t81:=(w64 (t18+r80.1))
 cond (cond (decide (t81>64800)) true (decide (t81<(-64800)))) (
 (j002 r80.2.1 r80.2.2 7).bind fun r89=>
 (j002 r89.2.1 r89.2.2 48).bind fun r91=>
 let t92:=(w64 (1800*r91.1))
 let t95:Tn42:=[(2026,(2026,(1,(2,(r89.1,(t92,0))))))]
 some ((a1_name,(t18,t95)),r91.2.1,r91.2.2)) (
 (j002 r80.2.1 r80.2.2 7).bind fun r89_1=>
 (j002 r89_1.2.1 r89_1.2.2 48).bind fun r91_1=>
 let t92_1:=(w64 (1800*r91_1.1))
 let t95_1:Tn42:=[(2026,(2026,(1,(2,(r89_1.1,(t92_1,t81))))))]
 some ((a1_name,(t18,t95_1)),r91_1.2.1,r91_1.2.2))) (
 some ((a1_name,(t18,([]:Tn42))),r24.2.1,r24.2.2))))
def j0bv  : Option ((List ByteArray)):=
 let t1:(List ByteArray):=[(ByteArray.mk #[97,100,97]),(ByteArray.mk #[98,111,98]),(ByteArray.mk #[99,108,101,111]),(ByteArray.mk #[100,97,110]),(ByteArray.mk #[101,118,101]),(ByteArray.mk #[102,97,121]),(ByteArray.mk #[103,117,115]),(ByteArray.mk #[104,97,108])]
 some t1
def j010 (a0_d:(List Int)) (a0_d_1 a1_n:Int):Option (Bool×(List Int)×Int):=
 (j002 a0_d a0_d_1 a1_n).bind fun r7=>
 let t9:=(w64 (a1_n-1))
 some ((r7.1==t9),r7.2.1,r7.2.2)
def j021 (s4 s5:Int) (b0:(List Int)) (b0_1:Int) (l3:Tn2):Option ((Int×Int×(List Int)×Int×Tn2) ⊕ (((List Int)×Int×Tn2))):=
 cond (decide (s5>0)) (
 (j002 b0 b0_1 30).bind fun r16_2=>
 let t17_2:=(w64 (3600*r16_2.1))
 let t18_2:=(w64 (s4+t17_2))
 (j002 r16_2.2.1 r16_2.2.2 2).bind fun r20_2=>
 let t21_2:=(w64 (60*r20_2.1))
 let t22_2:=(w64 (t18_2+t21_2))
 let t25_2:(List Int):=[3600,28800,43200,86400,61,1]
 (j01d r20_2.2.1 r20_2.2.2 t25_2).bind fun r26_2=>
 let t27_2:=(w64 (t22_2+r26_2.1))
 cond (decide (t27_2>604800)) (
 some (.inr (r26_2.2.1,r26_2.2.2,l3))) (
 let t34_2:Tn2:=[(t22_2,t27_2)]
 cond (decide (List.length l3+List.length t34_2≤sizeMax)) (
 let t35_2:Tn2:=(l3++t34_2)
 let t13_2:=(w64 (s5-1))
 some (.inl (t27_2,t13_2,r26_2.2.1,r26_2.2.2,t35_2))) none)) (
 some (.inr (b0,b0_1,l3)))
def j04c [LP] (s4 s5:Int) (b0:(List Int)) (b0_1:Int) (l3:Tn2):Option (((List Int)×Int×Tn2)):=
 LP.lp (fun h=>j021 h.1 h.2.1 h.2.2.1 h.2.2.2.1 h.2.2.2.2) (s4,s5,b0,b0_1,l3)
theorem j06l (s4 s5:Int) (b0:(List Int)) (b0_1:Int) (l3:Tn2):j04c s4 s5 b0 b0_1 l3=lpK (j021 s4 s5 b0 b0_1 l3) (fun h=>j04c h.1 h.2.1 h.2.2.1 h.2.2.2.1 h.2.2.2.2):=j005 _ _
def j03n [LP] (a0_d:(List Int)) (a0_d_1:Int):Option (Tn2×(List Int)×Int):=
 (j002 a0_d a0_d_1 4).bind fun r9=>
 (j04c 0 r9.1 r9.2.1 r9.2.2 ([]:Tn2)).bind fun q0=>
 some (q0.2.2,q0.1,q0.2.1)
def j02o (s4:Int) (b0:(List Int)) (b0_1:Int) (l3c0:Tn54):Option ((Int×(List Int)×Int×Tn54) ⊕ (((List Int)×Int×Tn54))):=
 cond (decide (s4>0)) (
 let t21_2:(List ByteArray):=[(ByteArray.mk #[104,101,114,101]),(ByteArray.mk #[116,104,101,114,101])]
 let t24_1:=(Int.ofNat (List.length l3c0))
 cond (inR t24_1 (List.length t21_2)) (
 let t26_2:=(List.getD t21_2 (Int.toNat t24_1) ByteArray.empty)
 (j03s b0 b0_1 t26_2).bind fun r27_2=>
 let t28_2:Tn54:=[(r27_2.1.1,(r27_2.1.2.1,r27_2.1.2.2))]
 cond (decide (List.length l3c0+List.length t28_2≤sizeMax)) (
 let t29_2:Tn54:=(l3c0++t28_2)
 let t17_2:=(w64 (s4-1))
 some (.inl (t17_2,r27_2.2.1,r27_2.2.2,t29_2))) none) none) (
 some (.inr (b0,b0_1,l3c0)))
def j04U [LP] (s4:Int) (b0:(List Int)) (b0_1:Int) (l3c0:Tn54):Option (((List Int)×Int×Tn54)):=
 LP.lp (fun h=>j02o h.1 h.2.1 h.2.2.1 h.2.2.2) (s4,b0,b0_1,l3c0)
theorem j07a (s4:Int) (b0:(List Int)) (b0_1:Int) (l3c0:Tn54):j04U s4 b0 b0_1 l3c0=lpK (j02o s4 b0 b0_1 l3c0) (fun h=>j04U h.1 h.2.1 h.2.2.1 h.2.2.2):=j005 _ _
def j02p [LP] (s5:Int) (b0:(List Int)) (b0_1:Int) (l3c0:Tn54) (l3c1:Tn48):Option ((Int×(List Int)×Int×Tn54×Tn48) ⊕ (((List Int)×Int×Tn54×Tn48))):=
 cond (decide (s5>0)) (
 (j0bv).bind fun r38_2=>
 let t41_1:=(Int.ofNat (List.length l3c1))
 cond (inR t41_1 (List.length r38_2)) (
 let t43_2:=(List.getD r38_2 (Int.toNat t41_1) ByteArray.empty)
 let t47_2:=(Int.ofNat (List.length l3c0))
 (j002 b0 b0_1 t47_2).bind fun r48_2=>
 (j010 r48_2.2.1 r48_2.2.2 3).bind fun r50_2=>
 (j010 r50_2.2.1 r50_2.2.2 2).bind fun r53_2=>
 cond r53_2.1 (
 (j03n r53_2.2.1 r53_2.2.2).bind fun r55_2=>
 let t58_4:(List Int):=[0,40,100,12]
 (j01d r55_2.2.1 r55_2.2.2 t58_4).bind fun r59_4=>
 let t60_4:=(w64 (3600*r59_4.1))
 let t62_4:(List Int):=[0,11,24,1]
 (j01d r59_4.2.1 r59_4.2.2 t62_4).bind fun r63_4=>
 let t64_4:=(w64 (3600*r63_4.1))
 let t70_4:Tn48:=[(t43_2,(r48_2.1,(r55_2.1,(t60_4,(t64_4,r50_2.1)))))]
 cond (decide (List.length l3c1+List.length t70_4≤sizeMax)) (
 let t71_4:Tn48:=(l3c1++t70_4)
 let t37_4:=(w64 (s5-1))
 some (.inl (t37_4,r63_4.2.1,r63_4.2.2,l3c0,t71_4))) none) (
 let t58_5:(List Int):=[0,40,100,12]
 (j01d r53_2.2.1 r53_2.2.2 t58_5).bind fun r59_5=>
 let t60_5:=(w64 (3600*r59_5.1))
 let t62_5:(List Int):=[0,11,24,1]
 (j01d r59_5.2.1 r59_5.2.2 t62_5).bind fun r63_5=>
 let t64_5:=(w64 (3600*r63_5.1))
 let t70_5:Tn48:=[(t43_2,(r48_2.1,(([]:Tn2),(t60_5,(t64_5,r50_2.1)))))]
 cond (decide (List.length l3c1+List.length t70_5≤sizeMax)) (
 let t71_5:Tn48:=(l3c1++t70_5)
 let t37_5:=(w64 (s5-1))
 some (.inl (t37_5,r63_5.2.1,r63_5.2.2,l3c0,t71_5))) none)) none) (
 some (.inr (b0,b0_1,l3c0,l3c1)))
def j04V [LP] (s5:Int) (b0:(List Int)) (b0_1:Int) (l3c0:Tn54) (l3c1:Tn48):Option (((List Int)×Int×Tn54×Tn48)):=
 LP.lp (fun h=>j02p h.1 h.2.1 h.2.2.1 h.2.2.2.1 h.2.2.2.2) (s5,b0,b0_1,l3c0,l3c1)
theorem j07b (s5:Int) (b0:(List Int)) (b0_1:Int) (l3c0:Tn54) (l3c1:Tn48):j04V s5 b0 b0_1 l3c0 l3c1=lpK (j02p s5 b0 b0_1 l3c0 l3c1) (fun h=>j04V h.1 h.2.1 h.2.2.1 h.2.2.2.1 h.2.2.2.2):=j005 _ _
def j02q (s7 s9 s10:Int) (b0:(List Int)) (b0_1:Int) (b8:ByteArray) (b8_1:Int) (l3c0:Tn54) (l3c1:Tn48) (l3c2:Tn26) (l8c2:(List Int)):Option ((Int×Int×Int×(List Int)×Int×ByteArray×Int×Tn54×Tn48×Tn26×(List Int)) ⊕ ((Int×(List Int)×Int×ByteArray×Int×Tn54×Tn48×Tn26×(List Int)))):=
 cond (decide (s9>0)) (
 (j002 b0 b0_1 6).bind fun r93_5=>
 let t94_5:=(w64 (1+r93_5.1))
 let t95_5:=(w64 (s10+t94_5))
 cond (decide (List.length l8c2+List.length [t95_5]≤sizeMax)) (
 let t100_5:(List Int):=(l8c2++[t95_5])
 let t90_5:=(w64 (s9-1))
 some (.inl (s7,t90_5,t95_5,r93_5.2.1,r93_5.2.2,b8,b8_1,l3c0,l3c1,l3c2,t100_5))) none) (
 some (.inr (s7,b0,b0_1,b8,b8_1,l3c0,l3c1,l3c2,l8c2)))
def j04W [LP] (s7 s9 s10:Int) (b0:(List Int)) (b0_1:Int) (b8:ByteArray) (b8_1:Int) (l3c0:Tn54) (l3c1:Tn48) (l3c2:Tn26) (l8c2:(List Int)):Option ((Int×(List Int)×Int×ByteArray×Int×Tn54×Tn48×Tn26×(List Int))):=
 LP.lp (fun h=>j02q h.1 h.2.1 h.2.2.1 h.2.2.2.1 h.2.2.2.2.1 h.2.2.2.2.2.1 h.2.2.2.2.2.2.1 h.2.2.2.2.2.2.2.1 h.2.2.2.2.2.2.2.2.1 h.2.2.2.2.2.2.2.2.2.1 h.2.2.2.2.2.2.2.2.2.2) (s7,s9,s10,b0,b0_1,b8,b8_1,l3c0,l3c1,l3c2,l8c2)
theorem j07c (s7 s9 s10:Int) (b0:(List Int)) (b0_1:Int) (b8:ByteArray) (b8_1:Int) (l3c0:Tn54) (l3c1:Tn48) (l3c2:Tn26) (l8c2:(List Int)):j04W s7 s9 s10 b0 b0_1 b8 b8_1 l3c0 l3c1 l3c2 l8c2=lpK (j02q s7 s9 s10 b0 b0_1 b8 b8_1 l3c0 l3c1 l3c2 l8c2) (fun h=>j04W h.1 h.2.1 h.2.2.1 h.2.2.2.1 h.2.2.2.2.1 h.2.2.2.2.2.1 h.2.2.2.2.2.2.1 h.2.2.2.2.2.2.2.1 h.2.2.2.2.2.2.2.2.1 h.2.2.2.2.2.2.2.2.2.1 h.2.2.2.2.2.2.2.2.2.2):=j005 _ _
def j01T [LP] (s7:Int) (b0:(List Int)) (b0_1:Int) (l3c0:Tn54) (l3c1:Tn48) (l3c2:Tn26):Option ((Int×(List Int)×Int×Tn54×Tn48×Tn26) ⊕ (((List Int)×Int×Tn54×Tn48×Tn26))):=
 cond (decide (s7>0)) (
 let t82_2:=(Int.ofNat (List.length l3c0))
 (j002 b0 b0_1 t82_2).bind fun r83_2=>
 (j002 r83_2.2.1 r83_2.2.2 4).bind fun r86_2=>
 (j04W s7 r86_2.1 20454 r86_2.2.1 r86_2.2.2 (ByteArray.mk #[100,97,121,115]) r83_2.1 l3c0 l3c1 l3c2 ([]:(List Int))).bind fun q6_2=>
 let t105_2:Tn26:=[(q6_2.2.2.2.1,(q6_2.2.2.2.2.1,q6_2.2.2.2.2.2.2.2.2))]
 cond (decide (List.length q6_2.2.2.2.2.2.2.2.1+List.length t105_2≤sizeMax)) (
 let t106_2:Tn26:=(q6_2.2.2.2.2.2.2.2.1++t105_2)
 let t78_2:=(w64 (q6_2.1-1))
 some (.inl (t78_2,q6_2.2.1,q6_2.2.2.1,q6_2.2.2.2.2.2.1,q6_2.2.2.2.2.2.2.1,t106_2))) none) (
 some (.inr (b0,b0_1,l3c0,l3c1,l3c2)))
def j04X [LP] (s7:Int) (b0:(List Int)) (b0_1:Int) (l3c0:Tn54) (l3c1:Tn48) (l3c2:Tn26):Option (((List Int)×Int×Tn54×Tn48×Tn26)):=
 LP.lp (fun h=>j01T h.1 h.2.1 h.2.2.1 h.2.2.2.1 h.2.2.2.2.1 h.2.2.2.2.2) (s7,b0,b0_1,l3c0,l3c1,l3c2)
theorem j057 (s7:Int) (b0:(List Int)) (b0_1:Int) (l3c0:Tn54) (l3c1:Tn48) (l3c2:Tn26):j04X s7 b0 b0_1 l3c0 l3c1 l3c2=lpK (j01T s7 b0 b0_1 l3c0 l3c1 l3c2) (fun h=>j04X h.1 h.2.1 h.2.2.1 h.2.2.2.1 h.2.2.2.2.1 h.2.2.2.2.2):=j005 _ _
def j06x [LP] (a0_d:(List Int)) (a0_d_1:Int):Option (Tn71×(List Int)×Int):=
 (j002 a0_d a0_d_1 2).bind fun r12=>
 let t13:=(w64 (1+r12.1))
 (j04U t13 r12.2.1 r12.2.2 ([]:Tn54)).bind fun q0=>
 (j002 q0.1 q0.2.1 4).bind fun r32=>
 let t33:=(w64 (1+r32.1))
 (j04V t33 r32.2.1 r32.2.2 q0.2.2 ([]:Tn48)).bind fun q2=>
 (j002 q2.1 q2.2.1 2).bind fun r74=>
 (j04X r74.1 r74.2.1 r74.2.2 q2.2.2.1 q2.2.2.2 ([]:Tn26)).bind fun q4=>
 some ((q4.2.2.1,(q4.2.2.2.1,(q4.2.2.2.2,([]:Tn65)))),q4.1,q4.2.1)
def j02r (s8:Int) (b0:(List Int)) (b0_1:Int) (b4:Tn54) (b4_1:Tn48) (b4_2:Tn26) (b4_3:Tn65) (b6:ByteArray) (b6_1 b6_2 b6_3 b6_4 b6_5 b6_6 b6_7:Int) (b7:ByteArray) (b7_1 b7_2 b7_3 b7_4 b7_5 b7_6 b7_7:Int) (l7c6:(List Int)):Option ((Int×(List Int)×Int×Tn54×Tn48×Tn26×Tn65×ByteArray×Int×Int×Int×Int×Int×Int×Int×ByteArray×Int×Int×Int×Int×Int×Int×Int×(List Int)) ⊕ (((List Int)×Int×Tn54×Tn48×Tn26×Tn65×ByteArray×Int×Int×Int×Int×Int×Int×Int×ByteArray×Int×Int×Int×Int×Int×Int×Int×(List Int)))):=
 cond (decide (s8>0)) (
 let t48_2:=(Int.ofNat (List.length b4_1))
 (j002 b0 b0_1 t48_2).bind fun r49_2=>
 cond (decide (List.length l7c6+List.length [r49_2.1]≤sizeMax)) (
 let t51_2:(List Int):=(l7c6++[r49_2.1])
 let t42_2:=(w64 (s8-1))
 some (.inl (t42_2,r49_2.2.1,r49_2.2.2,b4,b4_1,b4_2,b4_3,b6,b6_1,b6_2,b6_3,b6_4,b6_5,b6_6,b6_7,b7,b7_1,b7_2,b7_3,b7_4,b7_5,b7_6,b7_7,t51_2))) none) (
 some (.inr (b0,b0_1,b4,b4_1,b4_2,b4_3,b6,b6_1,b6_2,b6_3,b6_4,b6_5,b6_6,b6_7,b7,b7_1,b7_2,b7_3,b7_4,b7_5,b7_6,b7_7,l7c6)))
def j03W [LP] (s8:Int) (b0:(List Int)) (b0_1:Int) (b4:Tn54) (b4_1:Tn48) (b4_2:Tn26) (b4_3:Tn65) (b6:ByteArray) (b6_1 b6_2 b6_3 b6_4 b6_5 b6_6 b6_7:Int) (b7:ByteArray) (b7_1 b7_2 b7_3 b7_4 b7_5 b7_6 b7_7:Int) (l7c6:(List Int)):Option (((List Int)×Int×Tn54×Tn48×Tn26×Tn65×ByteArray×Int×Int×Int×Int×Int×Int×Int×ByteArray×Int×Int×Int×Int×Int×Int×Int×(List Int))):=
 LP.lp (fun h=>j02r h.1 h.2.1 h.2.2.1 h.2.2.2.1 h.2.2.2.2.1 h.2.2.2.2.2.1 h.2.2.2.2.2.2.1 h.2.2.2.2.2.2.2.1 h.2.2.2.2.2.2.2.2.1 h.2.2.2.2.2.2.2.2.2.1 h.2.2.2.2.2.2.2.2.2.2.1 h.2.2.2.2.2.2.2.2.2.2.2.1 h.2.2.2.2.2.2.2.2.2.2.2.2.1 h.2.2.2.2.2.2.2.2.2.2.2.2.2.1 h.2.2.2.2.2.2.2.2.2.2.2.2.2.2.1 h.2.2.2.2.2.2.2.2.2.2.2.2.2.2.2.1 h.2.2.2.2.2.2.2.2.2.2.2.2.2.2.2.2.1 h.2.2.2.2.2.2.2.2.2.2.2.2.2.2.2.2.2.1 h.2.2.2.2.2.2.2.2.2.2.2.2.2.2.2.2.2.2.1 h.2.2.2.2.2.2.2.2.2.2.2.2.2.2.2.2.2.2.2.1 h.2.2.2.2.2.2.2.2.2.2.2.2.2.2.2.2.2.2.2.2.1 h.2.2.2.2.2.2.2.2.2.2.2.2.2.2.2.2.2.2.2.2.2.1 h.2.2.2.2.2.2.2.2.2.2.2.2.2.2.2.2.2.2.2.2.2.2.1 h.2.2.2.2.2.2.2.2.2.2.2.2.2.2.2.2.2.2.2.2.2.2.2) (s8,b0,b0_1,b4,b4_1,b4_2,b4_3,b6,b6_1,b6_2,b6_3,b6_4,b6_5,b6_6,b6_7,b7,b7_1,b7_2,b7_3,b7_4,b7_5,b7_6,b7_7,l7c6)
theorem j07d (s8:Int) (b0:(List Int)) (b0_1:Int) (b4:Tn54) (b4_1:Tn48) (b4_2:Tn26) (b4_3:Tn65) (b6:ByteArray) (b6_1 b6_2 b6_3 b6_4 b6_5 b6_6 b6_7:Int) (b7:ByteArray) (b7_1 b7_2 b7_3 b7_4 b7_5 b7_6 b7_7:Int) (l7c6:(List Int)):j03W s8 b0 b0_1 b4 b4_1 b4_2 b4_3 b6 b6_1 b6_2 b6_3 b6_4 b6_5 b6_6 b6_7 b7 b7_1 b7_2 b7_3 b7_4 b7_5 b7_6 b7_7 l7c6=lpK (j02r s8 b0 b0_1 b4 b4_1 b4_2 b4_3 b6 b6_1 b6_2 b6_3 b6_4 b6_5 b6_6 b6_7 b7 b7_1 b7_2 b7_3 b7_4 b7_5 b7_6 b7_7 l7c6) (fun h=>j03W h.1 h.2.1 h.2.2.1 h.2.2.2.1 h.2.2.2.2.1 h.2.2.2.2.2.1 h.2.2.2.2.2.2.1 h.2.2.2.2.2.2.2.1 h.2.2.2.2.2.2.2.2.1 h.2.2.2.2.2.2.2.2.2.1 h.2.2.2.2.2.2.2.2.2.2.1 h.2.2.2.2.2.2.2.2.2.2.2.1 h.2.2.2.2.2.2.2.2.2.2.2.2.1 h.2.2.2.2.2.2.2.2.2.2.2.2.2.1 h.2.2.2.2.2.2.2.2.2.2.2.2.2.2.1 h.2.2.2.2.2.2.2.2.2.2.2.2.2.2.2.1 h.2.2.2.2.2.2.2.2.2.2.2.2.2.2.2.2.1 h.2.2.2.2.2.2.2.2.2.2.2.2.2.2.2.2.2.1 h.2.2.2.2.2.2.2.2.2.2.2.2.2.2.2.2.2.2.1 h.2.2.2.2.2.2.2.2.2.2.2.2.2.2.2.2.2.2.2.1 h.2.2.2.2.2.2.2.2.2.2.2.2.2.2.2.2.2.2.2.2.1 h.2.2.2.2.2.2.2.2.2.2.2.2.2.2.2.2.2.2.2.2.2.1 h.2.2.2.2.2.2.2.2.2.2.2.2.2.2.2.2.2.2.2.2.2.2.1 h.2.2.2.2.2.2.2.2.2.2.2.2.2.2.2.2.2.2.2.2.2.2.2):=j005 _ _
def j06y [LP] (a0_d:(List Int)) (a0_d_1:Int) (a1_c:Tn71) (a2_name:ByteArray):Option (Tn59×(List Int)×Int):=
 let t13:=(Int.ofNat (List.length a1_c.1))
 (j002 a0_d a0_d_1 t13).bind fun r14=>
 (j002 r14.2.1 r14.2.2 6).bind fun r16=>
 let t17:=(w64 (20454+r16.1))
 let t18:=(w64 (t17-2))
 let t20:(List Int):=[0,32400,7200,9000,79200,1]
 (j01d r16.2.1 r16.2.2 t20).bind fun r21=>
 (j002 r21.2.1 r21.2.2 3).bind fun r24=>
 (j002 r24.2.1 r24.2.2 2).bind fun r26=>
 let t27:=(w64 (1+r26.1))
 cond (r24.1==0) (
 let t33:(List Int):=[6,8,12,24,23,49]
 (j01d r26.2.1 r26.2.2 t33).bind fun r34=>
 (j002 r34.2.1 r34.2.2 3).bind fun r37=>
 let t38:=(w64 (1+r37.1))
 (j03W t38 r37.2.1 r37.2.2 a1_c.1 a1_c.2.1 a1_c.2.2.1 a1_c.2.2.2 ByteArray.empty 0 0 0 0 0 0 0 a2_name r14.1 t18 r21.1 r24.1 r34.1 0 0 ([]:(List Int))).bind fun q0=>
 (j010 q0.1 q0.2.1 2).bind fun r54=>
 cond r54.1 (
 (j03n r54.2.1 r54.2.2).bind fun r56=>
 (j010 r56.2.1 r56.2.2 4).bind fun r59=>
 let t63:=(Int.ofNat (List.length q0.2.2.2.2.1))
 cond (cond r59.1 (decide (t63>0)) false) (
 let t69:=(Int.ofNat (List.length q0.2.2.2.2.1))
 (j002 r59.2.1 r59.2.2 t69).bind fun r70=>
 (j002 r70.2.1 r70.2.2 2).bind fun r72=>
 let t73:=(w64 (1+r72.1))
 some ((q0.2.2.2.2.2.2.2.2.2.2.2.2.2.2.1,(q0.2.2.2.2.2.2.2.2.2.2.2.2.2.2.2.1,((q0.2.2.2.2.2.2.2.2.2.2.2.2.2.2.2.2.1,q0.2.2.2.2.2.2.2.2.2.2.2.2.2.2.2.2.2.1),(q0.2.2.2.2.2.2.2.2.2.2.2.2.2.2.2.2.2.2.1,(q0.2.2.2.2.2.2.2.2.2.2.2.2.2.2.2.2.2.2.2.1,(q0.2.2.2.2.2.2.2.2.2.2.2.2.2.2.2.2.2.2.2.2.2.2,(r56.1,(r70.1,t73)))))))),r72.2.1,r72.2.2)) (
 some ((q0.2.2.2.2.2.2.2.2.2.2.2.2.2.2.1,(q0.2.2.2.2.2.2.2.2.2.2.2.2.2.2.2.1,((q0.2.2.2.2.2.2.2.2.2.2.2.2.2.2.2.2.1,q0.2.2.2.2.2.2.2.2.2.2.2.2.2.2.2.2.2.1),(q0.2.2.2.2.2.2.2.2.2.2.2.2.2.2.2.2.2.2.1,(q0.2.2.2.2.2.2.2.2.2.2.2.2.2.2.2.2.2.2.2.1,(q0.2.2.2.2.2.2.2.2.2.2.2.2.2.2.2.2.2.2.2.2.2.2,(r56.1,(q0.2.2.2.2.2.2.2.2.2.2.2.2.2.2.2.2.2.2.2.2.1,q0.2.2.2.2.2.2.2.2.2.2.2.2.2.2.2.2.2.2.2.2.2.1)))))))),r59.2.1,r59.2.2))) (
 (j010 r54.2.1 r54.2.2 4).bind fun r59_1=>
 let t63_1:=(Int.ofNat (List.length q0.2.2.2.2.1))
 cond (cond r59_1.1 (decide (t63_1>0)) false) (
 let t69_1:=(Int.ofNat (List.length q0.2.2.2.2.1))
 (j002 r59_1.2.1 r59_1.2.2 t69_1).bind fun r70_1=>
 (j002 r70_1.2.1 r70_1.2.2 2).bind fun r72_1=>
 let t73_1:=(w64 (1+r72_1.1))
 some ((q0.2.2.2.2.2.2.2.2.2.2.2.2.2.2.1,(q0.2.2.2.2.2.2.2.2.2.2.2.2.2.2.2.1,((q0.2.2.2.2.2.2.2.2.2.2.2.2.2.2.2.2.1,q0.2.2.2.2.2.2.2.2.2.2.2.2.2.2.2.2.2.1),(q0.2.2.2.2.2.2.2.2.2.2.2.2.2.2.2.2.2.2.1,(q0.2.2.2.2.2.2.2.2.2.2.2.2.2.2.2.2.2.2.2.1,(q0.2.2.2.2.2.2.2.2.2.2.2.2.2.2.2.2.2.2.2.2.2.2,(([]:Tn2),(r70_1.1,t73_1)))))))),r72_1.2.1,r72_1.2.2)) (
 some ((q0.2.2.2.2.2.2.2.2.2.2.2.2.2.2.1,(q0.2.2.2.2.2.2.2.2.2.2.2.2.2.2.2.1,((q0.2.2.2.2.2.2.2.2.2.2.2.2.2.2.2.2.1,q0.2.2.2.2.2.2.2.2.2.2.2.2.2.2.2.2.2.1),(q0.2.2.2.2.2.2.2.2.2.2.2.2.2.2.2.2.2.2.1,(q0.2.2.2.2.2.2.2.2.2.2.2.2.2.2.2.2.2.2.2.1,(q0.2.2.2.2.2.2.2.2.2.2.2.2.2.2.2.2.2.2.2.2.2.2,(([]:Tn2),(q0.2.2.2.2.2.2.2.2.2.2.2.2.2.2.2.2.2.2.2.2.1,q0.2.2.2.2.2.2.2.2.2.2.2.2.2.2.2.2.2.2.2.2.2.1)))))))),r59_1.2.1,r59_1.2.2)))) (
 (j002 r26.2.1 r26.2.2 3).bind fun r37_1=>
 let t38_1:=(w64 (1+r37_1.1))
 (j03W t38_1 r37_1.2.1 r37_1.2.2 a1_c.1 a1_c.2.1 a1_c.2.2.1 a1_c.2.2.2 ByteArray.empty 0 0 0 0 0 0 0 a2_name r14.1 t18 r21.1 r24.1 t27 0 0 ([]:(List Int))).bind fun q0_1=>
 (j010 q0_1.1 q0_1.2.1 2).bind fun r54_1=>
 cond r54_1.1 (
 (j03n r54_1.2.1 r54_1.2.2).bind fun r56_1=>
 (j010 r56_1.2.1 r56_1.2.2 4).bind fun r59_2=>
 let t63_2:=(Int.ofNat (List.length q0_1.2.2.2.2.1))
 cond (cond r59_2.1 (decide (t63_2>0)) false) (
 let t69_2:=(Int.ofNat (List.length q0_1.2.2.2.2.1))
 (j002 r59_2.2.1 r59_2.2.2 t69_2).bind fun r70_2=>
 (j002 r70_2.2.1 r70_2.2.2 2).bind fun r72_2=>
 let t73_2:=(w64 (1+r72_2.1))
 some ((q0_1.2.2.2.2.2.2.2.2.2.2.2.2.2.2.1,(q0_1.2.2.2.2.2.2.2.2.2.2.2.2.2.2.2.1,((q0_1.2.2.2.2.2.2.2.2.2.2.2.2.2.2.2.2.1,q0_1.2.2.2.2.2.2.2.2.2.2.2.2.2.2.2.2.2.1),(q0_1.2.2.2.2.2.2.2.2.2.2.2.2.2.2.2.2.2.2.1,(q0_1.2.2.2.2.2.2.2.2.2.2.2.2.2.2.2.2.2.2.2.1,(q0_1.2.2.2.2.2.2.2.2.2.2.2.2.2.2.2.2.2.2.2.2.2.2,(r56_1.1,(r70_2.1,t73_2)))))))),r72_2.2.1,r72_2.2.2)) (
 some ((q0_1.2.2.2.2.2.2.2.2.2.2.2.2.2.2.1,(q0_1.2.2.2.2.2.2.2.2.2.2.2.2.2.2.2.1,((q0_1.2.2.2.2.2.2.2.2.2.2.2.2.2.2.2.2.1,q0_1.2.2.2.2.2.2.2.2.2.2.2.2.2.2.2.2.2.1),(q0_1.2.2.2.2.2.2.2.2.2.2.2.2.2.2.2.2.2.2.1,(q0_1.2.2.2.2.2.2.2.2.2.2.2.2.2.2.2.2.2.2.2.1,(q0_1.2.2.2.2.2.2.2.2.2.2.2.2.2.2.2.2.2.2.2.2.2.2,(r56_1.1,(q0_1.2.2.2.2.2.2.2.2.2.2.2.2.2.2.2.2.2.2.2.2.1,q0_1.2.2.2.2.2.2.2.2.2.2.2.2.2.2.2.2.2.2.2.2.2.1)))))))),r59_2.2.1,r59_2.2.2))) (
 (j010 r54_1.2.1 r54_1.2.2 4).bind fun r59_3=>
 let t63_3:=(Int.ofNat (List.length q0_1.2.2.2.2.1))
 cond (cond r59_3.1 (decide (t63_3>0)) false) (
 let t69_3:=(Int.ofNat (List.length q0_1.2.2.2.2.1))
 (j002 r59_3.2.1 r59_3.2.2 t69_3).bind fun r70_3=>
 (j002 r70_3.2.1 r70_3.2.2 2).bind fun r72_3=>
 let t73_3:=(w64 (1+r72_3.1))
 some ((q0_1.2.2.2.2.2.2.2.2.2.2.2.2.2.2.1,(q0_1.2.2.2.2.2.2.2.2.2.2.2.2.2.2.2.1,((q0_1.2.2.2.2.2.2.2.2.2.2.2.2.2.2.2.2.1,q0_1.2.2.2.2.2.2.2.2.2.2.2.2.2.2.2.2.2.1),(q0_1.2.2.2.2.2.2.2.2.2.2.2.2.2.2.2.2.2.2.1,(q0_1.2.2.2.2.2.2.2.2.2.2.2.2.2.2.2.2.2.2.2.1,(q0_1.2.2.2.2.2.2.2.2.2.2.2.2.2.2.2.2.2.2.2.2.2.2,(([]:Tn2),(r70_3.1,t73_3)))))))),r72_3.2.1,r72_3.2.2)) (
 some ((q0_1.2.2.2.2.2.2.2.2.2.2.2.2.2.2.1,(q0_1.2.2.2.2.2.2.2.2.2.2.2.2.2.2.2.1,((q0_1.2.2.2.2.2.2.2.2.2.2.2.2.2.2.2.2.1,q0_1.2.2.2.2.2.2.2.2.2.2.2.2.2.2.2.2.2.1),(q0_1.2.2.2.2.2.2.2.2.2.2.2.2.2.2.2.2.2.2.1,(q0_1.2.2.2.2.2.2.2.2.2.2.2.2.2.2.2.2.2.2.2.1,(q0_1.2.2.2.2.2.2.2.2.2.2.2.2.2.2.2.2.2.2.2.2.2.2,(([]:Tn2),(q0_1.2.2.2.2.2.2.2.2.2.2.2.2.2.2.2.2.2.2.2.2.1,q0_1.2.2.2.2.2.2.2.2.2.2.2.2.2.2.2.2.2.2.2.2.2.1)))))))),r59_3.2.1,r59_3.2.2))))
def j04k (a0_d:(List Int)) (a0_d_1:Int):Option (Int×(List Int)×Int):=
 (j002 a0_d a0_d_1 576).bind fun r5=>
 let t6:=(w64 (3600*r5.1))
 let t7:=(w64 (1767139200+t6))
 (j010 r5.2.1 r5.2.2 3).bind fun r9=>
 cond r9.1 (
 let t12:(List Int):=[(-1),1,1800,3599]
 (j01d r9.2.1 r9.2.2 t12).bind fun r13=>
 let t14:=(w64 (t7+r13.1))
 some (t14,r13.2.1,r13.2.2)) (
 some (t7,r9.2.1,r9.2.2))
def j07f (a0_d:(List Int)) (a0_d_1:Int) (a1_c:Tn71):Option (Tn24×(List Int)×Int):=
 let t9:=(Int.ofNat (List.length a1_c.2.1))
 (j002 a0_d a0_d_1 3).bind fun r11=>
 (j002 r11.2.1 r11.2.2 t9).bind fun r14=>
 (j04k r14.2.1 r14.2.2).bind fun r16=>
 let t21:(List Int):=[3600,86400,7,259200,40000]
 (j01d r16.2.1 r16.2.2 t21).bind fun r22=>
 let t23:=(w64 (r16.1+r22.1))
 cond (r11.1==2) (
 cond (decide (t9<2)) (
 some ((0,(r14.1,(0,(r16.1,t23)))),r22.2.1,r22.2.2)) (
 let t34:=(w64 (r14.1+1))
 let t37:=(w64 (t9-1))
 (j002 r22.2.1 r22.2.2 t37).bind fun r38=>
 let t39:=(w64 (t34+r38.1))
 cond (!(t9==0)) (
 let t41:=(Int.tmod t39 t9)
 cond (r11.1==1) (
 (j010 r38.2.1 r38.2.2 4).bind fun r48=>
 cond r48.1 (
 some ((r11.1,((-1),(t41,(r16.1,t23)))),r48.2.1,r48.2.2)) (
 some ((r11.1,(r14.1,(t41,(r16.1,t23)))),r48.2.1,r48.2.2))) (
 some ((r11.1,(r14.1,(t41,(r16.1,t23)))),r38.2.1,r38.2.2))) none)) (
 cond (r11.1==1) (
 (j010 r22.2.1 r22.2.2 4).bind fun r48_1=>
 cond r48_1.1 (
 some ((r11.1,((-1),(0,(r16.1,t23)))),r48_1.2.1,r48_1.2.2)) (
 some ((r11.1,(r14.1,(0,(r16.1,t23)))),r48_1.2.1,r48_1.2.2))) (
 some ((r11.1,(r14.1,(0,(r16.1,t23)))),r22.2.1,r22.2.2)))
def j02i [LP] (s6 s8:Int) (b0:(List Int)) (b0_1:Int) (b5:Tn54) (b5_1:Tn48) (b5_2:Tn26) (b7:ByteArray) (l5c3:Tn65) (l7c1:Tn60):Option ((Int×Int×(List Int)×Int×Tn54×Tn48×Tn26×ByteArray×Tn65×Tn60) ⊕ ((Int×(List Int)×Int×Tn54×Tn48×Tn26×ByteArray×Tn65×Tn60))):=
 cond (decide (s8>0)) (
 (j0bv).bind fun r38_8=>
 let t41_5:=(Int.ofNat (List.length l7c1))
 cond (inR t41_5 (List.length r38_8)) (
 let t43_8:=(List.getD r38_8 (Int.toNat t41_5) ByteArray.empty)
 (j06y b0 b0_1 (b5,(b5_1,(b5_2,l5c3))) t43_8).bind fun r44_8=>
 let t45_8:Tn60:=[(r44_8.1.1,(r44_8.1.2.1,((r44_8.1.2.2.1.1,r44_8.1.2.2.1.2),(r44_8.1.2.2.2.1,(r44_8.1.2.2.2.2.1,(r44_8.1.2.2.2.2.2.1,(r44_8.1.2.2.2.2.2.2.1,(r44_8.1.2.2.2.2.2.2.2.1,r44_8.1.2.2.2.2.2.2.2.2))))))))]
 cond (decide (List.length l7c1+List.length t45_8≤sizeMax)) (
 let t46_8:Tn60:=(l7c1++t45_8)
 let t33_8:=(w64 (s8-1))
 some (.inl (s6,t33_8,r44_8.2.1,r44_8.2.2,b5,b5_1,b5_2,b7,l5c3,t46_8))) none) none) (
 some (.inr (s6,b0,b0_1,b5,b5_1,b5_2,b7,l5c3,l7c1)))
def j03t [LP] (s6 s8:Int) (b0:(List Int)) (b0_1:Int) (b5:Tn54) (b5_1:Tn48) (b5_2:Tn26) (b7:ByteArray) (l5c3:Tn65) (l7c1:Tn60):Option ((Int×(List Int)×Int×Tn54×Tn48×Tn26×ByteArray×Tn65×Tn60)):=
 LP.lp (fun h=>j02i h.1 h.2.1 h.2.2.1 h.2.2.2.1 h.2.2.2.2.1 h.2.2.2.2.2.1 h.2.2.2.2.2.2.1 h.2.2.2.2.2.2.2.1 h.2.2.2.2.2.2.2.2.1 h.2.2.2.2.2.2.2.2.2) (s6,s8,b0,b0_1,b5,b5_1,b5_2,b7,l5c3,l7c1)
theorem j06O (s6 s8:Int) (b0:(List Int)) (b0_1:Int) (b5:Tn54) (b5_1:Tn48) (b5_2:Tn26) (b7:ByteArray) (l5c3:Tn65) (l7c1:Tn60):j03t s6 s8 b0 b0_1 b5 b5_1 b5_2 b7 l5c3 l7c1=lpK (j02i s6 s8 b0 b0_1 b5 b5_1 b5_2 b7 l5c3 l7c1) (fun h=>j03t h.1 h.2.1 h.2.2.1 h.2.2.2.1 h.2.2.2.2.1 h.2.2.2.2.2.1 h.2.2.2.2.2.2.1 h.2.2.2.2.2.2.2.1 h.2.2.2.2.2.2.2.2.1 h.2.2.2.2.2.2.2.2.2):=j005 _ _
def j02j (s6 s9:Int) (b0:(List Int)) (b0_1:Int) (b5:Tn54) (b5_1:Tn48) (b5_2:Tn26) (b7:ByteArray) (l5c3:Tn65) (l7c1:Tn60) (l7c2:Tn29):Option ((Int×Int×(List Int)×Int×Tn54×Tn48×Tn26×ByteArray×Tn65×Tn60×Tn29) ⊕ ((Int×(List Int)×Int×Tn54×Tn48×Tn26×ByteArray×Tn65×Tn60×Tn29))):=
 cond (decide (s9>0)) (
 (j07f b0 b0_1 (b5,(b5_1,(b5_2,l5c3)))).bind fun r58_8=>
 let t59_8:Tn29:=[(r58_8.1.1,(r58_8.1.2.1,(r58_8.1.2.2.1,(r58_8.1.2.2.2.1,r58_8.1.2.2.2.2))))]
 cond (decide (List.length l7c2+List.length t59_8≤sizeMax)) (
 let t60_8:Tn29:=(l7c2++t59_8)
 let t53_8:=(w64 (s9-1))
 some (.inl (s6,t53_8,r58_8.2.1,r58_8.2.2,b5,b5_1,b5_2,b7,l5c3,l7c1,t60_8))) none) (
 some (.inr (s6,b0,b0_1,b5,b5_1,b5_2,b7,l5c3,l7c1,l7c2)))
def j04D [LP] (s6 s9:Int) (b0:(List Int)) (b0_1:Int) (b5:Tn54) (b5_1:Tn48) (b5_2:Tn26) (b7:ByteArray) (l5c3:Tn65) (l7c1:Tn60) (l7c2:Tn29):Option ((Int×(List Int)×Int×Tn54×Tn48×Tn26×ByteArray×Tn65×Tn60×Tn29)):=
 LP.lp (fun h=>j02j h.1 h.2.1 h.2.2.1 h.2.2.2.1 h.2.2.2.2.1 h.2.2.2.2.2.1 h.2.2.2.2.2.2.1 h.2.2.2.2.2.2.2.1 h.2.2.2.2.2.2.2.2.1 h.2.2.2.2.2.2.2.2.2.1 h.2.2.2.2.2.2.2.2.2.2) (s6,s9,b0,b0_1,b5,b5_1,b5_2,b7,l5c3,l7c1,l7c2)
theorem j06P (s6 s9:Int) (b0:(List Int)) (b0_1:Int) (b5:Tn54) (b5_1:Tn48) (b5_2:Tn26) (b7:ByteArray) (l5c3:Tn65) (l7c1:Tn60) (l7c2:Tn29):j04D s6 s9 b0 b0_1 b5 b5_1 b5_2 b7 l5c3 l7c1 l7c2=lpK (j02j s6 s9 b0 b0_1 b5 b5_1 b5_2 b7 l5c3 l7c1 l7c2) (fun h=>j04D h.1 h.2.1 h.2.2.1 h.2.2.2.1 h.2.2.2.2.1 h.2.2.2.2.2.1 h.2.2.2.2.2.2.1 h.2.2.2.2.2.2.2.1 h.2.2.2.2.2.2.2.2.1 h.2.2.2.2.2.2.2.2.2.1 h.2.2.2.2.2.2.2.2.2.2):=j005 _ _
def j02k [LP] (s6:Int) (b0:(List Int)) (b0_1:Int) (b5:Tn54) (b5_1:Tn48) (b5_2:Tn26) (l5c3:Tn65):Option ((Int×(List Int)×Int×Tn54×Tn48×Tn26×Tn65) ⊕ (((List Int)×Int×Tn54×Tn48×Tn26×Tn65))):=
 cond (decide (s6>0)) (
 let t20_3:(List ByteArray):=[(ByteArray.mk #[102,105,114,115,116]),(ByteArray.mk #[115,101,99,111,110,100]),(ByteArray.mk #[116,104,105,114,100])]
 let t23_2:=(Int.ofNat (List.length l5c3))
 let t24_3:=(Int.tmod t23_2 3)
 cond (inR t24_3 (List.length t20_3)) (
 let t26_3:=(List.getD t20_3 (Int.toNat t24_3) ByteArray.empty)
 (j002 b0 b0_1 4).bind fun r29_3=>
 (j03t s6 r29_3.1 r29_3.2.1 r29_3.2.2 b5 b5_1 b5_2 t26_3 l5c3 ([]:Tn60)).bind fun q2_3=>
 (j002 q2_3.2.1 q2_3.2.2.1 4).bind fun r49_3=>
 (j04D q2_3.1 r49_3.1 r49_3.2.1 r49_3.2.2 q2_3.2.2.2.1 q2_3.2.2.2.2.1 q2_3.2.2.2.2.2.1 q2_3.2.2.2.2.2.2.1 q2_3.2.2.2.2.2.2.2.1 q2_3.2.2.2.2.2.2.2.2 ([]:Tn29)).bind fun q4_3=>
 let t65_3:Tn65:=[(q4_3.2.2.2.2.2.2.1,(q4_3.2.2.2.2.2.2.2.2.1,q4_3.2.2.2.2.2.2.2.2.2))]
 cond (decide (List.length q4_3.2.2.2.2.2.2.2.1+List.length t65_3≤sizeMax)) (
 let t66_3:Tn65:=(q4_3.2.2.2.2.2.2.2.1++t65_3)
 let t19_3:=(w64 (q4_3.1-1))
 some (.inl (t19_3,q4_3.2.1,q4_3.2.2.1,q4_3.2.2.2.1,q4_3.2.2.2.2.1,q4_3.2.2.2.2.2.1,t66_3))) none) none) (
 some (.inr (b0,b0_1,b5,b5_1,b5_2,l5c3)))
def j04E [LP] (s6:Int) (b0:(List Int)) (b0_1:Int) (b5:Tn54) (b5_1:Tn48) (b5_2:Tn26) (l5c3:Tn65):Option (((List Int)×Int×Tn54×Tn48×Tn26×Tn65)):=
 LP.lp (fun h=>j02k h.1 h.2.1 h.2.2.1 h.2.2.2.1 h.2.2.2.2.1 h.2.2.2.2.2.1 h.2.2.2.2.2.2) (s6,b0,b0_1,b5,b5_1,b5_2,l5c3)
theorem j06Q (s6:Int) (b0:(List Int)) (b0_1:Int) (b5:Tn54) (b5_1:Tn48) (b5_2:Tn26) (l5c3:Tn65):j04E s6 b0 b0_1 b5 b5_1 b5_2 l5c3=lpK (j02k s6 b0 b0_1 b5 b5_1 b5_2 l5c3) (fun h=>j04E h.1 h.2.1 h.2.2.1 h.2.2.2.1 h.2.2.2.2.1 h.2.2.2.2.2.1 h.2.2.2.2.2.2):=j005 _ _
def j066 [LP] (a0_d:(List Int)) (a0_d_1 a1_n:Int):Option (Tn71×(List Int)×Int):=
 (j06x a0_d a0_d_1).bind fun r11=>
 (j002 r11.2.1 r11.2.2 a1_n).bind fun r14=>
 let t15:=(w64 (1+r14.1))
 (j04E t15 r14.2.1 r14.2.2 r11.1.1 r11.1.2.1 r11.1.2.2.1 ([]:Tn65)).bind fun q0=>
 some ((q0.2.2.1,(q0.2.2.2.1,(q0.2.2.2.2.1,q0.2.2.2.2.2))),q0.1,q0.2.1)
def j0cl (a0_x a1_n:Int):Option (Int):=
 cond (!(a1_n==0)) (
 let t7:=(Int.tmod a0_x a1_n)
 let t9:=(w64 (t7+a1_n))
 cond (!(a1_n==0)) (
 let t11:=(Int.tmod t9 a1_n)
 some t11) none) none
def j022 [LP] (s1 s58 s59:Int) (b6:Tn54) (b6_1:Tn48) (b6_2:Tn26) (b6_3:Tn65) (l8:Tn14):Option ((Int×Int×Int×Tn54×Tn48×Tn26×Tn65×Tn14) ⊕ (Bool ⊕ Unit)):=
 cond (decide (s59<s58)) (
 cond (inR s59 (List.length l8)) (
 let t65_3:=(List.getD l8 (Int.toNat s59) (0,(0,0))).1
 let t65_4:=(List.getD l8 (Int.toNat s59) (0,(0,0))).2.1
 let t65_5:=(List.getD l8 (Int.toNat s59) (0,(0,0))).2.2
 cond (decide (t65_3≥t65_4)) (
 some (.inr (.inl false))) (
 cond (decide (s59>0)) (
 let t79_1:=(w64 (s59-1))
 cond (inR t79_1 (List.length l8)) (
 let t82_1:=(List.getD l8 (Int.toNat t79_1) (0,(0,0))).2.1
 cond (t65_3 != t82_1) (
 some (.inr (.inl false))) (
 let t89_1:=(w64 (s59-1))
 cond (inR t89_1 (List.length l8)) (
 let t92_1:=(List.getD l8 (Int.toNat t89_1) (0,(0,0))).2.2
 cond (t65_5==t92_1) (
 some (.inr (.inl false))) (
 (j03r (b6,(b6_1,(b6_2,b6_3))) 0 t65_3).bind fun r101_2=>
 cond (r101_2 != t65_5) (
 some (.inr (.inl false))) (
 let t110_2:=(w64 (t65_4-1))
 (j03r (b6,(b6_1,(b6_2,b6_3))) 0 t110_2).bind fun r111_2=>
 cond (r111_2 != t65_5) (
 some (.inr (.inl false))) (
 let t125_2:=(w64 (t65_4-t65_3))
 (j0cl s1 t125_2).bind fun r126_2=>
 let t127_2:=(w64 (t65_3+r126_2))
 (j03r (b6,(b6_1,(b6_2,b6_3))) 0 t127_2).bind fun r128_2=>
 cond (r128_2 != t65_5) (
 some (.inr (.inl false))) (
 let t133_2:=(w64 (s59+1))
 some (.inl (s1,s58,t133_2,b6,b6_1,b6_2,b6_3,l8))))))) none)) none) (
 (j03r (b6,(b6_1,(b6_2,b6_3))) 0 t65_3).bind fun r101_3=>
 cond (r101_3 != t65_5) (
 some (.inr (.inl false))) (
 let t110_3:=(w64 (t65_4-1))
 (j03r (b6,(b6_1,(b6_2,b6_3))) 0 t110_3).bind fun r111_3=>
 cond (r111_3 != t65_5) (
 some (.inr (.inl false))) (
 let t125_3:=(w64 (t65_4-t65_3))
 (j0cl s1 t125_3).bind fun r126_3=>
 let t127_3:=(w64 (t65_3+r126_3))
 (j03r (b6,(b6_1,(b6_2,b6_3))) 0 t127_3).bind fun r128_3=>
 cond (r128_3 != t65_5) (
 some (.inr (.inl false))) (
 let t133_3:=(w64 (s59+1))
 some (.inl (s1,s58,t133_3,b6,b6_1,b6_2,b6_3,l8)))))))) none) (
 some (.inr (.inr ())))
def j03d [LP] (s1 s58 s59:Int) (b6:Tn54) (b6_1:Tn48) (b6_2:Tn26) (b6_3:Tn65) (l8:Tn14):Option (Bool ⊕ Unit):=
 LP.lp (fun h=>j022 h.1 h.2.1 h.2.2.1 h.2.2.2.1 h.2.2.2.2.1 h.2.2.2.2.2.1 h.2.2.2.2.2.2.1 h.2.2.2.2.2.2.2) (s1,s58,s59,b6,b6_1,b6_2,b6_3,l8)
theorem j06m (s1 s58 s59:Int) (b6:Tn54) (b6_1:Tn48) (b6_2:Tn26) (b6_3:Tn65) (l8:Tn14):j03d s1 s58 s59 b6 b6_1 b6_2 b6_3 l8=lpK (j022 s1 s58 s59 b6 b6_1 b6_2 b6_3 l8) (fun h=>j03d h.1 h.2.1 h.2.2.1 h.2.2.2.1 h.2.2.2.2.1 h.2.2.2.2.2.1 h.2.2.2.2.2.2.1 h.2.2.2.2.2.2.2):=j005 _ _
def j06V [LP] (a0_t:(List Int)) (a1_n:Int):Option (Bool):=
 (j0dA a0_t).bind fun r13=>
 cond (!r13) (
 (j07M).bind fun r15=>
 some r15) (
 (j0f5 a0_t).bind fun r17=>
 (j066 r17.1 r17.2 1).bind fun r19=>
 (j04k r19.2.1 r19.2.2).bind fun r21=>
 let t26:=(w64 (r21.1+777600))
 (j02U (r19.1.1,(r19.1.2.1,(r19.1.2.2.1,r19.1.2.2.2))) 0 r21.1 t26).bind fun r27=>
 let t34:=(Int.ofNat (List.length r27.1))
 cond ((inR 0 (List.length r27.1)) || !(!(cond (r27.2 != 0) true (t34==0)))) (
 let t41:=(List.getD r27.1 0 (0,(0,0))).1
 let t48:=(Int.ofNat (List.length r27.1))
 let t49:=(w64 (t48-1))
 cond ((inR t49 (List.length r27.1)) || !(!(cond (cond (r27.2 != 0) true (t34==0)) true (t41 != r21.1)))) (
 let t52:=(List.getD r27.1 (Int.toNat t49) (0,(0,0))).2.1
 let t54:=(w64 (r21.1+777600))
 let t56:Bool:=(cond (cond (cond (r27.2 != 0) true (t34==0)) true (t41 != r21.1)) true (t52 != t54))
 cond t56 (
 some false) (
 let t58:=(Int.ofNat (List.length r27.1))
 (j03d a1_n t58 0 r19.1.1 r19.1.2.1 r19.1.2.2.1 r19.1.2.2.2 r27.1).bind fun q0=>
 sumC q0 (fun a=>
 some a) (fun b=>
 (j07M).bind fun r134=>
 some r134))) none) none)
end
end Go.Proofs.Pw
