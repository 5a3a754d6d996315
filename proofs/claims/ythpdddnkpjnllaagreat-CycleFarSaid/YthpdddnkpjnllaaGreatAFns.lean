/- Plain functions, printed by a program out of the given code. -/
import Derived.Test.YthpdddnkpjnllaaGreatALD
open Go Go.Lft
set_option linter.unusedVariables false
namespace Go.Proofs.Pw
noncomputable section
abbrev Tn2:Type:=(List (Int×Int))
abbrev Tn3:Type:=(Int×(Int×Int))
abbrev Tn14:Type:=(List Tn3)
abbrev Tn13:Type:=(Int×Tn2)
abbrev Tn19:Type:=(ByteArray×(Int×(List Int)))
abbrev Tn20:Type:=(List Tn13)
abbrev Tn24:Type:=(Int×(Int×Tn3))
abbrev Tn26:Type:=(List Tn19)
abbrev Tn29:Type:=(List Tn24)
abbrev Tn38:Type:=(Int×(Int×Tn24))
abbrev Tn42:Type:=(List Tn38)
abbrev Tn44:Type:=(ByteArray×(Int×(Tn2×(Int×(Int×Bool)))))
abbrev Tn48:Type:=(List Tn44)
abbrev Tn52:Type:=(ByteArray×(Int×Tn42))
abbrev Tn54:Type:=(List Tn52)
abbrev Tn59:Type:=(ByteArray×(Int×((Int×Int)×(Int×(Int×((List Int)×(Tn2×(Int×Int))))))))
abbrev Tn60:Type:=(List Tn59)
abbrev Tn64:Type:=(ByteArray×(Tn60×Tn29))
abbrev Tn65:Type:=(List Tn64)
abbrev Tn71:Type:=(Tn54×(Tn48×(Tn26×Tn65)))
abbrev Tn73:Type:=(Tn71×Tn20)
abbrev unc2 {A0 A1 R:Type} (f:A0→A1→R) (h:A0×A1):R:=f h.1 h.2
abbrev unc5 {A0 A1 A2 A3 A4 R:Type} (f:A0→A1→A2→A3→A4→R) (h:A0×A1×A2×A3×A4):R:=f h.1 h.2.1 h.2.2.1 h.2.2.2.1 h.2.2.2.2
abbrev unc7 {A0 A1 A2 A3 A4 A5 A6 R:Type} (f:A0→A1→A2→A3→A4→A5→A6→R) (h:A0×A1×A2×A3×A4×A5×A6):R:=f h.1 h.2.1 h.2.2.1 h.2.2.2.1 h.2.2.2.2.1 h.2.2.2.2.2.1 h.2.2.2.2.2.2
def j0eY (a0_l:(List Int)):Option (Bool):=
 let t4:=(Int.ofNat (List.length a0_l))
 some (decide (t4≤500))
def j07y (a0_l:Tn59):Option (Int×Int):=
 let t5:(List Int):=[3600,86400,604800]
 let t4:(List Int):=(List.replicate 3 0)
 let t18:Bool:=(cond (cond (decide (a0_l.2.2.2.1<0)) true (decide (a0_l.2.2.2.1≥3))) true (decide (a0_l.2.2.2.2.1<1)))
 let t27:=(Int.ofNat (List.length a0_l.2.2.2.2.2.1))
 let t29:Bool:=(cond (cond t18 true (decide (a0_l.2.2.2.2.1>400))) true (decide (t27<1)))
 let t33:=(Int.ofNat (List.length a0_l.2.2.2.2.2.1))
 cond (cond t29 true (decide (t33>12))) (
 some (0,1)) (
 let t38:=(Int.ofNat (List.length a0_l.2.2.2.2.2.1))
 let t41:=(w64 (t38*a0_l.2.2.2.2.1))
 cond (inR a0_l.2.2.2.1 3) (
 let t45:=(List.getD t5 (Int.toNat a0_l.2.2.2.1) 0)
 let t46:=(w64 (t41*t45))
 some (t46,0)) none)
def j07F (a0_z:Tn52):Option (ByteArray):=
 some a0_z.1
def j09a (a0_c:Int):Option (Bool):=
 some (cond (decide (a0_c≥97)) (decide (a0_c≤122)) false)
def j0dD (a0_c:Int):Option (Bool):=
 some (cond (decide (a0_c≥48)) (decide (a0_c≤57)) false)
def j04I (s0:ByteArray) (s19 s20:Int):Option ((ByteArray×Int×Int) ⊕ (Bool ⊕ Unit)):=
 cond (decide (s20<s19)) (
 cond (inR s20 (ByteArray.size s0)) (
 let t25_1:=(strAt s0 s20)
 (j09a t25_1).bind fun r27_1=>
 cond (!r27_1) (
 (j0dD t25_1).bind fun r31_1=>
 cond (cond (cond (!r31_1) (t25_1 != 95) false) (t25_1 != 45) false) (
 some (.inr (.inl false))) (
 let t42_2:=(w64 (s20+1))
 some (.inl (s0,s19,t42_2)))) (
 let t42_3:=(w64 (s20+1))
 some (.inl (s0,s19,t42_3)))) none) (
 some (.inr (.inr ())))
def j04l [LP] (s0:ByteArray) (s19 s20:Int):Option (Bool ⊕ Unit):=
 LP.lp (fun h=>j04I h.1 h.2.1 h.2.2) (s0,s19,s20)
theorem j0eZ (s0:ByteArray) (s19 s20:Int):j04l s0 s19 s20=lpK (j04I s0 s19 s20) (fun h=>j04l h.1 h.2.1 h.2.2):=j003 _ _
def j054 [LP] (a0_s:ByteArray):Option (Bool):=
 let t9:=(Int.ofNat (ByteArray.size a0_s))
 let t11:Bool:=(cond (ByteArray.toList a0_s==ByteArray.toList ByteArray.empty) true (decide (t9>24)))
 cond ((inR 0 (ByteArray.size a0_s)) || !(!t11)) (
 let t14:=(strAt a0_s 0)
 cond t11 (
 some false) (
 (j09a t14).bind fun r15=>
 cond (!r15) (
 some false) (
 let t19:=(Int.ofNat (ByteArray.size a0_s))
 (j04l a0_s t19 0).bind fun q0=>
 sumC q0 (fun a=>
 some a) (fun b=>
 some true)))) none
def j02B [LP] (a0_s:ByteArray) (a1_seen:(List (ByteArray×Bool))):Option (Int×(List (ByteArray×Bool))):=
 (j054 a0_s).bind fun r6=>
 cond (!r6) (
 some (2,a1_seen)) (
 cond (mapGet false a1_seen a0_s) (
 some (4,a1_seen)) (
 let m2:(List (ByteArray×Bool)):=(mapSet a1_seen a0_s true)
 some (0,m2)))
def zone_in (a0_n a1_lo a2_hi:Int):Option (Bool):=
 some (cond (decide (a0_n≥a1_lo)) (decide (a0_n≤a2_hi)) false)
def j0ct (a0_r:Tn38):Option (Int):=
 (zone_in a0_r.1 1970 2240).bind fun r5=>
 cond (!r5) (
 some 1) (
 (zone_in a0_r.2.1 a0_r.1 2240).bind fun r12=>
 cond (!r12) (
 some 1) (
 (zone_in a0_r.2.2.1 1 12).bind fun r18=>
 cond (!r18) (
 some 1) (
 (zone_in a0_r.2.2.2.1 1 5).bind fun r24=>
 cond (!r24) (
 some 1) (
 (zone_in a0_r.2.2.2.2.1 0 6).bind fun r30=>
 cond (!r30) (
 some 1) (
 (zone_in a0_r.2.2.2.2.2.1 0 86399).bind fun r36=>
 cond (!r36) (
 some 1) (
 (zone_in a0_r.2.2.2.2.2.2 (-64800) 64800).bind fun r42=>
 cond (!r42) (
 some 1) (
 some 0)))))))
def j0f0 (a0_year:Int):Option (Bool):=
 let t4:=(Int.tmod a0_year 4)
 let t8:=(Int.tmod a0_year 100)
 let t12:=(Int.tmod a0_year 400)
 some (cond (t4==0) (cond (t8 != 0) true (t12==0)) false)
def j05M (a0_year a1_month:Int):Option (Int):=
 cond (cond (decide (a1_month<1)) true (decide (a1_month>12))) (
 some 0) (
 let t12:(List Int):=[31,28,31,30,31,30,31,31,30,31,30,31]
 let t5:(List Int):=(List.replicate 12 0)
 cond (a1_month==2) (
 (j0f0 a0_year).bind fun r18=>
 cond r18 (
 some 29) (
 let t21:=(w64 (a1_month-1))
 cond (inR t21 12) (
 let t23:=(List.getD t12 (Int.toNat t21) 0)
 some t23) none)) (
 let t21_1:=(w64 (a1_month-1))
 cond (inR t21_1 12) (
 let t23_1:=(List.getD t12 (Int.toNat t21_1) 0)
 some t23_1) none))
def j09b (a0_d:Tn3):Option (Bool):=
 cond (decide (a0_d.1≥1970)) (
 cond (decide (a0_d.1≤2240)) (
 cond (decide (a0_d.2.2≥1)) (
 (j05M a0_d.1 a0_d.2.1).bind fun r23=>
 some (decide (a0_d.2.2≤r23))) (
 some false)) (
 some false)) (
 some false)
def j06e (a0_a a1_b:Int):Option (Int):=
 cond (!(a1_b==0)) (
 let t8:=(w64 (Int.tdiv a0_a a1_b))
 cond (!(a1_b==0)) (
 let t11:=(Int.tmod a0_a a1_b)
 cond (decide (t11<0)) (
 let t14:=(w64 (t8-1))
 some t14) (
 some t8)) none) none
def j043 (a0_year:Int):Option (Int):=
 let t5:=(w64 (a0_year-1))
 let t7:=(w64 (a0_year-1970))
 let t8:=(w64 (365*t7))
 (j06e t5 4).bind fun r10=>
 let t11:=(w64 (t8+r10))
 (j06e t5 100).bind fun r13=>
 let t14:=(w64 (t11-r13))
 (j06e t5 400).bind fun r16=>
 let t17:=(w64 (t14+r16))
 let t18:=(w64 (t17-477))
 some t18
def j02C (s3 s4 b1 b1_1 b1_2:Int):Option ((Int×Int×Int×Int×Int) ⊕ (Int)):=
 cond (decide (s4<b1_1)) (
 (j05M b1 s4).bind fun r22_1=>
 let t23_1:=(w64 (s3+r22_1))
 let t17_1:=(w64 (s4+1))
 some (.inl (t23_1,t17_1,b1,b1_1,b1_2))) (
 some (.inr s3))
def j044 [LP] (s3 s4 b1 b1_1 b1_2:Int):Option (Int):=
 LP.lp (fun h=>j02C h.1 h.2.1 h.2.2.1 h.2.2.2.1 h.2.2.2.2) (s3,s4,b1,b1_1,b1_2)
theorem j09c (s3 s4 b1 b1_1 b1_2:Int):j044 s3 s4 b1 b1_1 b1_2=lpK (j02C s3 s4 b1 b1_1 b1_2) (fun h=>j044 h.1 h.2.1 h.2.2.1 h.2.2.2.1 h.2.2.2.2):=j003 _ _
def j05q [LP] (a0_d:Tn3):Option (Int):=
 (j043 a0_d.1).bind fun r7=>
 let t10:=(w64 (r7+a0_d.2.2))
 let t11:=(w64 (t10-1))
 (j044 t11 1 a0_d.1 a0_d.2.1 a0_d.2.2).bind fun q0=>
 some q0
def j04m (a0_day:Int):Option (Int):=
 let t4:=(Int.tmod a0_day 7)
 let t5:=(w64 (t4+10))
 let t6:=(Int.tmod t5 7)
 some t6
def j09w [LP] (a0_year a1_month a2_week a3_weekday:Int):Option (Int×Int):=
 (j09b (a0_year,(a1_month,1))).bind fun r17=>
 let t26:Bool:=(cond (cond (!r17) true (decide (a2_week<1))) true (decide (a2_week>5)))
 let t34:Bool:=(cond (cond t26 true (decide (a3_weekday<0))) true (decide (a3_weekday>6)))
 cond t34 (
 some (0,1)) (
 (j05q (a0_year,(a1_month,1))).bind fun r36=>
 (j04m r36).bind fun r40=>
 let t41:=(w64 (a3_weekday-r40))
 let t42:=(w64 (t41+7))
 let t43:=(Int.tmod t42 7)
 let t44:=(w64 (r36+t43))
 let t46:=(w64 (a2_week-1))
 let t47:=(w64 (7*t46))
 let t48:=(w64 (t44+t47))
 (j05M a0_year a1_month).bind fun r53=>
 let t54:=(w64 (r36+r53))
 cond (decide (t48≥t54)) (
 let t57:=(w64 (t48-7))
 some (t57,0)) (
 some (t48,0)))
def j05N (a0_a a1_b:(Int×Int)):Option (Int):=
 let t9:=(w64 (a0_a.1-a1_b.1))
 some t9
def j00e (s1 s2 s8 s9:Int) (b0:Tn2):Option ((Int×Int×Int×Int×Tn2) ⊕ ((Int×Int×Int×Tn2))):=
 cond (decide (s9>s1)) (
 cond (inR s9 (List.length b0)) (
 let t26_2:=(List.getD b0 (Int.toNat s9) (0,0)).1
 let t26_3:=(List.getD b0 (Int.toNat s9) (0,0)).2
 let t29_1:=(w64 (s9-1))
 cond (inR t29_1 (List.length b0)) (
 let t31_2:=(List.getD b0 (Int.toNat t29_1) (0,0)).1
 let t31_3:=(List.getD b0 (Int.toNat t29_1) (0,0)).2
 (j05N (t26_2,t26_3) (t31_2,t31_3)).bind fun r32_1=>
 cond (decide (r32_1<0)) (
 let t41_1:=(w64 (s9-1))
 let t44_1:=(w64 (s9-1))
 cond (inR t44_1 (List.length b0)) (
 let t46_2:=(List.getD b0 (Int.toNat t44_1) (0,0)).1
 let t46_3:=(List.getD b0 (Int.toNat t44_1) (0,0)).2
 cond (inR s9 (List.length b0)) (
 let t50_2:=(List.getD b0 (Int.toNat s9) (0,0)).1
 let t50_3:=(List.getD b0 (Int.toNat s9) (0,0)).2
 cond (inR s9 (List.length b0)) (
 let m15_1:Tn2:=(List.set b0 (Int.toNat s9) (t46_2,t46_3))
 cond (inR t41_1 (List.length m15_1)) (
 let m17_1:Tn2:=(List.set m15_1 (Int.toNat t41_1) (t50_2,t50_3))
 let t36_1:=(w64 (s9-1))
 some (.inl (s1,s2,s8,t36_1,m17_1))) none) none) none) none) (
 some (.inr (s1,s2,s8,b0)))) none) none) (
 some (.inr (s1,s2,s8,b0)))
def j00a [LP] (s1 s2 s8 s9:Int) (b0:Tn2):Option ((Int×Int×Int×Tn2)):=
 LP.lp (fun h=>j00e h.1 h.2.1 h.2.2.1 h.2.2.2.1 h.2.2.2.2) (s1,s2,s8,s9,b0)
theorem j01s (s1 s2 s8 s9:Int) (b0:Tn2):j00a s1 s2 s8 s9 b0=lpK (j00e s1 s2 s8 s9 b0) (fun h=>j00a h.1 h.2.1 h.2.2.1 h.2.2.2.1 h.2.2.2.2):=j003 _ _
def j004 [LP] (s1 s2 s8:Int) (b0:Tn2):Option ((Int×Int×Int×Tn2) ⊕ (Tn2)):=
 cond (decide (s8<s2)) (
 (j00a s1 s2 s8 s8 b0).bind fun q2_1=>
 let t16_1:=(w64 (q2_1.2.2.1+1))
 some (.inl (q2_1.1,q2_1.2.1,t16_1,q2_1.2.2.2))) (
 some (.inr b0))
def j00b [LP] (s1 s2 s8:Int) (b0:Tn2):Option (Tn2):=
 LP.lp (fun h=>j004 h.1 h.2.1 h.2.2.1 h.2.2.2) (s1,s2,s8,b0)
theorem j00J (s1 s2 s8:Int) (b0:Tn2):j00b s1 s2 s8 b0=lpK (j004 s1 s2 s8 b0) (fun h=>j00b h.1 h.2.1 h.2.2.1 h.2.2.2):=j003 _ _
def j006 [LP] (a0_data:Tn2) (a1_a a2_b:Int):Option (Tn2):=
 let t11:=(w64 (a1_a+1))
 (j00b a1_a a2_b t11 a0_data).bind fun q0=>
 some q0
def j008 [LP] (s1 s6 s7 s8:Int) (b0:Tn2):Option ((Int×Int×Int×Int×Tn2) ⊕ ((Int×Int×Int×Tn2))):=
 cond (decide (s8≤s1)) (
 (j006 b0 s7 s8).bind fun r18_1=>
 let t22_1:=(w64 (s8+s6))
 some (.inl (s1,s6,s8,t22_1,r18_1))) (
 some (.inr (s1,s6,s7,b0)))
def j00n [LP] (s1 s6 s7 s8:Int) (b0:Tn2):Option ((Int×Int×Int×Tn2)):=
 LP.lp (fun h=>j008 h.1 h.2.1 h.2.2.1 h.2.2.2.1 h.2.2.2.2) (s1,s6,s7,s8,b0)
theorem j046 (s1 s6 s7 s8:Int) (b0:Tn2):j00n s1 s6 s7 s8 b0=lpK (j008 s1 s6 s7 s8 b0) (fun h=>j00n h.1 h.2.1 h.2.2.1 h.2.2.2.1 h.2.2.2.2):=j003 _ _
def j01H (s1 s6 s7 s8:Int) (b0:Tn2):Option ((Int×Int×Int×Int×Tn2) ⊕ ((Int×Int×Int×Tn2))):=
 cond (decide (s8≤s1)) (
 let t40_1:=(w64 (s7+s6))
 none) (
 some (.inr (s1,s6,s7,b0)))
def j01i [LP] (s1 s6 s7 s8:Int) (b0:Tn2):Option ((Int×Int×Int×Tn2)):=
 LP.lp (unc5 (j01H)) (s1,s6,s7,s8,b0)
def j009 [LP] (s1 s6:Int) (b0:Tn2):Option ((Int×Int×Tn2) ⊕ (Tn2)):=
 cond (decide (s6<s1)) (
 let t32_1:=(w64 (2*s6))
 (j01i s1 s6 0 t32_1 b0).bind fun q4_1=>
 let t51_1:=(w64 (q4_1.2.2.1+q4_1.2.1))
 cond (decide (t51_1<q4_1.1)) (
 none) (
 let t62_1:=(w64 (q4_1.2.1*2))
 some (.inl (q4_1.1,t62_1,q4_1.2.2.2)))) (
 some (.inr b0))
def j00o [LP] (s1 s6:Int) (b0:Tn2):Option (Tn2):=
 LP.lp (fun h=>j009 h.1 h.2.1 h.2.2) (s1,s6,b0)
theorem j047 (s1 s6:Int) (b0:Tn2):j00o s1 s6 b0=lpK (j009 s1 s6 b0) (fun h=>j00o h.1 h.2.1 h.2.2):=j003 _ _
def j00v [LP] (a0_data:Tn2) (a1_n:Int):Option (Tn2):=
 (j00n a1_n 20 0 20 a0_data).bind fun q0=>
 (j006 q0.2.2.2 q0.2.2.1 q0.1).bind fun r27=>
 (j00o q0.1 q0.2.1 r27).bind fun q2=>
 some q2
def j005 [LP] (a0_x:Tn2):Option (Tn2):=
 let t6:=(Int.ofNat (List.length a0_x))
 (j00v a0_x t6).bind fun r8=>
 some r8
def j01I (s4:Int) (s23:Tn42) (s24 s25:Int) (b1:ByteArray) (b1_1:Int) (b1_2:Tn42):Option ((Int×Tn42×Int×Int×ByteArray×Int×Tn42) ⊕ (Int ⊕ (Int×ByteArray×Int×Tn42))):=
 cond (decide (s25<s24)) (
 cond (inR s25 (List.length s23)) (
 let t27_1:=(List.getD s23 (Int.toNat s25) (0,(0,(0,(0,(0,(0,0)))))))
 (j0ct (t27_1.1,(t27_1.2.1,(t27_1.2.2.1,(t27_1.2.2.2.1,(t27_1.2.2.2.2.1,(t27_1.2.2.2.2.2.1,t27_1.2.2.2.2.2.2))))))).bind fun r30_1=>
 cond (r30_1 != 0) (
 some (.inr (.inl r30_1))) (
 let t39_1:=(w64 (t27_1.2.1-t27_1.1))
 let t40_1:=(w64 (t39_1+1))
 let t41_1:=(w64 (s4+t40_1))
 let t42_1:=(w64 (s25+1))
 some (.inl (t41_1,s23,s24,t42_1,b1,b1_1,b1_2)))) none) (
 some (.inr (.inr (s4,b1,b1_1,b1_2))))
def j01J [LP] (s4:Int) (s23:Tn42) (s24 s25:Int) (b1:ByteArray) (b1_1:Int) (b1_2:Tn42):Option (Int ⊕ (Int×ByteArray×Int×Tn42)):=
 LP.lp (fun h=>j01I h.1 h.2.1 h.2.2.1 h.2.2.2.1 h.2.2.2.2.1 h.2.2.2.2.2.1 h.2.2.2.2.2.2) (s4,s23,s24,s25,b1,b1_1,b1_2)
theorem j06y (s4:Int) (s23:Tn42) (s24 s25:Int) (b1:ByteArray) (b1_1:Int) (b1_2:Tn42):j01J s4 s23 s24 s25 b1 b1_1 b1_2=lpK (j01I s4 s23 s24 s25 b1 b1_1 b1_2) (fun h=>j01J h.1 h.2.1 h.2.2.1 h.2.2.2.1 h.2.2.2.2.1 h.2.2.2.2.2.1 h.2.2.2.2.2.2):=j003 _ _
def j00K [LP] (s11:Int) (s46:Tn42) (s47 s48 b10 b10_1 b10_2 b10_3 b10_4 b10_5 b10_6:Int) (l8:Tn2):Option ((Int×Tn42×Int×Int×Int×Int×Int×Int×Int×Int×Int×Tn2) ⊕ ((Tn42×Int×Int×Tn2))):=
 cond (decide (s11≤b10_1)) (
 (j09w s11 b10_2 b10_3 b10_4).bind fun r68_4=>
 let t73_4:=(w64 (r68_4.1*86400))
 let t76_4:=(w64 (t73_4+b10_5))
 let t80_4:Tn2:=[(t76_4,b10_6)]
 cond (decide (List.length l8+List.length t80_4≤sizeMax)) (
 let t81_4:Tn2:=(l8++t80_4)
 let t59_4:=(w64 (s11+1))
 some (.inl (t59_4,s46,s47,s48,b10,b10_1,b10_2,b10_3,b10_4,b10_5,b10_6,t81_4))) none) (
 some (.inr (s46,s47,s48,l8)))
def j02f [LP] (s11:Int) (s46:Tn42) (s47 s48 b10 b10_1 b10_2 b10_3 b10_4 b10_5 b10_6:Int) (l8:Tn2):Option ((Tn42×Int×Int×Tn2)):=
 LP.lp (fun h=>j00K h.1 h.2.1 h.2.2.1 h.2.2.2.1 h.2.2.2.2.1 h.2.2.2.2.2.1 h.2.2.2.2.2.2.1 h.2.2.2.2.2.2.2.1 h.2.2.2.2.2.2.2.2.1 h.2.2.2.2.2.2.2.2.2.1 h.2.2.2.2.2.2.2.2.2.2.1 h.2.2.2.2.2.2.2.2.2.2.2) (s11,s46,s47,s48,b10,b10_1,b10_2,b10_3,b10_4,b10_5,b10_6,l8)
theorem j06z (s11:Int) (s46:Tn42) (s47 s48 b10 b10_1 b10_2 b10_3 b10_4 b10_5 b10_6:Int) (l8:Tn2):j02f s11 s46 s47 s48 b10 b10_1 b10_2 b10_3 b10_4 b10_5 b10_6 l8=lpK (j00K s11 s46 s47 s48 b10 b10_1 b10_2 b10_3 b10_4 b10_5 b10_6 l8) (fun h=>j02f h.1 h.2.1 h.2.2.1 h.2.2.2.1 h.2.2.2.2.1 h.2.2.2.2.2.1 h.2.2.2.2.2.2.1 h.2.2.2.2.2.2.2.1 h.2.2.2.2.2.2.2.2.1 h.2.2.2.2.2.2.2.2.2.1 h.2.2.2.2.2.2.2.2.2.2.1 h.2.2.2.2.2.2.2.2.2.2.2):=j003 _ _
def j00L [LP] (s46:Tn42) (s47 s48:Int) (l8:Tn2):Option ((Tn42×Int×Int×Tn2) ⊕ (Tn2)):=
 cond (decide (s48<s47)) (
 cond (inR s48 (List.length s46)) (
 let t50_2:=(List.getD s46 (Int.toNat s48) (0,(0,(0,(0,(0,(0,0)))))))
 (j02f t50_2.1 s46 s47 s48 t50_2.1 t50_2.2.1 t50_2.2.2.1 t50_2.2.2.2.1 t50_2.2.2.2.2.1 t50_2.2.2.2.2.2.1 t50_2.2.2.2.2.2.2 l8).bind fun q4_2=>
 let t82_2:=(w64 (q4_2.2.2.1+1))
 some (.inl (q4_2.1,q4_2.2.1,t82_2,q4_2.2.2.2))) none) (
 some (.inr l8))
def j01K [LP] (s46:Tn42) (s47 s48:Int) (l8:Tn2):Option (Tn2):=
 LP.lp (fun h=>j00L h.1 h.2.1 h.2.2.1 h.2.2.2) (s46,s47,s48,l8)
theorem j06A (s46:Tn42) (s47 s48:Int) (l8:Tn2):j01K s46 s47 s48 l8=lpK (j00L s46 s47 s48 l8) (fun h=>j01K h.1 h.2.1 h.2.2.1 h.2.2.2):=j003 _ _
def j02D [LP] (a0_z:Tn52):Option (Tn2×Int):=
 (zone_in a0_z.2.1 (-64800) 64800).bind fun r16=>
 cond (!r16) (
 some (([]:Tn2),1)) (
 let t20:=(Int.ofNat (List.length a0_z.2.2))
 cond (decide (t20>16)) (
 some (([]:Tn2),5)) (
 let t24:=(Int.ofNat (List.length a0_z.2.2))
 (j01J 0 a0_z.2.2 t24 0 a0_z.1 a0_z.2.1 a0_z.2.2).bind fun q0=>
 sumC q0 (fun a=>
 some (([]:Tn2),a)) (fun b=>
 cond (decide (b.1>640)) (
 some (([]:Tn2),5)) (
 let t47:=(Int.ofNat (List.length b.2.2.2))
 (j01K b.2.2.2 t47 0 ([]:Tn2)).bind fun q2=>
 (j005 q2).bind fun r84=>
 some (r84,0)))))
def j01L (s7 s23 s24:Int) (l6 l22:Tn2):Option ((Int×Int×Int×Tn2×Tn2) ⊕ (Int ⊕ Tn2)):=
 cond (decide (s24<s23)) (
 cond (inR s24 (List.length l22)) (
 let t27_4:=(List.getD l22 (Int.toNat s24) (0,0)).1
 let t27_5:=(List.getD l22 (Int.toNat s24) (0,0)).2
 cond (t27_5==s7) (
 let t77_4:=(w64 (s24+1))
 some (.inl (s7,s23,t77_4,l6,l22))) (
 let t35_2:=(w64 (t27_4-s7))
 let t39_2:=(w64 (t27_5-s7))
 cond (cond (decide (t39_2≥86400)) true (decide (t39_2≤(-86400)))) (
 let t53_2:=(Int.ofNat (List.length l6))
 let t59_2:=(Int.ofNat (List.length l6))
 let t60_4:=(w64 (t59_2-1))
 cond ((inR t60_4 (List.length l6)) || !((!true)&&(decide (t53_2>0)))) (
 let t63_2:=(List.getD l6 (Int.toNat t60_4) (0,0)).1
 let t64_2:=(w64 (t63_2+604800))
 some (.inr (.inl 6))) none) (
 (zone_in t35_2 0 8589934592).bind fun r48_2=>
 let t53_3:=(Int.ofNat (List.length l6))
 let t59_3:=(Int.ofNat (List.length l6))
 let t60_5:=(w64 (t59_3-1))
 cond ((inR t60_5 (List.length l6)) || !((!(!r48_2))&&(decide (t53_3>0)))) (
 let t63_3:=(List.getD l6 (Int.toNat t60_5) (0,0)).1
 let t64_3:=(w64 (t63_3+604800))
 cond (cond (!r48_2) true (cond (decide (t53_3>0)) (decide (t35_2<t64_3)) false)) (
 some (.inr (.inl 6))) (
 let t73_2:Tn2:=[(t35_2,t27_5)]
 cond (decide (List.length l6+List.length t73_2≤sizeMax)) (
 let t74_2:Tn2:=(l6++t73_2)
 let t77_5:=(w64 (s24+1))
 some (.inl (t27_5,s23,t77_5,t74_2,l22))) none)) none))) none) (
 some (.inr (.inr l6)))
def j01M [LP] (s7 s23 s24:Int) (l6 l22:Tn2):Option (Int ⊕ Tn2):=
 LP.lp (fun h=>j01L h.1 h.2.1 h.2.2.1 h.2.2.2.1 h.2.2.2.2) (s7,s23,s24,l6,l22)
theorem j06B (s7 s23 s24:Int) (l6 l22:Tn2):j01M s7 s23 s24 l6 l22=lpK (j01L s7 s23 s24 l6 l22) (fun h=>j01M h.1 h.2.1 h.2.2.1 h.2.2.2.1 h.2.2.2.2):=j003 _ _
def j01w [LP] (a0_z:Tn52):Option (Tn2×Int):=
 (j02D (a0_z.1,(a0_z.2.1,a0_z.2.2))).bind fun r14=>
 cond (r14.2 != 0) (
 some (([]:Tn2),r14.2)) (
 let t23:=(Int.ofNat (List.length r14.1))
 (j01M a0_z.2.1 t23 0 ([]:Tn2) r14.1).bind fun q0=>
 sumC q0 (fun a=>
 some (([]:Tn2),a)) (fun b=>
 some (b,0)))
def j06C [LP] (a0_z:Tn52):Option (Int):=
 (j01w (a0_z.1,(a0_z.2.1,a0_z.2.2))).bind fun r7=>
 some r7.2
def j05r (a0_r:Tn38):Option (Bool):=
 let t5:=(Int.tmod a0_r.2.2.2.2.2.2 60)
 some (t5 != 0)
def j00f (s0:Tn42) (s7 s8:Int):Option ((Tn42×Int×Int) ⊕ (Int ⊕ Unit)):=
 cond (decide (s8<s7)) (
 cond (inR s8 (List.length s0)) (
 let t14_1:=(List.getD s0 (Int.toNat s8) (0,(0,(0,(0,(0,(0,0)))))))
 (j05r (t14_1.1,(t14_1.2.1,(t14_1.2.2.1,(t14_1.2.2.2.1,(t14_1.2.2.2.2.1,(t14_1.2.2.2.2.2.1,t14_1.2.2.2.2.2.2))))))).bind fun r16_1=>
 cond r16_1 (
 some (.inr (.inl s8))) (
 let t18_1:=(w64 (s8+1))
 some (.inl (s0,s7,t18_1)))) none) (
 some (.inr (.inr ())))
def j00c [LP] (s0:Tn42) (s7 s8:Int):Option (Int ⊕ Unit):=
 LP.lp (fun h=>j00f h.1 h.2.1 h.2.2) (s0,s7,s8)
theorem j01x (s0:Tn42) (s7 s8:Int):j00c s0 s7 s8=lpK (j00f s0 s7 s8) (fun h=>j00c h.1 h.2.1 h.2.2):=j003 _ _
def j00i [LP] (a0_s:Tn42):Option (Int):=
 let t7:=(Int.ofNat (List.length a0_s))
 (j00c a0_s t7 0).bind fun q0=>
 sumC q0 (fun a=>
 some a) (fun b=>
 some (-1))
def j00d [LP] (a0_s:Tn42):Option (Bool):=
 (j00i a0_s).bind fun r7=>
 some (decide (r7≥0))
def j01W [LP] (a0_z:Tn52):Option (Int):=
 (j06C (a0_z.1,(a0_z.2.1,a0_z.2.2))).bind fun r4=>
 let t9:=(Int.tmod a0_z.2.1 60)
 cond (cond (r4 != 0) true (t9 != 0)) (
 some 8) (
 (j00d a0_z.2.2).bind fun r15=>
 cond r15 (
 some 8) (
 some 0))
def j00q [LP] (s13:Tn54) (s14 s15:Int) (l7:(List (ByteArray×Bool))):Option ((Tn54×Int×Int×(List (ByteArray×Bool))) ⊕ (Int ⊕ Unit)):=
 cond (decide (s15<s14)) (
 cond (inR s15 (List.length s13)) (
 let t17_1:=(List.getD s13 (Int.toNat s15) (ByteArray.empty,(0,([]:Tn42))))
 (j07F (t17_1.1,(t17_1.2.1,t17_1.2.2))).bind fun r21_1=>
 (j02B r21_1 l7).bind fun r23_1=>
 cond (r23_1.1 != 0) (
 some (.inr (.inl r23_1.1))) (
 (j01W (t17_1.1,(t17_1.2.1,t17_1.2.2))).bind fun r29_1=>
 cond (r29_1 != 0) (
 some (.inr (.inl r29_1))) (
 let t33_1:=(w64 (s15+1))
 some (.inl (s13,s14,t33_1,r23_1.2))))) none) (
 some (.inr (.inr ())))
def j00U [LP] (s13:Tn54) (s14 s15:Int) (l7:(List (ByteArray×Bool))):Option (Int ⊕ Unit):=
 LP.lp (fun h=>j00q h.1 h.2.1 h.2.2.1 h.2.2.2) (s13,s14,s15,l7)
theorem j04n (s13:Tn54) (s14 s15:Int) (l7:(List (ByteArray×Bool))):j00U s13 s14 s15 l7=lpK (j00q s13 s14 s15 l7) (fun h=>j00U h.1 h.2.1 h.2.2.1 h.2.2.2):=j003 _ _
def j01e [LP] (a0_l:Tn54):Option (Int):=
 let t12:(List (ByteArray×Bool)):=([]:(List (ByteArray×Bool)))
 let t14:=(Int.ofNat (List.length a0_l))
 (j00U a0_l t14 0 t12).bind fun q0=>
 sumC q0 (fun a=>
 some a) (fun b=>
 some 0)
def j01B (a0_i a1_n:Int):Option (Bool):=
 some (cond (decide (a0_i≥0)) (decide (a0_i<a1_n)) false)
def j03j (s0 s8:Tn2) (s9 s10:Int):Option ((Tn2×Tn2×Int×Int) ⊕ (Int ⊕ Unit)):=
 cond (decide (s10<s9)) (
 cond (inR s10 (List.length s8)) (
 let t13_1:=(List.getD s8 (Int.toNat s10) (0,0))
 let t30_1:Bool:=(cond (cond (decide (t13_1.1<0)) true (decide (t13_1.1≥t13_1.2))) true (decide (t13_1.2>604800)))
 cond t30_1 (
 some (.inr (.inl 1))) (
 cond (decide (s10>0)) (
 let t39_1:=(w64 (s10-1))
 cond (inR t39_1 (List.length s0)) (
 let t40_1:=(List.getD s0 (Int.toNat t39_1) (0,0))
 cond (decide (t13_1.1<t40_1.2)) (
 some (.inr (.inl 6))) (
 let t45_2:=(w64 (s10+1))
 some (.inl (s0,s8,s9,t45_2)))) none) (
 let t45_3:=(w64 (s10+1))
 some (.inl (s0,s8,s9,t45_3))))) none) (
 some (.inr (.inr ())))
def j05I [LP] (s0 s8:Tn2) (s9 s10:Int):Option (Int ⊕ Unit):=
 LP.lp (fun h=>j03j h.1 h.2.1 h.2.2.1 h.2.2.2) (s0,s8,s9,s10)
theorem j0av (s0 s8:Tn2) (s9 s10:Int):j05I s0 s8 s9 s10=lpK (j03j s0 s8 s9 s10) (fun h=>j05I h.1 h.2.1 h.2.2.1 h.2.2.2):=j003 _ _
def j06D [LP] (a0_l:Tn2):Option (Int):=
 let t6:=(Int.ofNat (List.length a0_l))
 cond (decide (t6>14)) (
 some 5) (
 let t9:=(Int.ofNat (List.length a0_l))
 (j05I a0_l a0_l t9 0).bind fun q0=>
 sumC q0 (fun a=>
 some a) (fun b=>
 some 0))
def j05O (a0_n a1_lo a2_hi:Int):Option (Bool):=
 some (cond (decide (a0_n≥a1_lo)) (decide (a0_n≤a2_hi)) false)
def j03I (a0_n:Int):Option (Bool):=
 (j05O a0_n 0 604800).bind fun r4=>
 let t7:=(Int.tmod a0_n 3600)
 some (cond r4 (t7==0) false)
def j01b [LP] (a0_c:Tn71) (a1_p:Tn44):Option (Int):=
 let t10:=(Int.ofNat (List.length a0_c.1))
 (j01B a1_p.2.1 t10).bind fun r11=>
 cond (!r11) (
 some 3) (
 (j06D a1_p.2.2.1).bind fun r16=>
 cond (r16 != 0) (
 some 8) (
 (j03I a1_p.2.2.2.1).bind fun r21=>
 cond (!r21) (
 some 1) (
 (j03I a1_p.2.2.2.2.1).bind fun r26=>
 cond (!r26) (
 some 1) (
 some 0))))
def j07G (a0_x:Tn19):Option (ByteArray):=
 some a0_x.1
def j09d (s0 s3:Int):Option ((Int×Int) ⊕ (Int)):=
 let t8_1:=(w64 (s3+1))
 (j043 t8_1).bind fun r9_1=>
 cond (decide (r9_1≤s0)) (
 let t13_1:=(w64 (s3+1))
 some (.inl (s0,t13_1))) (
 some (.inr s3))
def j0aw [LP] (s0 s3:Int):Option (Int):=
 LP.lp (unc2 (j09d)) (s0,s3)
def j0ax [LP] (a0_day:Int):Option (Int):=
 (j06e a0_day 366).bind fun r5=>
 let t6:=(w64 (1970+r5))
 (j0aw a0_day t6).bind fun q0=>
 some q0
def j07H (s5 b2 b2_1 b2_2 b4 b4_1 b4_2:Int):Option ((Int×Int×Int×Int×Int×Int×Int) ⊕ ((Int×Int×Int×Int×Int×Int×Int))):=
 (j05M b4 b4_1).bind fun r28_1=>
 cond (decide (s5≥r28_1)) (
 (j05M b4 b4_1).bind fun r35_1=>
 let t36_1:=(w64 (s5-r35_1))
 let t39_1:=(w64 (b4_1+1))
 some (.inl (t36_1,b2,b2_1,b2_2,b4,t39_1,b4_2))) (
 some (.inr (s5,b2,b2_1,b2_2,b4,b4_1,b4_2)))
def j08M [LP] (s5 b2 b2_1 b2_2 b4 b4_1 b4_2:Int):Option ((Int×Int×Int×Int×Int×Int×Int)):=
 LP.lp (unc7 (j07H)) (s5,b2,b2_1,b2_2,b4,b4_1,b4_2)
def j033 [LP] (a0_day:Int):Option (Tn3×Int):=
 (j043 1970).bind fun r7=>
 cond (decide (a0_day<r7)) (
 some ((0,(0,0)),1)) (
 (j043 2241).bind fun r11=>
 cond (decide (a0_day≥r11)) (
 some ((0,(0,0)),1)) (
 (j0ax a0_day).bind fun r16=>
 (j043 r16).bind fun r21=>
 let t22:=(w64 (a0_day-r21))
 (j08M t22 0 0 0 r16 1 0).bind fun q0=>
 let t42:=(w64 (q0.1+1))
 some ((q0.2.2.2.2.1,(q0.2.2.2.2.2.1,t42)),0)))
def j00B [LP] (a0_n:Int):Option (Bool):=
 (j033 a0_n).bind fun r7=>
 some (r7.2==0)
def j01j [LP] (a0_n:Int):Option (Bool):=
 (j00B a0_n).bind fun r4=>
 some (!r4)
def j00k [LP] (s0:(List Int)) (s7 s8:Int):Option (((List Int)×Int×Int) ⊕ (Int ⊕ Unit)):=
 cond (decide (s8<s7)) (
 cond (inR s8 (List.length s0)) (
 let t14_1:=(List.getD s0 (Int.toNat s8) 0)
 (j01j t14_1).bind fun r16_1=>
 cond r16_1 (
 some (.inr (.inl s8))) (
 let t18_1:=(w64 (s8+1))
 some (.inl (s0,s7,t18_1)))) none) (
 some (.inr (.inr ())))
def j00X [LP] (s0:(List Int)) (s7 s8:Int):Option (Int ⊕ Unit):=
 LP.lp (fun h=>j00k h.1 h.2.1 h.2.2) (s0,s7,s8)
theorem j03W (s0:(List Int)) (s7 s8:Int):j00X s0 s7 s8=lpK (j00k s0 s7 s8) (fun h=>j00X h.1 h.2.1 h.2.2):=j003 _ _
def j01k [LP] (a0_s:(List Int)):Option (Int):=
 let t7:=(Int.ofNat (List.length a0_s))
 (j00X a0_s t7 0).bind fun q0=>
 sumC q0 (fun a=>
 some a) (fun b=>
 some (-1))
def j00Y [LP] (a0_s:(List Int)):Option (Bool):=
 (j01k a0_s).bind fun r7=>
 some (decide (r7≥0))
def j01c (s25 s26:Int) (b3:ByteArray) (b3_1:Int) (b3_2:(List Int)):Option ((Int×Int×ByteArray×Int×(List Int)) ⊕ (Int ⊕ Unit)):=
 cond (decide (s26<s25)) (
 cond (decide (s26>0)) (
 cond (inR s26 (List.length b3_2)) (
 let t35_1:=(List.getD b3_2 (Int.toNat s26) 0)
 let t40_1:=(w64 (s26-1))
 cond (inR t40_1 (List.length b3_2)) (
 let t41_1:=(List.getD b3_2 (Int.toNat t40_1) 0)
 cond (decide (t35_1≤t41_1)) (
 some (.inr (.inl 6))) (
 let t45_2:=(w64 (s26+1))
 some (.inl (s25,t45_2,b3,b3_1,b3_2)))) none) none) (
 let t45_3:=(w64 (s26+1))
 some (.inl (s25,t45_3,b3,b3_1,b3_2)))) (
 some (.inr (.inr ())))
def j01l [LP] (s25 s26:Int) (b3:ByteArray) (b3_1:Int) (b3_2:(List Int)):Option (Int ⊕ Unit):=
 LP.lp (fun h=>j01c h.1 h.2.1 h.2.2.1 h.2.2.2.1 h.2.2.2.2) (s25,s26,b3,b3_1,b3_2)
theorem j04T (s25 s26:Int) (b3:ByteArray) (b3_1:Int) (b3_2:(List Int)):j01l s25 s26 b3 b3_1 b3_2=lpK (j01c s25 s26 b3 b3_1 b3_2) (fun h=>j01l h.1 h.2.1 h.2.2.1 h.2.2.2.1 h.2.2.2.2):=j003 _ _
def j015 [LP] (a0_c:Tn71) (a1_x:Tn19):Option (Int):=
 let t11:=(Int.ofNat (List.length a0_c.1))
 (j01B a1_x.2.1 t11).bind fun r12=>
 cond (!r12) (
 some 3) (
 let t17:=(Int.ofNat (List.length a1_x.2.2))
 cond (decide (t17>64)) (
 some 5) (
 (j00Y a1_x.2.2).bind fun r22=>
 cond r22 (
 some 1) (
 let t25:=(Int.ofNat (List.length a1_x.2.2))
 (j01l t25 0 a1_x.1 a1_x.2.1 a1_x.2.2).bind fun q1=>
 sumC q1 (fun a=>
 some a) (fun b=>
 some 0))))
def j03k [LP] (a0_x:Tn19) (a1:Tn54) (a1_1:Tn48) (a1_2:Tn26) (a1_3:Tn65):Option (Int):=
 (j015 (a1,(a1_1,(a1_2,a1_3))) (a0_x.1,(a0_x.2.1,a0_x.2.2))).bind fun r6=>
 some r6
def j00g [LP] (s2:Tn54) (s2_1:Tn48) (s2_2:Tn26) (s2_3:Tn65) (s13:Tn26) (s14 s15:Int) (l7:(List (ByteArray×Bool))):Option ((Tn54×Tn48×Tn26×Tn65×Tn26×Int×Int×(List (ByteArray×Bool))) ⊕ (Int ⊕ Unit)):=
 cond (decide (s15<s14)) (
 cond (inR s15 (List.length s13)) (
 let t17_1:=(List.getD s13 (Int.toNat s15) (ByteArray.empty,(0,([]:(List Int)))))
 (j07G (t17_1.1,(t17_1.2.1,t17_1.2.2))).bind fun r21_1=>
 (j02B r21_1 l7).bind fun r23_1=>
 cond (r23_1.1 != 0) (
 some (.inr (.inl r23_1.1))) (
 (j03k (t17_1.1,(t17_1.2.1,t17_1.2.2)) s2 s2_1 s2_2 s2_3).bind fun r29_1=>
 cond (r29_1 != 0) (
 some (.inr (.inl r29_1))) (
 let t33_1:=(w64 (s15+1))
 some (.inl (s2,s2_1,s2_2,s2_3,s13,s14,t33_1,r23_1.2))))) none) (
 some (.inr (.inr ())))
def j00y [LP] (s2:Tn54) (s2_1:Tn48) (s2_2:Tn26) (s2_3:Tn65) (s13:Tn26) (s14 s15:Int) (l7:(List (ByteArray×Bool))):Option (Int ⊕ Unit):=
 LP.lp (fun h=>j00g h.1 h.2.1 h.2.2.1 h.2.2.2.1 h.2.2.2.2.1 h.2.2.2.2.2.1 h.2.2.2.2.2.2.1 h.2.2.2.2.2.2.2) (s2,s2_1,s2_2,s2_3,s13,s14,s15,l7)
theorem j03l (s2:Tn54) (s2_1:Tn48) (s2_2:Tn26) (s2_3:Tn65) (s13:Tn26) (s14 s15:Int) (l7:(List (ByteArray×Bool))):j00y s2 s2_1 s2_2 s2_3 s13 s14 s15 l7=lpK (j00g s2 s2_1 s2_2 s2_3 s13 s14 s15 l7) (fun h=>j00y h.1 h.2.1 h.2.2.1 h.2.2.2.1 h.2.2.2.2.1 h.2.2.2.2.2.1 h.2.2.2.2.2.2.1 h.2.2.2.2.2.2.2):=j003 _ _
def j00P [LP] (a0_l:Tn26) (a2_check:Tn54) (a2_check_1:Tn48) (a2_check_2:Tn26) (a2_check_3:Tn65):Option (Int):=
 let t12:(List (ByteArray×Bool)):=([]:(List (ByteArray×Bool)))
 let t14:=(Int.ofNat (List.length a0_l))
 (j00y a2_check a2_check_1 a2_check_2 a2_check_3 a0_l t14 0 t12).bind fun q0=>
 sumC q0 (fun a=>
 some a) (fun b=>
 some 0)
def j07I (a0_s:Tn64):Option (ByteArray):=
 some a0_s.1
def j03K (a0_l:Tn59):Option (ByteArray):=
 some a0_l.1
def j04V (a0_m:Int) (a1:Tn54) (a1_1:Tn48) (a1_2:Tn26) (a1_3:Tn65):Option (Bool):=
 let t7:=(Int.ofNat (List.length a1_1))
 (j01B a0_m t7).bind fun r8=>
 some (!r8)
def j00E (s0:(List Int)) (s1:Tn54) (s1_1:Tn48) (s1_2:Tn26) (s1_3:Tn65) (s7 s8:Int):Option (((List Int)×Tn54×Tn48×Tn26×Tn65×Int×Int) ⊕ (Int ⊕ Unit)):=
 cond (decide (s8<s7)) (
 cond (inR s8 (List.length s0)) (
 let t14_1:=(List.getD s0 (Int.toNat s8) 0)
 (j04V t14_1 s1 s1_1 s1_2 s1_3).bind fun r16_1=>
 cond r16_1 (
 some (.inr (.inl s8))) (
 let t18_1:=(w64 (s8+1))
 some (.inl (s0,s1,s1_1,s1_2,s1_3,s7,t18_1)))) none) (
 some (.inr (.inr ())))
def j00G [LP] (s0:(List Int)) (s1:Tn54) (s1_1:Tn48) (s1_2:Tn26) (s1_3:Tn65) (s7 s8:Int):Option (Int ⊕ Unit):=
 LP.lp (fun h=>j00E h.1 h.2.1 h.2.2.1 h.2.2.2.1 h.2.2.2.2.1 h.2.2.2.2.2.1 h.2.2.2.2.2.2) (s0,s1,s1_1,s1_2,s1_3,s7,s8)
theorem j03c (s0:(List Int)) (s1:Tn54) (s1_1:Tn48) (s1_2:Tn26) (s1_3:Tn65) (s7 s8:Int):j00G s0 s1 s1_1 s1_2 s1_3 s7 s8=lpK (j00E s0 s1 s1_1 s1_2 s1_3 s7 s8) (fun h=>j00G h.1 h.2.1 h.2.2.1 h.2.2.2.1 h.2.2.2.2.1 h.2.2.2.2.2.1 h.2.2.2.2.2.2):=j003 _ _
def j00Z [LP] (a0_s:(List Int)) (a1_f:Tn54) (a1_f_1:Tn48) (a1_f_2:Tn26) (a1_f_3:Tn65):Option (Int):=
 let t7:=(Int.ofNat (List.length a0_s))
 (j00G a0_s a1_f a1_f_1 a1_f_2 a1_f_3 t7 0).bind fun q0=>
 sumC q0 (fun a=>
 some a) (fun b=>
 some (-1))
def j00H [LP] (a0_s:(List Int)) (a1_f:Tn54) (a1_f_1:Tn48) (a1_f_2:Tn26) (a1_f_3:Tn65):Option (Bool):=
 (j00Z a0_s a1_f a1_f_1 a1_f_2 a1_f_3).bind fun r7=>
 some (decide (r7≥0))
def j01C [LP] (a0_c:Tn71) (a1_l:Tn59):Option (Int):=
 let t10:=(Int.ofNat (List.length a0_c.1))
 (j01B a1_l.2.1 t10).bind fun r11=>
 cond (!r11) (
 some 3) (
 cond (decide (a1_l.2.2.1.1<1)) (
 some 1) (
 (j00B a1_l.2.2.1.1).bind fun r22=>
 cond (!r22) (
 some 1) (
 (j05O a1_l.2.2.1.2 0 86399).bind fun r29=>
 cond (!r29) (
 some 1) (
 (j05O a1_l.2.2.2.1 0 2).bind fun r35=>
 cond (!r35) (
 some 1) (
 (j05O a1_l.2.2.2.2.1 1 400).bind fun r41=>
 cond (!r41) (
 some 1) (
 let t47:=(Int.ofNat (List.length a1_l.2.2.2.2.2.1))
 cond (t47==0) (
 some 7) (
 let t52:=(Int.ofNat (List.length a1_l.2.2.2.2.2.1))
 cond (decide (t52>12)) (
 some 5) (
 (j00H a1_l.2.2.2.2.2.1 a0_c.1 a0_c.2.1 a0_c.2.2.1 a0_c.2.2.2).bind fun r58=>
 cond r58 (
 some 3) (
 (j06D a1_l.2.2.2.2.2.2.1).bind fun r62=>
 cond (r62 != 0) (
 some 8) (
 (j05O a1_l.2.2.2.2.2.2.2.2 0 2).bind fun r67=>
 cond (!r67) (
 some 1) (
 let t78:=(Int.ofNat (List.length a0_c.2.2.1))
 cond (a1_l.2.2.2.2.2.2.2.2 != 0) (
 (j01B a1_l.2.2.2.2.2.2.2.1 t78).bind fun r79=>
 cond (!r79) (
 some 3) (
 cond (cond (a1_l.2.2.2.2.2.2.2.2==0) (a1_l.2.2.2.2.2.2.2.1 != 0) false) (
 some 1) (
 some 0))) (
 cond (cond (a1_l.2.2.2.2.2.2.2.2==0) (a1_l.2.2.2.2.2.2.2.1 != 0) false) (
 some 1) (
 some 0)))))))))))))
def j01m [LP] (a0_l:Tn59) (a1:Tn54) (a1_1:Tn48) (a1_2:Tn26) (a1_3:Tn65):Option (Int):=
 (j01C (a1,(a1_1,(a1_2,a1_3))) (a0_l.1,(a0_l.2.1,((a0_l.2.2.1.1,a0_l.2.2.1.2),(a0_l.2.2.2.1,(a0_l.2.2.2.2.1,(a0_l.2.2.2.2.2.1,(a0_l.2.2.2.2.2.2.1,(a0_l.2.2.2.2.2.2.2.1,a0_l.2.2.2.2.2.2.2.2))))))))).bind fun r6=>
 some r6
def j00p [LP] (s2:Tn54) (s2_1:Tn48) (s2_2:Tn26) (s2_3:Tn65) (s13:Tn60) (s14 s15:Int) (l7:(List (ByteArray×Bool))):Option ((Tn54×Tn48×Tn26×Tn65×Tn60×Int×Int×(List (ByteArray×Bool))) ⊕ (Int ⊕ Unit)):=
 cond (decide (s15<s14)) (
 cond (inR s15 (List.length s13)) (
 let t17_1:=(List.getD s13 (Int.toNat s15) (ByteArray.empty,(0,((0,0),(0,(0,(([]:(List Int)),(([]:Tn2),(0,0)))))))))
 (j03K (t17_1.1,(t17_1.2.1,((t17_1.2.2.1.1,t17_1.2.2.1.2),(t17_1.2.2.2.1,(t17_1.2.2.2.2.1,(t17_1.2.2.2.2.2.1,(t17_1.2.2.2.2.2.2.1,(t17_1.2.2.2.2.2.2.2.1,t17_1.2.2.2.2.2.2.2.2))))))))).bind fun r21_1=>
 (j02B r21_1 l7).bind fun r23_1=>
 cond (r23_1.1 != 0) (
 some (.inr (.inl r23_1.1))) (
 (j01m (t17_1.1,(t17_1.2.1,((t17_1.2.2.1.1,t17_1.2.2.1.2),(t17_1.2.2.2.1,(t17_1.2.2.2.2.1,(t17_1.2.2.2.2.2.1,(t17_1.2.2.2.2.2.2.1,(t17_1.2.2.2.2.2.2.2.1,t17_1.2.2.2.2.2.2.2.2)))))))) s2 s2_1 s2_2 s2_3).bind fun r29_1=>
 cond (r29_1 != 0) (
 some (.inr (.inl r29_1))) (
 let t33_1:=(w64 (s15+1))
 some (.inl (s2,s2_1,s2_2,s2_3,s13,s14,t33_1,r23_1.2))))) none) (
 some (.inr (.inr ())))
def j00Q [LP] (s2:Tn54) (s2_1:Tn48) (s2_2:Tn26) (s2_3:Tn65) (s13:Tn60) (s14 s15:Int) (l7:(List (ByteArray×Bool))):Option (Int ⊕ Unit):=
 LP.lp (fun h=>j00p h.1 h.2.1 h.2.2.1 h.2.2.2.1 h.2.2.2.2.1 h.2.2.2.2.2.1 h.2.2.2.2.2.2.1 h.2.2.2.2.2.2.2) (s2,s2_1,s2_2,s2_3,s13,s14,s15,l7)
theorem j04f (s2:Tn54) (s2_1:Tn48) (s2_2:Tn26) (s2_3:Tn65) (s13:Tn60) (s14 s15:Int) (l7:(List (ByteArray×Bool))):j00Q s2 s2_1 s2_2 s2_3 s13 s14 s15 l7=lpK (j00p s2 s2_1 s2_2 s2_3 s13 s14 s15 l7) (fun h=>j00Q h.1 h.2.1 h.2.2.1 h.2.2.2.1 h.2.2.2.2.1 h.2.2.2.2.2.1 h.2.2.2.2.2.2.1 h.2.2.2.2.2.2.2):=j003 _ _
def j01a [LP] (a0_l:Tn60) (a2_check:Tn54) (a2_check_1:Tn48) (a2_check_2:Tn26) (a2_check_3:Tn65):Option (Int):=
 let t12:(List (ByteArray×Bool)):=([]:(List (ByteArray×Bool)))
 let t14:=(Int.ofNat (List.length a0_l))
 (j00Q a2_check a2_check_1 a2_check_2 a2_check_3 a0_l t14 0 t12).bind fun q0=>
 sumC q0 (fun a=>
 some a) (fun b=>
 some 0)
def j01X [LP] (a0_c:Tn71) (a1_x:Tn24):Option (Int):=
 let t8:=(Int.ofNat (List.length a0_c.2.1))
 (j05O a1_x.1 0 2).bind fun r12=>
 cond (!r12) (
 some 1) (
 (j01B a1_x.2.1 t8).bind fun r18=>
 cond (cond (!r18) (!(cond (a1_x.1==1) (a1_x.2.1==(-1)) false)) false) (
 cond (cond (!r18) (!(cond (a1_x.1==1) (a1_x.2.1==(-1)) false)) false) (
 some 3) (
 cond (cond (a1_x.1 != 2) (a1_x.2.2.1 != 0) false) (
 some 1) (
 cond (cond (a1_x.1==2) (a1_x.2.1==a1_x.2.2.1) false) (
 some 4) (
 let t73:=(w64 (Int.tdiv a1_x.2.2.2.2 86400))
 cond (cond (decide (a1_x.2.2.2.1<0)) true (decide (a1_x.2.2.2.2<0))) (
 some 1) (
 (j00B t73).bind fun r74=>
 cond (!r74) (
 some 1) (
 cond (decide (a1_x.2.2.2.1≥a1_x.2.2.2.2)) (
 some 6) (
 some 0))))))) (
 cond (a1_x.1==2) (
 (j01B a1_x.2.2.1 t8).bind fun r38=>
 cond (!r38) (
 some 3) (
 cond (cond (a1_x.1 != 2) (a1_x.2.2.1 != 0) false) (
 some 1) (
 cond (cond (a1_x.1==2) (a1_x.2.1==a1_x.2.2.1) false) (
 some 4) (
 let t73_1:=(w64 (Int.tdiv a1_x.2.2.2.2 86400))
 cond (cond (decide (a1_x.2.2.2.1<0)) true (decide (a1_x.2.2.2.2<0))) (
 some 1) (
 (j00B t73_1).bind fun r74_1=>
 cond (!r74_1) (
 some 1) (
 cond (decide (a1_x.2.2.2.1≥a1_x.2.2.2.2)) (
 some 6) (
 some 0))))))) (
 cond (cond (a1_x.1 != 2) (a1_x.2.2.1 != 0) false) (
 some 1) (
 cond (cond (a1_x.1==2) (a1_x.2.1==a1_x.2.2.1) false) (
 some 4) (
 let t73_2:=(w64 (Int.tdiv a1_x.2.2.2.2 86400))
 cond (cond (decide (a1_x.2.2.2.1<0)) true (decide (a1_x.2.2.2.2<0))) (
 some 1) (
 (j00B t73_2).bind fun r74_2=>
 cond (!r74_2) (
 some 1) (
 cond (decide (a1_x.2.2.2.1≥a1_x.2.2.2.2)) (
 some 6) (
 some 0))))))))
def j00u [LP] (s27:Tn29) (s28 s29:Int) (b2:Tn54) (b2_1:Tn48) (b2_2:Tn26) (b2_3:Tn65):Option ((Tn29×Int×Int×Tn54×Tn48×Tn26×Tn65) ⊕ (Int ⊕ Unit)):=
 cond (decide (s29<s28)) (
 cond (inR s29 (List.length s27)) (
 let t31_1:=(List.getD s27 (Int.toNat s29) (0,(0,(0,(0,0)))))
 (j01X (b2,(b2_1,(b2_2,b2_3))) (t31_1.1,(t31_1.2.1,(t31_1.2.2.1,(t31_1.2.2.2.1,t31_1.2.2.2.2))))).bind fun r35_1=>
 cond (r35_1 != 0) (
 some (.inr (.inl r35_1))) (
 let t39_1:=(w64 (s29+1))
 some (.inl (s27,s28,t39_1,b2,b2_1,b2_2,b2_3)))) none) (
 some (.inr (.inr ())))
def j01n [LP] (s27:Tn29) (s28 s29:Int) (b2:Tn54) (b2_1:Tn48) (b2_2:Tn26) (b2_3:Tn65):Option (Int ⊕ Unit):=
 LP.lp (fun h=>j00u h.1 h.2.1 h.2.2.1 h.2.2.2.1 h.2.2.2.2.1 h.2.2.2.2.2.1 h.2.2.2.2.2.2) (s27,s28,s29,b2,b2_1,b2_2,b2_3)
theorem j04U (s27:Tn29) (s28 s29:Int) (b2:Tn54) (b2_1:Tn48) (b2_2:Tn26) (b2_3:Tn65):j01n s27 s28 s29 b2 b2_1 b2_2 b2_3=lpK (j00u s27 s28 s29 b2 b2_1 b2_2 b2_3) (fun h=>j01n h.1 h.2.1 h.2.2.1 h.2.2.2.1 h.2.2.2.2.1 h.2.2.2.2.2.1 h.2.2.2.2.2.2):=j003 _ _
def j016 [LP] (a0_c:Tn71) (a1_s:Tn64):Option (Int):=
 let t11:=(Int.ofNat (List.length a1_s.2.1))
 let t16:=(Int.ofNat (List.length a1_s.2.2))
 cond (cond (decide (t11>6)) true (decide (t16>48))) (
 some 5) (
 (j01a a1_s.2.1 a0_c.1 a0_c.2.1 a0_c.2.2.1 a0_c.2.2.2).bind fun r22=>
 cond (r22 != 0) (
 some r22) (
 let t28:=(Int.ofNat (List.length a1_s.2.2))
 (j01n a1_s.2.2 t28 0 a0_c.1 a0_c.2.1 a0_c.2.2.1 a0_c.2.2.2).bind fun q0=>
 sumC q0 (fun a=>
 some a) (fun b=>
 some 0)))
def j03m [LP] (a0_s:Tn64) (a1:Tn54) (a1_1:Tn48) (a1_2:Tn26) (a1_3:Tn65):Option (Int):=
 (j016 (a1,(a1_1,(a1_2,a1_3))) (a0_s.1,(a0_s.2.1,a0_s.2.2))).bind fun r6=>
 some r6
def j00h [LP] (s2:Tn54) (s2_1:Tn48) (s2_2:Tn26) (s2_3 s13:Tn65) (s14 s15:Int) (l7:(List (ByteArray×Bool))):Option ((Tn54×Tn48×Tn26×Tn65×Tn65×Int×Int×(List (ByteArray×Bool))) ⊕ (Int ⊕ Unit)):=
 cond (decide (s15<s14)) (
 cond (inR s15 (List.length s13)) (
 let t17_1:=(List.getD s13 (Int.toNat s15) (ByteArray.empty,(([]:Tn60),([]:Tn29))))
 (j07I (t17_1.1,(t17_1.2.1,t17_1.2.2))).bind fun r21_1=>
 (j02B r21_1 l7).bind fun r23_1=>
 cond (r23_1.1 != 0) (
 some (.inr (.inl r23_1.1))) (
 (j03m (t17_1.1,(t17_1.2.1,t17_1.2.2)) s2 s2_1 s2_2 s2_3).bind fun r29_1=>
 cond (r29_1 != 0) (
 some (.inr (.inl r29_1))) (
 let t33_1:=(w64 (s15+1))
 some (.inl (s2,s2_1,s2_2,s2_3,s13,s14,t33_1,r23_1.2))))) none) (
 some (.inr (.inr ())))
def j00z [LP] (s2:Tn54) (s2_1:Tn48) (s2_2:Tn26) (s2_3 s13:Tn65) (s14 s15:Int) (l7:(List (ByteArray×Bool))):Option (Int ⊕ Unit):=
 LP.lp (fun h=>j00h h.1 h.2.1 h.2.2.1 h.2.2.2.1 h.2.2.2.2.1 h.2.2.2.2.2.1 h.2.2.2.2.2.2.1 h.2.2.2.2.2.2.2) (s2,s2_1,s2_2,s2_3,s13,s14,s15,l7)
theorem j03n (s2:Tn54) (s2_1:Tn48) (s2_2:Tn26) (s2_3 s13:Tn65) (s14 s15:Int) (l7:(List (ByteArray×Bool))):j00z s2 s2_1 s2_2 s2_3 s13 s14 s15 l7=lpK (j00h s2 s2_1 s2_2 s2_3 s13 s14 s15 l7) (fun h=>j00z h.1 h.2.1 h.2.2.1 h.2.2.2.1 h.2.2.2.2.1 h.2.2.2.2.2.1 h.2.2.2.2.2.2.1 h.2.2.2.2.2.2.2):=j003 _ _
def j014 [LP] (a0_l:Tn65) (a2_check:Tn54) (a2_check_1:Tn48) (a2_check_2:Tn26) (a2_check_3:Tn65):Option (Int):=
 let t12:(List (ByteArray×Bool)):=([]:(List (ByteArray×Bool)))
 let t14:=(Int.ofNat (List.length a0_l))
 (j00z a2_check a2_check_1 a2_check_2 a2_check_3 a0_l t14 0 t12).bind fun q0=>
 sumC q0 (fun a=>
 some a) (fun b=>
 some 0)
def j017 [LP] (s39:Tn48) (s40 s41:Int) (b1:Tn54) (b1_1:Tn48) (b1_2:Tn26) (b1_3:Tn65) (l4:(List (ByteArray×Bool))):Option ((Tn48×Int×Int×Tn54×Tn48×Tn26×Tn65×(List (ByteArray×Bool))) ⊕ (Int ⊕ (Tn54×Tn48×Tn26×Tn65))):=
 cond (decide (s41<s40)) (
 cond (inR s41 (List.length s39)) (
 let t43_1:=(List.getD s39 (Int.toNat s41) (ByteArray.empty,(0,(([]:Tn2),(0,(0,false))))))
 (j02B t43_1.1 l4).bind fun r48_1=>
 let t51:Bool:=(ByteArray.toList t43_1.1==ByteArray.toList (ByteArray.mk #[110,111,98,111,100,121]))
 cond t51 (
 cond (2==0) (
 (j01b (b1,(b1_1,(b1_2,b1_3))) (t43_1.1,(t43_1.2.1,(t43_1.2.2.1,(t43_1.2.2.2.1,(t43_1.2.2.2.2.1,t43_1.2.2.2.2.2)))))).bind fun r56_2=>
 cond (r56_2 != 0) (
 some (.inr (.inl r56_2))) (
 let t60_4:=(w64 (s41+1))
 some (.inl (s39,s40,t60_4,b1,b1_1,b1_2,b1_3,r48_1.2)))) (
 cond (2 != 0) (
 some (.inr (.inl 2))) (
 let t60_5:=(w64 (s41+1))
 some (.inl (s39,s40,t60_5,b1,b1_1,b1_2,b1_3,r48_1.2))))) (
 cond (r48_1.1==0) (
 (j01b (b1,(b1_1,(b1_2,b1_3))) (t43_1.1,(t43_1.2.1,(t43_1.2.2.1,(t43_1.2.2.2.1,(t43_1.2.2.2.2.1,t43_1.2.2.2.2.2)))))).bind fun r56_3=>
 cond (r56_3 != 0) (
 some (.inr (.inl r56_3))) (
 let t60_6:=(w64 (s41+1))
 some (.inl (s39,s40,t60_6,b1,b1_1,b1_2,b1_3,r48_1.2)))) (
 cond (r48_1.1 != 0) (
 some (.inr (.inl r48_1.1))) (
 let t60_7:=(w64 (s41+1))
 some (.inl (s39,s40,t60_7,b1,b1_1,b1_2,b1_3,r48_1.2)))))) none) (
 some (.inr (.inr (b1,b1_1,b1_2,b1_3))))
def j02E [LP] (s39:Tn48) (s40 s41:Int) (b1:Tn54) (b1_1:Tn48) (b1_2:Tn26) (b1_3:Tn65) (l4:(List (ByteArray×Bool))):Option (Int ⊕ (Tn54×Tn48×Tn26×Tn65)):=
 LP.lp (fun h=>j017 h.1 h.2.1 h.2.2.1 h.2.2.2.1 h.2.2.2.2.1 h.2.2.2.2.2.1 h.2.2.2.2.2.2.1 h.2.2.2.2.2.2.2) (s39,s40,s41,b1,b1_1,b1_2,b1_3,l4)
theorem j08m (s39:Tn48) (s40 s41:Int) (b1:Tn54) (b1_1:Tn48) (b1_2:Tn26) (b1_3:Tn65) (l4:(List (ByteArray×Bool))):j02E s39 s40 s41 b1 b1_1 b1_2 b1_3 l4=lpK (j017 s39 s40 s41 b1 b1_1 b1_2 b1_3 l4) (fun h=>j02E h.1 h.2.1 h.2.2.1 h.2.2.2.1 h.2.2.2.2.1 h.2.2.2.2.2.1 h.2.2.2.2.2.2.1 h.2.2.2.2.2.2.2):=j003 _ _
def j02x [LP] (a0_c:Tn71):Option (Int):=
 let t11:=(Int.ofNat (List.length a0_c.1))
 let t16:=(Int.ofNat (List.length a0_c.2.1))
 let t22:=(Int.ofNat (List.length a0_c.2.2.1))
 let t24:Bool:=(cond (cond (decide (t11>16)) true (decide (t16>32))) true (decide (t22>8)))
 let t28:=(Int.ofNat (List.length a0_c.2.2.2))
 cond (cond t24 true (decide (t28>12))) (
 some 5) (
 (j01e a0_c.1).bind fun r33=>
 cond (r33 != 0) (
 some r33) (
 let t37:(List (ByteArray×Bool)):=([]:(List (ByteArray×Bool)))
 let t40:=(Int.ofNat (List.length a0_c.2.1))
 (j02E a0_c.2.1 t40 0 a0_c.1 a0_c.2.1 a0_c.2.2.1 a0_c.2.2.2 t37).bind fun q0=>
 sumC q0 (fun a=>
 some a) (fun b=>
 (j00P b.2.2.1 b.1 b.2.1 b.2.2.1 b.2.2.2).bind fun r64=>
 cond (r64 != 0) (
 some r64) (
 (j014 b.2.2.2 b.1 b.2.1 b.2.2.1 b.2.2.2).bind fun r71=>
 some r71))))
def j06f (a0_c:Tn71) (a1_schedule:Int):Option (Bool):=
 let t11:=(Int.ofNat (List.length a0_c.2.2.2))
 some (cond (decide (a1_schedule≥0)) (decide (a1_schedule<t11)) false)
def j05k (s0 s1:Int):Option ((Int×Int) ⊕ (Int)):=
 cond (s1 != 0) (
 cond (!(s1==0)) (
 let t10_1:=(Int.tmod s0 s1)
 some (.inl (s1,t10_1))) none) (
 some (.inr s0))
def j06g [LP] (s0 s1:Int):Option (Int):=
 LP.lp (fun h=>j05k h.1 h.2) (s0,s1)
theorem j0fC (s0 s1:Int):j06g s0 s1=lpK (j05k s0 s1) (fun h=>j06g h.1 h.2):=j003 _ _
def j09x [LP] (a0_a a1_b:Int):Option (Int):=
 (j06g a0_a a1_b).bind fun q0=>
 some q0
def j02y [LP] (a0_n:Int) (a1_l:Tn59):Option (Int):=
 (j07y (a1_l.1,(a1_l.2.1,((a1_l.2.2.1.1,a1_l.2.2.1.2),(a1_l.2.2.2.1,(a1_l.2.2.2.2.1,(a1_l.2.2.2.2.2.1,(a1_l.2.2.2.2.2.2.1,(a1_l.2.2.2.2.2.2.2.1,a1_l.2.2.2.2.2.2.2.2))))))))).bind fun r9=>
 (j09x a0_n r9.1).bind fun r15=>
 cond (!(r15==0)) (
 let t16:=(w64 (Int.tdiv r9.1 r15))
 cond ((!(a0_n==0)) || !(!(decide (a0_n>4294967296)))) (
 let t22:=(w64 (Int.tdiv 4294967296 a0_n))
 cond (cond (decide (a0_n>4294967296)) true (decide (t16>t22))) (
 some 4294967297) (
 let t27:=(w64 (a0_n*t16))
 some t27)) none) none
def j00l [LP] (s1:Int) (s9:Tn60) (s10 s11:Int):Option ((Int×Tn60×Int×Int) ⊕ (Int)):=
 cond (decide (s11<s10)) (
 cond (inR s11 (List.length s9)) (
 let t13_1:=(List.getD s9 (Int.toNat s11) (ByteArray.empty,(0,((0,0),(0,(0,(([]:(List Int)),(([]:Tn2),(0,0)))))))))
 (j02y s1 (t13_1.1,(t13_1.2.1,((t13_1.2.2.1.1,t13_1.2.2.1.2),(t13_1.2.2.2.1,(t13_1.2.2.2.2.1,(t13_1.2.2.2.2.2.1,(t13_1.2.2.2.2.2.2.1,(t13_1.2.2.2.2.2.2.2.1,t13_1.2.2.2.2.2.2.2.2))))))))).bind fun r18_1=>
 let t19_1:=(w64 (s11+1))
 some (.inl (r18_1,s9,s10,t19_1))) none) (
 some (.inr s1))
def j00F [LP] (s1:Int) (s9:Tn60) (s10 s11:Int):Option (Int):=
 LP.lp (fun h=>j00l h.1 h.2.1 h.2.2.1 h.2.2.2) (s1,s9,s10,s11)
theorem j03X (s1:Int) (s9:Tn60) (s10 s11:Int):j00F s1 s9 s10 s11=lpK (j00l s1 s9 s10 s11) (fun h=>j00F h.1 h.2.1 h.2.2.1 h.2.2.2):=j003 _ _
def j01o [LP] (a0_l:Tn60) (a1_r:Int):Option (Int):=
 let t10:=(Int.ofNat (List.length a0_l))
 (j00F a1_r a0_l t10 0).bind fun q0=>
 some q0
def j034 [LP] (a0_c:Tn71) (a1_schedule:Int):Option (Int×Int):=
 (j02x (a0_c.1,(a0_c.2.1,(a0_c.2.2.1,a0_c.2.2.2)))).bind fun r8=>
 cond (r8 != 0) (
 some (0,8)) (
 (j06f (a0_c.1,(a0_c.2.1,(a0_c.2.2.1,a0_c.2.2.2))) a1_schedule).bind fun r12=>
 cond (!r12) (
 some (0,3)) (
 cond (inR a1_schedule (List.length a0_c.2.2.2)) (
 let t17:=(List.getD a0_c.2.2.2 (Int.toNat a1_schedule) (ByteArray.empty,(([]:Tn60),([]:Tn29))))
 (j01o t17.2.1 604800).bind fun r20=>
 cond (decide (r20>4294967296)) (
 some (0,5)) (
 some (r20,0))) none))
def zone_Of [LP] (a0_z:Tn52):Option (Tn13×Int):=
 (j01w (a0_z.1,(a0_z.2.1,a0_z.2.2))).bind fun r8=>
 some ((a0_z.2.1,r8.1),r8.2)
def j01t [LP] (s8:Tn54) (s9 s10:Int) (l3:Tn20):Option ((Tn54×Int×Int×Tn20) ⊕ (Tn20)):=
 cond (decide (s10<s9)) (
 cond (inR s10 (List.length s8)) (
 let t12_2:=(List.getD s8 (Int.toNat s10) (ByteArray.empty,(0,([]:Tn42))))
 (zone_Of (t12_2.1,(t12_2.2.1,t12_2.2.2))).bind fun r16_2=>
 let t21_2:Tn20:=[(r16_2.1.1,r16_2.1.2)]
 cond (decide (List.length l3+List.length t21_2≤sizeMax)) (
 let t22_2:Tn20:=(l3++t21_2)
 let t23_2:=(w64 (s10+1))
 some (.inl (s8,s9,t23_2,t22_2))) none) none) (
 some (.inr l3))
def j03L [LP] (s8:Tn54) (s9 s10:Int) (l3:Tn20):Option (Tn20):=
 LP.lp (fun h=>j01t h.1 h.2.1 h.2.2.1 h.2.2.2) (s8,s9,s10,l3)
theorem j0a9 (s8:Tn54) (s9 s10:Int) (l3:Tn20):j03L s8 s9 s10 l3=lpK (j01t s8 s9 s10 l3) (fun h=>j03L h.1 h.2.1 h.2.2.1 h.2.2.2):=j003 _ _
def j07z [LP] (a0_l:Tn54):Option (Tn20):=
 let t9:=(Int.ofNat (List.length a0_l))
 (j03L a0_l t9 0 ([]:Tn20)).bind fun q0=>
 some q0
def j09y [LP] (a0_c:Tn71):Option (Tn73):=
 (j07z a0_c.1).bind fun r6=>
 some ((a0_c.1,(a0_c.2.1,(a0_c.2.2.1,a0_c.2.2.2))),r6)
def duty_Of [LP] (a0_c:Tn71):Option (Tn73×Bool):=
 (j02x (a0_c.1,(a0_c.2.1,(a0_c.2.2.1,a0_c.2.2.2)))).bind fun r5=>
 cond (r5 != 0) (
 some (((([]:Tn54),(([]:Tn48),(([]:Tn26),([]:Tn65)))),([]:Tn20)),false)) (
 (j09y (a0_c.1,(a0_c.2.1,(a0_c.2.2.1,a0_c.2.2.2)))).bind fun r9=>
 some (((r9.1.1,(r9.1.2.1,(r9.1.2.2.1,r9.1.2.2.2))),r9.2),true))
def j035 (a0_v:Tn73) (a1_i:Int):Option (Tn13):=
 cond (inR a1_i (List.length a0_v.2)) (
 let t8:=(List.getD a0_v.2 (Int.toNat a1_i) (0,([]:Tn2)))
 some (t8.1,t8.2)) none
def j06h (a0_b:Tn13):Option (Bool):=
 let t5:=(Int.ofNat (List.length a0_b.2))
 some (decide (t5>0))
def j08N (a0_b:Tn13):Option (Int):=
 let t5:=(Int.ofNat (List.length a0_b.2))
 cond (t5==0) (
 some 0) (
 let t11:=(Int.ofNat (List.length a0_b.2))
 let t12:=(w64 (t11-1))
 cond (inR t12 (List.length a0_b.2)) (
 let t13:=(List.getD a0_b.2 (Int.toNat t12) (0,0))
 some t13.1) none)
def j02g (a0_i:Int) (a1:Tn54) (a1_1:Tn48) (a1_2:Tn26) (a1_3:Tn65) (a1_4:Tn20) (a2:Int):Option (Tn54×Tn48×Tn26×Tn65×Tn20×Int):=
 (j035 ((a1,(a1_1,(a1_2,a1_3))),a1_4) a0_i).bind fun r7=>
 (j06h (r7.1,r7.2)).bind fun r9=>
 cond r9 (
 (j08N (r7.1,r7.2)).bind fun r12=>
 let t13:=(w64 (r12+86400))
 let t14:Int:=(if t13>a2 then t13 else a2:Int)
 some (a1,a1_1,a1_2,a1_3,a1_4,t14)) (
 some (a1,a1_1,a1_2,a1_3,a1_4,a2))
def j07J (a0_l:Tn59):Option (Int):=
 cond (a0_l.2.2.2.1==2) (
 let t8:=(w64 (7*a0_l.2.2.2.2.1))
 some t8) (
 some a0_l.2.2.2.2.1)
def j05P (a0_i a1:Int) (a1_1:Tn2) (a2:Int):Option (Bool):=
 cond (inR a0_i (List.length a1_1)) (
 let t8:=(List.getD a1_1 (Int.toNat a0_i) (0,0))
 some (decide (t8.1>a2))) none
def j02h (s1:Int) (s1_1:Tn2) (s1_2 s5 s6:Int):Option ((Int×Tn2×Int×Int×Int) ⊕ (Int)):=
 cond (decide (s5<s6)) (
 let t14_1:=(w64 (s5+s6))
 let t15_1:Int:=(IntKind.wrap .u64 t14_1)
 let t16_1:Int:=(Int.fdiv t15_1 2)
 let t17:=(w64 t16_1)
 (j05P t17 s1 s1_1 s1_2).bind fun r20_1=>
 cond (!r20_1) (
 let t23_1:=(w64 (t17+1))
 some (.inl (s1,s1_1,s1_2,t23_1,s6))) (
 some (.inl (s1,s1_1,s1_2,s5,t17)))) (
 some (.inr s5))
def j04J [LP] (s1:Int) (s1_1:Tn2) (s1_2 s5 s6:Int):Option (Int):=
 LP.lp (fun h=>j02h h.1 h.2.1 h.2.2.1 h.2.2.2.1 h.2.2.2.2) (s1,s1_1,s1_2,s5,s6)
theorem j0aa (s1:Int) (s1_1:Tn2) (s1_2 s5 s6:Int):j04J s1 s1_1 s1_2 s5 s6=lpK (j02h s1 s1_1 s1_2 s5 s6) (fun h=>j04J h.1 h.2.1 h.2.2.1 h.2.2.2.1 h.2.2.2.2):=j003 _ _
def j07A [LP] (a0_n a1_f:Int) (a1_f_1:Tn2) (a1_f_2:Int):Option (Int):=
 (j04J a1_f a1_f_1 a1_f_2 0 a0_n).bind fun q0=>
 some q0
def j029 [LP] (a0_b:Tn13) (a1_t:Int):Option (Int):=
 let t7:=(Int.ofNat (List.length a0_b.2))
 (j07A t7 a0_b.1 a0_b.2 a1_t).bind fun r9=>
 some r9
def j02P (a0_b:Tn13) (a1_i:Int):Option (Int):=
 cond (a1_i==0) (
 some a0_b.1) (
 let t12:=(w64 (a1_i-1))
 cond (inR t12 (List.length a0_b.2)) (
 let t13:=(List.getD a0_b.2 (Int.toNat t12) (0,0))
 some t13.2) none)
def j00C [LP] (s1 s2 b3:Int) (b3_1:Tn2) (l7:Tn14):Option ((Int×Int×Int×Tn2×Tn14) ⊕ (Tn14)):=
 cond (decide (s1<s2)) (
 (j029 (b3,b3_1) s1).bind fun r15_2=>
 let t20_2:=(Int.ofNat (List.length b3_1))
 cond (decide (r15_2<t20_2)) (
 cond (inR r15_2 (List.length b3_1)) (
 let t26_2:=(List.getD b3_1 (Int.toNat r15_2) (0,0))
 let t29_2:Int:=(if t26_2.1<s2 then t26_2.1 else s2:Int)
 (j02P (b3,b3_1) r15_2).bind fun r35_4=>
 let t37_4:Tn14:=[(s1,(t29_2,r35_4))]
 cond (decide (List.length l7+List.length t37_4≤sizeMax)) (
 let t38_4:Tn14:=(l7++t37_4)
 some (.inl (t29_2,s2,b3,b3_1,t38_4))) none) none) (
 (j02P (b3,b3_1) r15_2).bind fun r35_5=>
 let t37_5:Tn14:=[(s1,(s2,r35_5))]
 cond (decide (List.length l7+List.length t37_5≤sizeMax)) (
 let t38_5:Tn14:=(l7++t37_5)
 some (.inl (s2,s2,b3,b3_1,t38_5))) none)) (
 some (.inr l7))
def j01z [LP] (s1 s2 b3:Int) (b3_1:Tn2) (l7:Tn14):Option (Tn14):=
 LP.lp (fun h=>j00C h.1 h.2.1 h.2.2.1 h.2.2.2.1 h.2.2.2.2) (s1,s2,b3,b3_1,l7)
theorem j06c (s1 s2 b3:Int) (b3_1:Tn2) (l7:Tn14):j01z s1 s2 b3 b3_1 l7=lpK (j00C s1 s2 b3 b3_1 l7) (fun h=>j01z h.1 h.2.1 h.2.2.1 h.2.2.2.1 h.2.2.2.2):=j003 _ _
def j02j [LP] (a0_b:Tn13) (a1_from a2_to:Int):Option (Tn14):=
 (j01z a1_from a2_to a0_b.1 a0_b.2 ([]:Tn14)).bind fun q0=>
 some q0
def j036 (a0_l:(Int×Int)):Option (Int):=
 let t5:Int:=(if (-1048576)>a0_l.1 then (-1048576) else a0_l.1:Int)
 let t6:Int:=(if 1048576<t5 then 1048576 else t5:Int)
 let t7:=(w64 (t6*86400))
 let t10:=(w64 (t7+a0_l.2))
 some t10
def j011 (s11 s12 b3 b3_1:Int) (l10:Tn14):Option ((Int×Int×Int×Int×Tn14) ⊕ ((Int×Bool) ⊕ Unit)):=
 cond (decide (s12<s11)) (
 cond (inR s12 (List.length l10)) (
 let t15_3:=(List.getD l10 (Int.toNat s12) (0,(0,0))).1
 let t15_4:=(List.getD l10 (Int.toNat s12) (0,(0,0))).2.1
 let t15_5:=(List.getD l10 (Int.toNat s12) (0,(0,0))).2.2
 (j036 (b3,b3_1)).bind fun r19_1=>
 let t22_1:=(w64 (r19_1-t15_5))
 let t23_1:Int:=(if t22_1>t15_3 then t22_1 else t15_3:Int)
 cond (decide (t23_1<t15_4)) (
 some (.inr (.inl (t23_1,true)))) (
 let t29_1:=(w64 (s12+1))
 some (.inl (s11,t29_1,b3,b3_1,l10)))) none) (
 some (.inr (.inr ())))
def j01N [LP] (s11 s12 b3 b3_1:Int) (l10:Tn14):Option ((Int×Bool) ⊕ Unit):=
 LP.lp (fun h=>j011 h.1 h.2.1 h.2.2.1 h.2.2.2.1 h.2.2.2.2) (s11,s12,b3,b3_1,l10)
theorem j02U (s11 s12 b3 b3_1:Int) (l10:Tn14):j01N s11 s12 b3 b3_1 l10=lpK (j011 s11 s12 b3 b3_1 l10) (fun h=>j01N h.1 h.2.1 h.2.2.1 h.2.2.2.1 h.2.2.2.2):=j003 _ _
def j00M [LP] (a0_b:Tn13) (a1_l:(Int×Int)):Option (Int×Bool):=
 (j02j (a0_b.1,a0_b.2) 0 8589934593).bind fun r10=>
 let t11:=(Int.ofNat (List.length r10))
 (j01N t11 0 a1_l.1 a1_l.2 r10).bind fun q0=>
 sumC q0 (fun a=>
 some (a.1,a.2)) (fun b=>
 some (0,false))
def j00N [LP] (a0_b:Tn13) (a1_l:Tn59) (a2_k:Int):Option (Int×Bool):=
 cond (decide (a2_k>8589934592)) (
 some (0,false)) (
 cond (a1_l.2.2.2.1 != 0) (
 (j07J (a1_l.1,(a1_l.2.1,((a1_l.2.2.1.1,a1_l.2.2.1.2),(a1_l.2.2.2.1,(a1_l.2.2.2.2.1,(a1_l.2.2.2.2.2.1,(a1_l.2.2.2.2.2.2.1,(a1_l.2.2.2.2.2.2.2.1,a1_l.2.2.2.2.2.2.2.2))))))))).bind fun r22=>
 let t23:=(w64 (a2_k*r22))
 let t24:=(w64 (a1_l.2.2.1.1+t23))
 (j00M (a0_b.1,a0_b.2) (t24,a1_l.2.2.1.2)).bind fun r28=>
 some (r28.1,r28.2)) (
 (j00M (a0_b.1,a0_b.2) (a1_l.2.2.1.1,a1_l.2.2.1.2)).bind fun r34=>
 let t40:=(w64 (3600*a1_l.2.2.2.2.1))
 let t42:=(w64 (t40*a2_k))
 let t43:=(w64 (r34.1+t42))
 some (t43,(cond r34.2 (decide (t43≤8589934592)) false))))
def j01O (s18:Tn29) (s19 s20:Int) (b2:Tn54) (b2_1:Tn48) (b2_2:Tn26) (b2_3:Tn65) (b2_4:Tn20) (b3:ByteArray) (b3_1:Tn60) (b3_2:Tn29) (b5:Int):Option ((Tn29×Int×Int×Tn54×Tn48×Tn26×Tn65×Tn20×ByteArray×Tn60×Tn29×Int) ⊕ ((Tn54×Tn48×Tn26×Tn65×Tn20×ByteArray×Tn60×Tn29×Int))):=
 cond (decide (s20<s19)) (
 cond (inR s20 (List.length s18)) (
 let t22_1:=(List.getD s18 (Int.toNat s20) (0,(0,(0,(0,0)))))
 let t27_1:Int:=(if t22_1.2.2.2.2>b5 then t22_1.2.2.2.2 else b5:Int)
 let t28_1:=(w64 (s20+1))
 some (.inl (s18,s19,t28_1,b2,b2_1,b2_2,b2_3,b2_4,b3,b3_1,b3_2,t27_1))) none) (
 some (.inr (b2,b2_1,b2_2,b2_3,b2_4,b3,b3_1,b3_2,b5)))
def j01P [LP] (s18:Tn29) (s19 s20:Int) (b2:Tn54) (b2_1:Tn48) (b2_2:Tn26) (b2_3:Tn65) (b2_4:Tn20) (b3:ByteArray) (b3_1:Tn60) (b3_2:Tn29) (b5:Int):Option ((Tn54×Tn48×Tn26×Tn65×Tn20×ByteArray×Tn60×Tn29×Int)):=
 LP.lp (fun h=>j01O h.1 h.2.1 h.2.2.1 h.2.2.2.1 h.2.2.2.2.1 h.2.2.2.2.2.1 h.2.2.2.2.2.2.1 h.2.2.2.2.2.2.2.1 h.2.2.2.2.2.2.2.2.1 h.2.2.2.2.2.2.2.2.2.1 h.2.2.2.2.2.2.2.2.2.2.1 h.2.2.2.2.2.2.2.2.2.2.2) (s18,s19,s20,b2,b2_1,b2_2,b2_3,b2_4,b3,b3_1,b3_2,b5)
theorem j06E (s18:Tn29) (s19 s20:Int) (b2:Tn54) (b2_1:Tn48) (b2_2:Tn26) (b2_3:Tn65) (b2_4:Tn20) (b3:ByteArray) (b3_1:Tn60) (b3_2:Tn29) (b5:Int):j01P s18 s19 s20 b2 b2_1 b2_2 b2_3 b2_4 b3 b3_1 b3_2 b5=lpK (j01O s18 s19 s20 b2 b2_1 b2_2 b2_3 b2_4 b3 b3_1 b3_2 b5) (fun h=>j01P h.1 h.2.1 h.2.2.1 h.2.2.2.1 h.2.2.2.2.1 h.2.2.2.2.2.1 h.2.2.2.2.2.2.1 h.2.2.2.2.2.2.2.1 h.2.2.2.2.2.2.2.2.1 h.2.2.2.2.2.2.2.2.2.1 h.2.2.2.2.2.2.2.2.2.2.1 h.2.2.2.2.2.2.2.2.2.2.2):=j003 _ _
def j00A [LP] (s31:Tn60) (s32 s33:Int) (b2:Tn54) (b2_1:Tn48) (b2_2:Tn26) (b2_3:Tn65) (b2_4:Tn20) (b5:Int):Option ((Tn60×Int×Int×Tn54×Tn48×Tn26×Tn65×Tn20×Int) ⊕ (Int)):=
 cond (decide (s33<s32)) (
 cond (inR s33 (List.length s31)) (
 let t35_1:=(List.getD s31 (Int.toNat s33) (ByteArray.empty,(0,((0,0),(0,(0,(([]:(List Int)),(([]:Tn2),(0,0)))))))))
 (j02g t35_1.2.1 b2 b2_1 b2_2 b2_3 b2_4 b5).bind fun r40_1=>
 (j035 ((r40_1.1,(r40_1.2.1,(r40_1.2.2.1,r40_1.2.2.2.1))),r40_1.2.2.2.2.1) t35_1.2.1).bind fun r45_1=>
 (j00N (r45_1.1,r45_1.2) (t35_1.1,(t35_1.2.1,((t35_1.2.2.1.1,t35_1.2.2.1.2),(t35_1.2.2.2.1,(t35_1.2.2.2.2.1,(t35_1.2.2.2.2.2.1,(t35_1.2.2.2.2.2.2.1,(t35_1.2.2.2.2.2.2.2.1,t35_1.2.2.2.2.2.2.2.2)))))))) 0).bind fun r47_1=>
 cond r47_1.2 (
 let t53_1:Int:=(if r47_1.1>r40_1.2.2.2.2.2 then r47_1.1 else r40_1.2.2.2.2.2:Int)
 cond (t35_1.2.2.2.2.2.2.2.2==0) (
 let t93_8:=(w64 (s33+1))
 some (.inl (s31,s32,t93_8,r40_1.1,r40_1.2.1,r40_1.2.2.1,r40_1.2.2.2.1,r40_1.2.2.2.2.1,t53_1))) (
 cond (inR t35_1.2.2.2.2.2.2.2.1 (List.length r40_1.2.2.1)) (
 let t62_2:=(List.getD r40_1.2.2.1 (Int.toNat t35_1.2.2.2.2.2.2.2.1) (ByteArray.empty,(0,([]:(List Int)))))
 (j02g t62_2.2.1 r40_1.1 r40_1.2.1 r40_1.2.2.1 r40_1.2.2.2.1 r40_1.2.2.2.2.1 t53_1).bind fun r67_2=>
 let t70_2:=(Int.ofNat (List.length t62_2.2.2))
 cond (decide (t70_2>0)) (
 (j035 ((r67_2.1,(r67_2.2.1,(r67_2.2.2.1,r67_2.2.2.2.1))),r67_2.2.2.2.2.1) t62_2.2.1).bind fun r77_2=>
 let t81_2:=(w64 (t70_2-1))
 cond (inR t81_2 (List.length t62_2.2.2)) (
 let t82_2:=(List.getD t62_2.2.2 (Int.toNat t81_2) 0)
 let t84_2:=(w64 (t82_2+1))
 (j00M (r77_2.1,r77_2.2) (t84_2,0)).bind fun r86_2=>
 cond r86_2.2 (
 let t92_2:Int:=(if r86_2.1>r67_2.2.2.2.2.2 then r86_2.1 else r67_2.2.2.2.2.2:Int)
 let t93_9:=(w64 (s33+1))
 some (.inl (s31,s32,t93_9,r67_2.1,r67_2.2.1,r67_2.2.2.1,r67_2.2.2.2.1,r67_2.2.2.2.2.1,t92_2))) (
 let t93_10:=(w64 (s33+1))
 some (.inl (s31,s32,t93_10,r67_2.1,r67_2.2.1,r67_2.2.2.1,r67_2.2.2.2.1,r67_2.2.2.2.2.1,r67_2.2.2.2.2.2)))) none) (
 let t93_11:=(w64 (s33+1))
 some (.inl (s31,s32,t93_11,r67_2.1,r67_2.2.1,r67_2.2.2.1,r67_2.2.2.2.1,r67_2.2.2.2.2.1,r67_2.2.2.2.2.2)))) none)) (
 cond (t35_1.2.2.2.2.2.2.2.2==0) (
 let t93_12:=(w64 (s33+1))
 some (.inl (s31,s32,t93_12,r40_1.1,r40_1.2.1,r40_1.2.2.1,r40_1.2.2.2.1,r40_1.2.2.2.2.1,r40_1.2.2.2.2.2))) (
 cond (inR t35_1.2.2.2.2.2.2.2.1 (List.length r40_1.2.2.1)) (
 let t62_3:=(List.getD r40_1.2.2.1 (Int.toNat t35_1.2.2.2.2.2.2.2.1) (ByteArray.empty,(0,([]:(List Int)))))
 (j02g t62_3.2.1 r40_1.1 r40_1.2.1 r40_1.2.2.1 r40_1.2.2.2.1 r40_1.2.2.2.2.1 r40_1.2.2.2.2.2).bind fun r67_3=>
 let t70_3:=(Int.ofNat (List.length t62_3.2.2))
 cond (decide (t70_3>0)) (
 (j035 ((r67_3.1,(r67_3.2.1,(r67_3.2.2.1,r67_3.2.2.2.1))),r67_3.2.2.2.2.1) t62_3.2.1).bind fun r77_3=>
 let t81_3:=(w64 (t70_3-1))
 cond (inR t81_3 (List.length t62_3.2.2)) (
 let t82_3:=(List.getD t62_3.2.2 (Int.toNat t81_3) 0)
 let t84_3:=(w64 (t82_3+1))
 (j00M (r77_3.1,r77_3.2) (t84_3,0)).bind fun r86_3=>
 cond r86_3.2 (
 let t92_3:Int:=(if r86_3.1>r67_3.2.2.2.2.2 then r86_3.1 else r67_3.2.2.2.2.2:Int)
 let t93_13:=(w64 (s33+1))
 some (.inl (s31,s32,t93_13,r67_3.1,r67_3.2.1,r67_3.2.2.1,r67_3.2.2.2.1,r67_3.2.2.2.2.1,t92_3))) (
 let t93_14:=(w64 (s33+1))
 some (.inl (s31,s32,t93_14,r67_3.1,r67_3.2.1,r67_3.2.2.1,r67_3.2.2.2.1,r67_3.2.2.2.2.1,r67_3.2.2.2.2.2)))) none) (
 let t93_15:=(w64 (s33+1))
 some (.inl (s31,s32,t93_15,r67_3.1,r67_3.2.1,r67_3.2.2.1,r67_3.2.2.2.1,r67_3.2.2.2.2.1,r67_3.2.2.2.2.2)))) none))) none) (
 some (.inr b5))
def j01Q [LP] (s31:Tn60) (s32 s33:Int) (b2:Tn54) (b2_1:Tn48) (b2_2:Tn26) (b2_3:Tn65) (b2_4:Tn20) (b5:Int):Option (Int):=
 LP.lp (fun h=>j00A h.1 h.2.1 h.2.2.1 h.2.2.2.1 h.2.2.2.2.1 h.2.2.2.2.2.1 h.2.2.2.2.2.2.1 h.2.2.2.2.2.2.2.1 h.2.2.2.2.2.2.2.2) (s31,s32,s33,b2,b2_1,b2_2,b2_3,b2_4,b5)
theorem j06F (s31:Tn60) (s32 s33:Int) (b2:Tn54) (b2_1:Tn48) (b2_2:Tn26) (b2_3:Tn65) (b2_4:Tn20) (b5:Int):j01Q s31 s32 s33 b2 b2_1 b2_2 b2_3 b2_4 b5=lpK (j00A s31 s32 s33 b2 b2_1 b2_2 b2_3 b2_4 b5) (fun h=>j01Q h.1 h.2.1 h.2.2.1 h.2.2.2.1 h.2.2.2.2.1 h.2.2.2.2.2.1 h.2.2.2.2.2.2.1 h.2.2.2.2.2.2.2.1 h.2.2.2.2.2.2.2.2):=j003 _ _
def j03o [LP] (a0_v:Tn73) (a1_s:Tn64):Option (Int):=
 let t19:=(Int.ofNat (List.length a1_s.2.2))
 (j01P a1_s.2.2 t19 0 a0_v.1.1 a0_v.1.2.1 a0_v.1.2.2.1 a0_v.1.2.2.2 a0_v.2 a1_s.1 a1_s.2.1 a1_s.2.2 0).bind fun q0=>
 let t32:=(Int.ofNat (List.length q0.2.2.2.2.2.2.1))
 (j01Q q0.2.2.2.2.2.2.1 t32 0 q0.1 q0.2.1 q0.2.2.1 q0.2.2.2.1 q0.2.2.2.2.1 q0.2.2.2.2.2.2.2.2).bind fun q2=>
 some q2
def j02F [LP] (a0_c:Tn71) (a1_schedule:Int):Option (Int):=
 (duty_Of (a0_c.1,(a0_c.2.1,(a0_c.2.2.1,a0_c.2.2.2)))).bind fun r9=>
 cond (!r9.2) (
 some 0) (
 (j06f (a0_c.1,(a0_c.2.1,(a0_c.2.2.1,a0_c.2.2.2))) a1_schedule).bind fun r17=>
 cond (!r17) (
 some 0) (
 cond (inR a1_schedule (List.length a0_c.2.2.2)) (
 let t24:=(List.getD a0_c.2.2.2 (Int.toNat a1_schedule) (ByteArray.empty,(([]:Tn60),([]:Tn29))))
 (j03o ((r9.1.1.1,(r9.1.1.2.1,(r9.1.1.2.2.1,r9.1.1.2.2.2))),r9.1.2) (t24.1,(t24.2.1,t24.2.2))).bind fun r26=>
 some r26) none))
def j028 [LP] (a0_c:Tn71) (a1_schedule a2_t:Int):Option (Int×Int):=
 (j034 (a0_c.1,(a0_c.2.1,(a0_c.2.2.1,a0_c.2.2.2))) a1_schedule).bind fun r14=>
 cond (r14.2 != 0) (
 some (0,r14.2)) (
 cond (cond (decide (a2_t<0)) true (decide (a2_t>8589934592))) (
 some (0,1)) (
 (j02F (a0_c.1,(a0_c.2.1,(a0_c.2.2.1,a0_c.2.2.2))) a1_schedule).bind fun r28=>
 let t32:=(w64 (r28+r14.1))
 cond (decide (a2_t<t32)) (
 some (a2_t,0)) (
 let t38:=(w64 (a2_t-r28))
 cond (!(r14.1==0)) (
 let t40:=(Int.tmod t38 r14.1)
 let t41:=(w64 (r28+t40))
 some (t41,0)) none)))
def j01G (a0_s:Tn60):Option (Tn60):=
 some a0_s
def j02k [LP] (a0_b:Tn13) (a1_t:Int):Option (Int):=
 (j029 (a0_b.1,a0_b.2) a1_t).bind fun r8=>
 (j02P (a0_b.1,a0_b.2) r8).bind fun r9=>
 some r9
def j0cu (a0_n:Int):Option ((Int×Int)):=
 let t5:=(w64 (Int.tdiv a0_n 86400))
 let t7:=(Int.tmod a0_n 86400)
 cond (decide (t7<0)) (
 let t10:=(w64 (t5-1))
 let t14:=(w64 (t10*86400))
 let t15:=(w64 (a0_n-t14))
 some (t10,t15)) (
 let t14_1:=(w64 (t5*86400))
 let t15_1:=(w64 (a0_n-t14_1))
 some (t5,t15_1))
def j00m [LP] (a0_b:Tn13) (a1_t:Int):Option ((Int×Int)):=
 (j02k (a0_b.1,a0_b.2) a1_t).bind fun r8=>
 let t9:=(w64 (a1_t+r8))
 (j0cu t9).bind fun r10=>
 some (r10.1,r10.2)
def j018 [LP] (s2 s9 b3:Int) (b3_1:Tn2) (b4:ByteArray) (b4_1 b4_2 b4_3 b4_4 b4_5:Int) (b4_6:(List Int)) (b4_7:Tn2) (b4_8 b4_9:Int):Option ((Int×Int×Int×Tn2×ByteArray×Int×Int×Int×Int×Int×(List Int)×Tn2×Int×Int) ⊕ ((Int×Int×Int×Tn2×ByteArray×Int×Int×Int×Int×Int×(List Int)×Tn2×Int×Int))):=
 cond (decide (s9>0)) (
 (j00N (b3,b3_1) (b4,(b4_1,((b4_2,b4_3),(b4_4,(b4_5,(b4_6,(b4_7,(b4_8,b4_9)))))))) s9).bind fun r55_1=>
 cond (cond r55_1.2 (decide (r55_1.1≤s2)) false) (
 some (.inr (s2,s9,b3,b3_1,b4,b4_1,b4_2,b4_3,b4_4,b4_5,b4_6,b4_7,b4_8,b4_9))) (
 let t65_1:=(w64 (s9-1))
 some (.inl (s2,t65_1,b3,b3_1,b4,b4_1,b4_2,b4_3,b4_4,b4_5,b4_6,b4_7,b4_8,b4_9)))) (
 some (.inr (s2,s9,b3,b3_1,b4,b4_1,b4_2,b4_3,b4_4,b4_5,b4_6,b4_7,b4_8,b4_9)))
def j03p [LP] (s2 s9 b3:Int) (b3_1:Tn2) (b4:ByteArray) (b4_1 b4_2 b4_3 b4_4 b4_5:Int) (b4_6:(List Int)) (b4_7:Tn2) (b4_8 b4_9:Int):Option ((Int×Int×Int×Tn2×ByteArray×Int×Int×Int×Int×Int×(List Int)×Tn2×Int×Int)):=
 LP.lp (fun h=>j018 h.1 h.2.1 h.2.2.1 h.2.2.2.1 h.2.2.2.2.1 h.2.2.2.2.2.1 h.2.2.2.2.2.2.1 h.2.2.2.2.2.2.2.1 h.2.2.2.2.2.2.2.2.1 h.2.2.2.2.2.2.2.2.2.1 h.2.2.2.2.2.2.2.2.2.2.1 h.2.2.2.2.2.2.2.2.2.2.2.1 h.2.2.2.2.2.2.2.2.2.2.2.2.1 h.2.2.2.2.2.2.2.2.2.2.2.2.2) (s2,s9,b3,b3_1,b4,b4_1,b4_2,b4_3,b4_4,b4_5,b4_6,b4_7,b4_8,b4_9)
theorem j08n (s2 s9 b3:Int) (b3_1:Tn2) (b4:ByteArray) (b4_1 b4_2 b4_3 b4_4 b4_5:Int) (b4_6:(List Int)) (b4_7:Tn2) (b4_8 b4_9:Int):j03p s2 s9 b3 b3_1 b4 b4_1 b4_2 b4_3 b4_4 b4_5 b4_6 b4_7 b4_8 b4_9=lpK (j018 s2 s9 b3 b3_1 b4 b4_1 b4_2 b4_3 b4_4 b4_5 b4_6 b4_7 b4_8 b4_9) (fun h=>j03p h.1 h.2.1 h.2.2.1 h.2.2.2.1 h.2.2.2.2.1 h.2.2.2.2.2.1 h.2.2.2.2.2.2.1 h.2.2.2.2.2.2.2.1 h.2.2.2.2.2.2.2.2.1 h.2.2.2.2.2.2.2.2.2.1 h.2.2.2.2.2.2.2.2.2.2.1 h.2.2.2.2.2.2.2.2.2.2.2.1 h.2.2.2.2.2.2.2.2.2.2.2.2.1 h.2.2.2.2.2.2.2.2.2.2.2.2.2):=j003 _ _
def j01q [LP] (s2 s9 b3:Int) (b3_1:Tn2) (b4:ByteArray) (b4_1 b4_2 b4_3 b4_4 b4_5:Int) (b4_6:(List Int)) (b4_7:Tn2) (b4_8 b4_9:Int):Option ((Int×Int×Int×Tn2×ByteArray×Int×Int×Int×Int×Int×(List Int)×Tn2×Int×Int) ⊕ (Int)):=
 let t70_1:=(w64 (s9+1))
 (j00N (b3,b3_1) (b4,(b4_1,((b4_2,b4_3),(b4_4,(b4_5,(b4_6,(b4_7,(b4_8,b4_9)))))))) t70_1).bind fun r71_1=>
 cond (cond (!r71_1.2) true (decide (r71_1.1>s2))) (
 some (.inr s9)) (
 let t83_1:=(w64 (s9+1))
 some (.inl (s2,t83_1,b3,b3_1,b4,b4_1,b4_2,b4_3,b4_4,b4_5,b4_6,b4_7,b4_8,b4_9)))
def j03q [LP] (s2 s9 b3:Int) (b3_1:Tn2) (b4:ByteArray) (b4_1 b4_2 b4_3 b4_4 b4_5:Int) (b4_6:(List Int)) (b4_7:Tn2) (b4_8 b4_9:Int):Option (Int):=
 LP.lp (fun h=>j01q h.1 h.2.1 h.2.2.1 h.2.2.2.1 h.2.2.2.2.1 h.2.2.2.2.2.1 h.2.2.2.2.2.2.1 h.2.2.2.2.2.2.2.1 h.2.2.2.2.2.2.2.2.1 h.2.2.2.2.2.2.2.2.2.1 h.2.2.2.2.2.2.2.2.2.2.1 h.2.2.2.2.2.2.2.2.2.2.2.1 h.2.2.2.2.2.2.2.2.2.2.2.2.1 h.2.2.2.2.2.2.2.2.2.2.2.2.2) (s2,s9,b3,b3_1,b4,b4_1,b4_2,b4_3,b4_4,b4_5,b4_6,b4_7,b4_8,b4_9)
theorem j0cv (s2 s9 b3:Int) (b3_1:Tn2) (b4:ByteArray) (b4_1 b4_2 b4_3 b4_4 b4_5:Int) (b4_6:(List Int)) (b4_7:Tn2) (b4_8 b4_9:Int):j03q s2 s9 b3 b3_1 b4 b4_1 b4_2 b4_3 b4_4 b4_5 b4_6 b4_7 b4_8 b4_9=lpK (j01q s2 s9 b3 b3_1 b4 b4_1 b4_2 b4_3 b4_4 b4_5 b4_6 b4_7 b4_8 b4_9) (fun h=>j03q h.1 h.2.1 h.2.2.1 h.2.2.2.1 h.2.2.2.2.1 h.2.2.2.2.2.1 h.2.2.2.2.2.2.1 h.2.2.2.2.2.2.2.1 h.2.2.2.2.2.2.2.2.1 h.2.2.2.2.2.2.2.2.2.1 h.2.2.2.2.2.2.2.2.2.2.1 h.2.2.2.2.2.2.2.2.2.2.2.1 h.2.2.2.2.2.2.2.2.2.2.2.2.1 h.2.2.2.2.2.2.2.2.2.2.2.2.2):=j003 _ _
def j01Y [LP] (a0_b:Tn13) (a1_l:Tn59) (a2_t:Int):Option (Int):=
 (j00N (a0_b.1,a0_b.2) (a1_l.1,(a1_l.2.1,((a1_l.2.2.1.1,a1_l.2.2.1.2),(a1_l.2.2.2.1,(a1_l.2.2.2.2.1,(a1_l.2.2.2.2.2.1,(a1_l.2.2.2.2.2.2.1,(a1_l.2.2.2.2.2.2.2.1,a1_l.2.2.2.2.2.2.2.2)))))))) 0).bind fun r17=>
 cond (cond (!r17.2) true (decide (r17.1>a2_t))) (
 some (-1)) (
 cond (a1_l.2.2.2.1==0) (
 let t32:=(w64 (a2_t-r17.1))
 let t35:=(w64 (3600*a1_l.2.2.2.2.1))
 cond (!(t35==0)) (
 let t36:=(w64 (Int.tdiv t32 t35))
 some t36) none) (
 (j00m (a0_b.1,a0_b.2) a2_t).bind fun r39=>
 let t44:=(w64 (r39.1-a1_l.2.2.1.1))
 (j07J (a1_l.1,(a1_l.2.1,((a1_l.2.2.1.1,a1_l.2.2.1.2),(a1_l.2.2.2.1,(a1_l.2.2.2.2.1,(a1_l.2.2.2.2.2.1,(a1_l.2.2.2.2.2.2.1,(a1_l.2.2.2.2.2.2.2.1,a1_l.2.2.2.2.2.2.2.2))))))))).bind fun r46=>
 cond (!(r46==0)) (
 let t47:=(w64 (Int.tdiv t44 r46))
 let t48:Int:=(if t47>0 then t47 else 0:Int)
 (j03p a2_t t48 a0_b.1 a0_b.2 a1_l.1 a1_l.2.1 a1_l.2.2.1.1 a1_l.2.2.1.2 a1_l.2.2.2.1 a1_l.2.2.2.2.1 a1_l.2.2.2.2.2.1 a1_l.2.2.2.2.2.2.1 a1_l.2.2.2.2.2.2.2.1 a1_l.2.2.2.2.2.2.2.2).bind fun q0=>
 (j03q q0.1 q0.2.1 q0.2.2.1 q0.2.2.2.1 q0.2.2.2.2.1 q0.2.2.2.2.2.1 q0.2.2.2.2.2.2.1 q0.2.2.2.2.2.2.2.1 q0.2.2.2.2.2.2.2.2.1 q0.2.2.2.2.2.2.2.2.2.1 q0.2.2.2.2.2.2.2.2.2.2.1 q0.2.2.2.2.2.2.2.2.2.2.2.1 q0.2.2.2.2.2.2.2.2.2.2.2.2.1 q0.2.2.2.2.2.2.2.2.2.2.2.2.2).bind fun q2=>
 some q2) none))
def j02z (a0_l:(Int×Int)):Option (Int):=
 (j04m a0_l.1).bind fun r5=>
 let t6:=(w64 (r5*86400))
 let t9:=(w64 (t6+a0_l.2))
 some t9
def j04o (s1:Int) (s7:Tn2) (s8 s9:Int):Option ((Int×Tn2×Int×Int) ⊕ (Bool ⊕ Unit)):=
 cond (decide (s9<s8)) (
 cond (inR s9 (List.length s7)) (
 let t11_1:=(List.getD s7 (Int.toNat s9) (0,0))
 cond (cond (decide (t11_1.1≤s1)) (decide (s1<t11_1.2)) false) (
 some (.inr (.inl true))) (
 let t23_1:=(w64 (s9+1))
 some (.inl (s1,s7,s8,t23_1)))) none) (
 some (.inr (.inr ())))
def j07B [LP] (s1:Int) (s7:Tn2) (s8 s9:Int):Option (Bool ⊕ Unit):=
 LP.lp (fun h=>j04o h.1 h.2.1 h.2.2.1 h.2.2.2) (s1,s7,s8,s9)
theorem j0cw (s1:Int) (s7:Tn2) (s8 s9:Int):j07B s1 s7 s8 s9=lpK (j04o s1 s7 s8 s9) (fun h=>j07B h.1 h.2.1 h.2.2.1 h.2.2.2):=j003 _ _
def j0bQ [LP] (a0_l:Tn2) (a1_s:Int):Option (Bool):=
 let t8:=(Int.ofNat (List.length a0_l))
 (j07B a1_s a0_l t8 0).bind fun q0=>
 sumC q0 (fun a=>
 some a) (fun b=>
 some false)
def j08o (a0_x:Int):Option (Bool):=
 some (a0_x != a0_x)
def j09z (a0_x a1_y:Int):Option (Bool):=
 (j08o a0_x).bind fun r6=>
 cond r6 (
 (j08o a1_y).bind fun r9=>
 some (cond (!r9) true (decide (a0_x<a1_y)))) (
 some (decide (a0_x<a1_y)))
def j05Q (a0_x:Int):Option (Bool):=
 some (a0_x != a0_x)
def j013 (s0:(List Int)) (s1 s6 s7 s8:Int):Option (((List Int)×Int×Int×Int×Int) ⊕ (((List Int)×Int×Int×Int))):=
 cond (decide (s7<s8)) (
 let t18_1:=(w64 (s7+s8))
 let t19_1:Int:=(IntKind.wrap .u64 t18_1)
 let t20_1:Int:=(Int.fdiv t19_1 2)
 let t21:=(w64 t20_1)
 cond (inR t21 (List.length s0)) (
 let t24_1:=(List.getD s0 (Int.toNat t21) 0)
 (j09z t24_1 s1).bind fun r27_1=>
 cond r27_1 (
 let t29_1:=(w64 (t21+1))
 some (.inl (s0,s1,s6,t29_1,s8))) (
 some (.inl (s0,s1,s6,s7,t21)))) none) (
 some (.inr (s0,s1,s6,s7)))
def j00I [LP] (s0:(List Int)) (s1 s6 s7 s8:Int):Option (((List Int)×Int×Int×Int)):=
 LP.lp (fun h=>j013 h.1 h.2.1 h.2.2.1 h.2.2.2.1 h.2.2.2.2) (s0,s1,s6,s7,s8)
theorem j066 (s0:(List Int)) (s1 s6 s7 s8:Int):j00I s0 s1 s6 s7 s8=lpK (j013 s0 s1 s6 s7 s8) (fun h=>j00I h.1 h.2.1 h.2.2.1 h.2.2.2.1 h.2.2.2.2):=j003 _ _
def j00s [LP] (a0_x:(List Int)) (a1_target:Int):Option (Int×Bool):=
 let t11:=(Int.ofNat (List.length a0_x))
 (j00I a0_x a1_target t11 0 t11).bind fun q0=>
 cond ((inR q0.2.2.2 (List.length q0.1)) || !(decide (q0.2.2.2<q0.2.2.1))) (
 let t38:=(List.getD q0.1 (Int.toNat q0.2.2.2) 0)
 cond ((inR q0.2.2.2 (List.length q0.1)) || !((decide (q0.2.2.2<q0.2.2.1))&&(!(t38==q0.2.1)))) (
 let t45:=(List.getD q0.1 (Int.toNat q0.2.2.2) 0)
 cond (decide (q0.2.2.2<q0.2.2.1)) (
 cond (t38==q0.2.1) (
 some (q0.2.2.2,true)) (
 (j05Q t45).bind fun r47=>
 cond r47 (
 (j05Q q0.2.1).bind fun r50=>
 some (q0.2.2.2,r50)) (
 some (q0.2.2.2,false)))) (
 cond ((t38==q0.2.1) || !false) (
 some (q0.2.2.2,false)) none)) none) none
def j037 [LP] (a0_v:Tn73) (a1_l:Tn59) (a2_t:Int):Option (Int×Bool):=
 cond (cond (decide (a2_t<0)) true (decide (a2_t>8589934592))) (
 some (0,false)) (
 cond (inR a1_l.2.1 (List.length a0_v.2)) (
 let t23:=(List.getD a0_v.2 (Int.toNat a1_l.2.1) (0,([]:Tn2)))
 (j01Y (t23.1,t23.2) (a1_l.1,(a1_l.2.1,((a1_l.2.2.1.1,a1_l.2.2.1.2),(a1_l.2.2.2.1,(a1_l.2.2.2.2.1,(a1_l.2.2.2.2.2.1,(a1_l.2.2.2.2.2.2.1,(a1_l.2.2.2.2.2.2.2.1,a1_l.2.2.2.2.2.2.2.2)))))))) a2_t).bind fun r28=>
 cond (decide (r28<0)) (
 some (0,false)) (
 let t34:=(Int.ofNat (List.length a1_l.2.2.2.2.2.2.1))
 cond (decide (t34>0)) (
 (j00m (t23.1,t23.2) a2_t).bind fun r41=>
 (j02z (r41.1,r41.2)).bind fun r42=>
 (j0bQ a1_l.2.2.2.2.2.2.1 r42).bind fun r43=>
 cond (!r43) (
 some (0,false)) (
 cond (a1_l.2.2.2.2.2.2.2.2==0) (
 some (r28,true)) (
 cond (inR a1_l.2.2.2.2.2.2.2.1 (List.length a0_v.1.2.2.1)) (
 let t56:=(List.getD a0_v.1.2.2.1 (Int.toNat a1_l.2.2.2.2.2.2.2.1) (ByteArray.empty,(0,([]:(List Int)))))
 cond (inR t56.2.1 (List.length a0_v.2)) (
 let t65:=(List.getD a0_v.2 (Int.toNat t56.2.1) (0,([]:Tn2)))
 (j00m (t65.1,t65.2) a2_t).bind fun r68=>
 (j00s t56.2.2 r68.1).bind fun r70=>
 some (r28,(r70.2==(a1_l.2.2.2.2.2.2.2.2==2)))) none) none))) (
 cond (a1_l.2.2.2.2.2.2.2.2==0) (
 some (r28,true)) (
 cond (inR a1_l.2.2.2.2.2.2.2.1 (List.length a0_v.1.2.2.1)) (
 let t56_1:=(List.getD a0_v.1.2.2.1 (Int.toNat a1_l.2.2.2.2.2.2.2.1) (ByteArray.empty,(0,([]:(List Int)))))
 cond (inR t56_1.2.1 (List.length a0_v.2)) (
 let t65_1:=(List.getD a0_v.2 (Int.toNat t56_1.2.1) (0,([]:Tn2)))
 (j00m (t65_1.1,t65_1.2) a2_t).bind fun r68_1=>
 (j00s t56_1.2.2 r68_1.1).bind fun r70_1=>
 some (r28,(r70_1.2==(a1_l.2.2.2.2.2.2.2.2==2)))) none) none)))) none)
def j01f [LP] (a0_v:Tn73) (a1_l:Tn59) (a2_t:Int):Option (Int):=
 (j037 ((a0_v.1.1,(a0_v.1.2.1,(a0_v.1.2.2.1,a0_v.1.2.2.2))),a0_v.2) (a1_l.1,(a1_l.2.1,((a1_l.2.2.1.1,a1_l.2.2.1.2),(a1_l.2.2.2.1,(a1_l.2.2.2.2.1,(a1_l.2.2.2.2.2.1,(a1_l.2.2.2.2.2.2.1,(a1_l.2.2.2.2.2.2.2.1,a1_l.2.2.2.2.2.2.2.2)))))))) a2_t).bind fun r13=>
 cond (!r13.2) (
 some (-1)) (
 let t23:=(Int.ofNat (List.length a1_l.2.2.2.2.2.1))
 cond (!(t23==0)) (
 let t24:=(Int.tmod r13.1 t23)
 cond (inR t24 (List.length a1_l.2.2.2.2.2.1)) (
 let t25:=(List.getD a1_l.2.2.2.2.2.1 (Int.toNat t24) 0)
 some t25) none) none)
def j0ay (a0_x:Tn24) (a1 a2:Int):Option (Bool):=
 let t19:Bool:=(cond (cond (a0_x.1==0) (a0_x.2.1==a1) false) (decide (a0_x.2.2.2.1≤a2)) false)
 some (cond t19 (decide (a2<a0_x.2.2.2.2)) false)
def j00t (s0:Tn29) (s1 s1_1 s7 s8:Int):Option ((Tn29×Int×Int×Int×Int) ⊕ (Int ⊕ Unit)):=
 cond (decide (s8<s7)) (
 cond (inR s8 (List.length s0)) (
 let t14_1:=(List.getD s0 (Int.toNat s8) (0,(0,(0,(0,0)))))
 (j0ay (t14_1.1,(t14_1.2.1,(t14_1.2.2.1,(t14_1.2.2.2.1,t14_1.2.2.2.2)))) s1 s1_1).bind fun r16_1=>
 cond r16_1 (
 some (.inr (.inl s8))) (
 let t18_1:=(w64 (s8+1))
 some (.inl (s0,s1,s1_1,s7,t18_1)))) none) (
 some (.inr (.inr ())))
def j00j [LP] (s0:Tn29) (s1 s1_1 s7 s8:Int):Option (Int ⊕ Unit):=
 LP.lp (fun h=>j00t h.1 h.2.1 h.2.2.1 h.2.2.2.1 h.2.2.2.2) (s0,s1,s1_1,s7,s8)
theorem j02a (s0:Tn29) (s1 s1_1 s7 s8:Int):j00j s0 s1 s1_1 s7 s8=lpK (j00t s0 s1 s1_1 s7 s8) (fun h=>j00j h.1 h.2.1 h.2.2.1 h.2.2.2.1 h.2.2.2.2):=j003 _ _
def j00x [LP] (a0_s:Tn29) (a1_f a1_f_1:Int):Option (Int):=
 let t7:=(Int.ofNat (List.length a0_s))
 (j00j a0_s a1_f a1_f_1 t7 0).bind fun q0=>
 sumC q0 (fun a=>
 some a) (fun b=>
 some (-1))
def j00r [LP] (a0_s:Tn29) (a1_f a1_f_1:Int):Option (Bool):=
 (j00x a0_s a1_f a1_f_1).bind fun r7=>
 some (decide (r7≥0))
def j07K [LP] (a0_s:Tn64) (a1_person a2_t:Int):Option (Bool):=
 (j00r a0_s.2.2 a1_person a2_t).bind fun r10=>
 some r10
def j019 [LP] (n0:Int) (s13:Tn60) (b3:Tn54) (b3_1:Tn48) (b3_2:Tn26) (b3_3:Tn65) (b3_4:Tn20) (b4:ByteArray) (b4_1:Tn60) (b4_2:Tn29) (b5 b6 b7:Int):Option ((Int×Tn60×Tn54×Tn48×Tn26×Tn65×Tn20×ByteArray×Tn60×Tn29×Int×Int×Int) ⊕ ((Int×Int) ⊕ (Int×Int))):=
 cond (decide (n0≤0)) (
 some (.inr (.inl (b6,b7)))) (
 cond (decide (n0≤Int.ofNat (List.length s13))) (
 let t14_1:Int:=(n0-1)
 let t15_1:=(List.getD s13 (Int.toNat t14_1) (ByteArray.empty,(0,((0,0),(0,(0,(([]:(List Int)),(([]:Tn2),(0,0)))))))))
 (j01f ((b3,(b3_1,(b3_2,b3_3))),b3_4) (t15_1.1,(t15_1.2.1,((t15_1.2.2.1.1,t15_1.2.2.1.2),(t15_1.2.2.2.1,(t15_1.2.2.2.2.1,(t15_1.2.2.2.2.2.1,(t15_1.2.2.2.2.2.2.1,(t15_1.2.2.2.2.2.2.2.1,t15_1.2.2.2.2.2.2.2.2)))))))) b5).bind fun r19_1=>
 cond (decide (r19_1<0)) (
 some (.inl ((n0-1),s13,b3,b3_1,b3_2,b3_3,b3_4,b4,b4_1,b4_2,b5,b6,b7))) (
 (j07K (b4,(b4_1,b4_2)) r19_1 b5).bind fun r25_1=>
 cond (!r25_1) (
 some (.inr (.inr (t14_1,r19_1)))) (
 some (.inl ((n0-1),s13,b3,b3_1,b3_2,b3_3,b3_4,b4,b4_1,b4_2,b5,b6,b7))))) none)
def j02G [LP] (n0:Int) (s13:Tn60) (b3:Tn54) (b3_1:Tn48) (b3_2:Tn26) (b3_3:Tn65) (b3_4:Tn20) (b4:ByteArray) (b4_1:Tn60) (b4_2:Tn29) (b5 b6 b7:Int):Option ((Int×Int) ⊕ (Int×Int)):=
 LP.lp (fun h=>j019 h.1 h.2.1 h.2.2.1 h.2.2.2.1 h.2.2.2.2.1 h.2.2.2.2.2.1 h.2.2.2.2.2.2.1 h.2.2.2.2.2.2.2.1 h.2.2.2.2.2.2.2.2.1 h.2.2.2.2.2.2.2.2.2.1 h.2.2.2.2.2.2.2.2.2.2.1 h.2.2.2.2.2.2.2.2.2.2.2.1 h.2.2.2.2.2.2.2.2.2.2.2.2) (n0,s13,b3,b3_1,b3_2,b3_3,b3_4,b4,b4_1,b4_2,b5,b6,b7)
theorem j08p (n0:Int) (s13:Tn60) (b3:Tn54) (b3_1:Tn48) (b3_2:Tn26) (b3_3:Tn65) (b3_4:Tn20) (b4:ByteArray) (b4_1:Tn60) (b4_2:Tn29) (b5 b6 b7:Int):j02G n0 s13 b3 b3_1 b3_2 b3_3 b3_4 b4 b4_1 b4_2 b5 b6 b7=lpK (j019 n0 s13 b3 b3_1 b3_2 b3_3 b3_4 b4 b4_1 b4_2 b5 b6 b7) (fun h=>j02G h.1 h.2.1 h.2.2.1 h.2.2.2.1 h.2.2.2.2.1 h.2.2.2.2.2.1 h.2.2.2.2.2.2.1 h.2.2.2.2.2.2.2.1 h.2.2.2.2.2.2.2.2.1 h.2.2.2.2.2.2.2.2.2.1 h.2.2.2.2.2.2.2.2.2.2.1 h.2.2.2.2.2.2.2.2.2.2.2.1 h.2.2.2.2.2.2.2.2.2.2.2.2):=j003 _ _
def j02V [LP] (a0_v:Tn73) (a1_s:Tn64) (a2_t:Int):Option (Int×Int):=
 (j01G a1_s.2.1).bind fun r13=>
 (j02G (Int.ofNat (List.length r13)) r13 a0_v.1.1 a0_v.1.2.1 a0_v.1.2.2.1 a0_v.1.2.2.2 a0_v.2 a1_s.1 a1_s.2.1 a1_s.2.2 a2_t 0 0).bind fun q0=>
 sumC q0 (fun a=>
 some ((-1),(-1))) (fun b=>
 some (b.1,b.2))
def j0dE (a0_x:Tn24) (a1_t:Int):Option (Bool):=
 some (cond (decide (a0_x.2.2.2.1≤a1_t)) (decide (a1_t<a0_x.2.2.2.2)) false)
def j03Y (s1 s2:Int) (s9:Tn29) (s10 s11:Int):Option ((Int×Int×Tn29×Int×Int) ⊕ (Int)):=
 cond (decide (s11<s10)) (
 cond (inR s11 (List.length s9)) (
 let t13_1:=(List.getD s9 (Int.toNat s11) (0,(0,(0,(0,0)))))
 (j0dE (t13_1.1,(t13_1.2.1,(t13_1.2.2.1,(t13_1.2.2.2.1,t13_1.2.2.2.2)))) s2).bind fun r18_1=>
 cond (cond (!r18_1) true (t13_1.1==0)) (
 let t49_6:=(w64 (s11+1))
 some (.inl (s1,s2,s9,s10,t49_6))) (
 cond (t13_1.1==1) (
 let t49_7:=(w64 (s11+1))
 some (.inl (t13_1.2.1,s2,s9,s10,t49_7))) (
 cond (t13_1.1 != 2) (
 let t49_8:=(w64 (s11+1))
 some (.inl (s1,s2,s9,s10,t49_8))) (
 cond (s1==t13_1.2.1) (
 let t49_9:=(w64 (s11+1))
 some (.inl (t13_1.2.2.1,s2,s9,s10,t49_9))) (
 cond (s1==t13_1.2.2.1) (
 let t49_10:=(w64 (s11+1))
 some (.inl (t13_1.2.1,s2,s9,s10,t49_10))) (
 let t49_11:=(w64 (s11+1))
 some (.inl (s1,s2,s9,s10,t49_11)))))))) none) (
 some (.inr s1))
def j05s [LP] (s1 s2:Int) (s9:Tn29) (s10 s11:Int):Option (Int):=
 LP.lp (fun h=>j03Y h.1 h.2.1 h.2.2.1 h.2.2.2.1 h.2.2.2.2) (s1,s2,s9,s10,s11)
theorem j0bF (s1 s2:Int) (s9:Tn29) (s10 s11:Int):j05s s1 s2 s9 s10 s11=lpK (j03Y s1 s2 s9 s10 s11) (fun h=>j05s h.1 h.2.1 h.2.2.1 h.2.2.2.1 h.2.2.2.2):=j003 _ _
def j0bo [LP] (a0_l:Tn29) (a1_person a2_t:Int):Option (Int):=
 let t10:=(Int.ofNat (List.length a0_l))
 (j05s a1_person a2_t a0_l t10 0).bind fun q0=>
 some q0
def j09e [LP] (a0_v:Tn73) (a1_s:Tn64) (a2_t:Int):Option (Int):=
 cond (cond (decide (a2_t<0)) true (decide (a2_t>8589934592))) (
 some (-1)) (
 (j02V ((a0_v.1.1,(a0_v.1.2.1,(a0_v.1.2.2.1,a0_v.1.2.2.2))),a0_v.2) (a1_s.1,(a1_s.2.1,a1_s.2.2)) a2_t).bind fun r19=>
 (j0bo a1_s.2.2 r19.2 a2_t).bind fun r26=>
 some r26)
def j0dF [LP] (a0_c:Tn71) (a1_schedule a2_t:Int):Option (Int):=
 (duty_Of (a0_c.1,(a0_c.2.1,(a0_c.2.2.1,a0_c.2.2.2)))).bind fun r11=>
 cond (!r11.2) (
 some (-1)) (
 (j06f (a0_c.1,(a0_c.2.1,(a0_c.2.2.1,a0_c.2.2.2))) a1_schedule).bind fun r19=>
 cond (!r19) (
 some (-1)) (
 cond (inR a1_schedule (List.length a0_c.2.2.2)) (
 let t26:=(List.getD a0_c.2.2.2 (Int.toNat a1_schedule) (ByteArray.empty,(([]:Tn60),([]:Tn29))))
 (j09e ((r11.1.1.1,(r11.1.1.2.1,(r11.1.1.2.2.1,r11.1.1.2.2.2))),r11.1.2) (t26.1,(t26.2.1,t26.2.2)) a2_t).bind fun r29=>
 some r29) none))
def j06G [LP] (a0_c:Tn71) (a1_schedule a2_at:Int):Option (Int):=
 (j0dF (a0_c.1,(a0_c.2.1,(a0_c.2.2.1,a0_c.2.2.2))) a1_schedule a2_at).bind fun r10=>
 some r10
def j08q [LP] (a0_c:Tn71) (a1_schedule a2_t:Int):Option (Int×Int):=
 (j028 (a0_c.1,(a0_c.2.1,(a0_c.2.2.1,a0_c.2.2.2))) a1_schedule a2_t).bind fun r13=>
 cond (r13.2 != 0) (
 some (0,r13.2)) (
 (j06G (a0_c.1,(a0_c.2.1,(a0_c.2.2.1,a0_c.2.2.2))) a1_schedule r13.1).bind fun r22=>
 some (r22,0))
def j06H [LP]  : Option (Bool):=
 let t11:(List Int):=[0,1,2]
 (j07y (ByteArray.empty,(0,((0,0),(2,(1,(t11,(([]:Tn2),(0,0))))))))).bind fun r13=>
 let t17:Tn54:=[((ByteArray.mk #[122]),(0,([]:Tn42)))]
 let t20:Tn48:=[((ByteArray.mk #[97]),(0,(([]:Tn2),(0,(0,false))))),((ByteArray.mk #[98]),(0,(([]:Tn2),(0,(0,false)))))]
 let t23:(List Int):=[0,1,0,1,1]
 let t26:(List Int):=[0,0,0,1,1,0,1]
 let t28:Tn60:=[((ByteArray.mk #[120]),(0,((4,0),(1,(1,(t23,(([]:Tn2),(0,0)))))))),((ByteArray.mk #[121]),(0,((4,0),(1,(3,(t26,(([]:Tn2),(0,0))))))))]
 let t30:Tn65:=[((ByteArray.mk #[115]),(t28,([]:Tn29)))]
 (j034 (t17,(t20,(([]:Tn26),t30))) 0).bind fun r34=>
 let t40:=(w64 (r34.1*9))
 let t41:=(w64 (345600+t40))
 let t42:=(w64 (t41+5))
 (j028 (t17,(t20,(([]:Tn26),t30))) 0 t42).bind fun r43=>
 let t49:=(w64 (r34.1*9))
 let t50:=(w64 (345600+t49))
 let t51:=(w64 (t50+5))
 (j08q (t17,(t20,(([]:Tn26),t30))) 0 t51).bind fun r52=>
 let t68:Bool:=(cond (cond (cond (r13.2==0) (r34.2==0) false) (r43.2==0) false) (r52.2==0) false)
 let t80:Bool:=(cond (cond (cond t68 (r13.1==1814400) false) (r34.1==9072000) false) (r43.1==345605) false)
 some (cond t80 (r52.1==0) false)
def j0gB (a0_l:(List Int)):Option ((List Int)×Int):=
 some (a0_l,0)
def j002 (a0_d:(List Int)) (a0_d_1 a1_n:Int):Option (Int×(List Int)×Int):=
 let t14:=(Int.ofNat (List.length a0_d))
 cond (decide (a0_d_1≥t14)) (
 some (0,a0_d,a0_d_1)) (
 cond (decide (a1_n<1)) (
 some (0,a0_d,a0_d_1)) (
 cond (inR a0_d_1 (List.length a0_d)) (
 let t28:=(List.getD a0_d (Int.toNat a0_d_1) 0)
 cond (!(a1_n==0)) (
 let t31:=(Int.tmod t28 a1_n)
 let t36:=(w64 (a0_d_1+1))
 cond (decide (t31<0)) (
 let t43:=(w64 (t31+a1_n))
 some (t43,a0_d,t36)) (
 some (t31,a0_d,t36))) none) none))
def j012 (a0_d:(List Int)) (a0_d_1:Int) (a1_l:(List Int)):Option (Int×(List Int)×Int):=
 let t8:=(Int.ofNat (List.length a1_l))
 (j002 a0_d a0_d_1 t8).bind fun r9=>
 cond (inR r9.1 (List.length a1_l)) (
 let t10:=(List.getD a1_l (Int.toNat r9.1) 0)
 some (t10,r9.2.1,r9.2.2)) none
def j02W (a0_d:(List Int)) (a0_d_1:Int) (a1_name:ByteArray):Option (Tn52×(List Int)×Int):=
 let t10:(List Int):=[0,4,(-20),22,48,(-47)]
 (j012 a0_d a0_d_1 t10).bind fun r11=>
 (j002 r11.2.1 r11.2.2 2).bind fun r13=>
 (j002 r13.2.1 r13.2.2 3).bind fun r15=>
 let t16:=(w64 (r13.1*r15.1))
 let t17:=(w64 (r11.1+t16))
 let t18:=(w64 (900*t17))
 (j002 r15.2.1 r15.2.2 2).bind fun r21=>
 let t22:=(w64 (2025+r21.1))
 (j002 r21.2.1 r21.2.2 4).bind fun r24=>
 cond (r24.1==1) (
 let t30:=(w64 (t18+3600))
 let t36:Tn42:=[(2025,(t22,(3,(5,(6,(7200,t30)))))),(2025,(t22,(10,(5,(6,(10800,t18))))))]
 some ((a1_name,(t18,t36)),r24.2.1,r24.2.2)) (
 cond (r24.1==2) (
 (j002 r24.2.1 r24.2.2 4).bind fun r42=>
 let t43:=(w64 (1+r42.1))
 (j002 r42.2.1 r42.2.2 7).bind fun r45=>
 (j002 r45.2.1 r45.2.2 24).bind fun r47=>
 let t48:=(w64 (3600*r47.1))
 (j002 r47.2.1 r47.2.2 8).bind fun r52=>
 let t53:=(w64 (1+r52.1))
 let t54:=(w64 (1800*t53))
 let t55:=(w64 (t18+t54))
 (j002 r52.2.1 r52.2.2 2).bind fun r59=>
 let t60:=(w64 (2+r59.1))
 let t62:(List Int):=[2,3,5]
 (j012 r59.2.1 r59.2.2 t62).bind fun r63=>
 (j002 r63.2.1 r63.2.2 7).bind fun r65=>
 (j002 r65.2.1 r65.2.2 24).bind fun r67=>
 let t68:=(w64 (3600*r67.1))
 let t72:Tn42:=[(2025,(t22,(1,(t43,(r45.1,(t48,t55)))))),(2025,(t22,(t60,(r63.1,(r65.1,(t68,t18))))))]
 some ((a1_name,(t18,t72)),r67.2.1,r67.2.2)) (
 cond (r24.1==3) (
 let t79:(List Int):=[3600,(-3600),82800,(-82800),43200]
 (j012 r24.2.1 r24.2.2 t79).bind fun r80=>
 let t81:=(w64 (t18+r80.1))
 cond (cond (decide (t81>64800)) true (decide (t81<(-64800)))) (
 (j002 r80.2.1 r80.2.2 7).bind fun r89=>
 (j002 r89.2.1 r89.2.2 48).bind fun r91=>
 let t92:=(w64 (1800*r91.1))
 let t95:Tn42:=[(2026,(2026,(1,(2,(r89.1,(t92,0))))))]
 some ((a1_name,(t18,t95)),r91.2.1,r91.2.2)) (
 (j002 r80.2.1 r80.2.2 7).bind fun r89_1=>
 (j002 r89_1.2.1 r89_1.2.2 48).bind fun r91_1=>
 let t92_1:=(w64 (1800*r91_1.1))
 let t95_1:Tn42:=[(2026,(2026,(1,(2,(r89_1.1,(t92_1,t81))))))]
 some ((a1_name,(t18,t95_1)),r91_1.2.1,r91_1.2.2))) (
 some ((a1_name,(t18,([]:Tn42))),r24.2.1,r24.2.2))))
def j0cx  : Option ((List ByteArray)):=
 let t1:(List ByteArray):=[(ByteArray.mk #[97,100,97]),(ByteArray.mk #[98,111,98]),(ByteArray.mk #[99,108,101,111]),(ByteArray.mk #[100,97,110]),(ByteArray.mk #[101,118,101]),(ByteArray.mk #[102,97,121]),(ByteArray.mk #[103,117,115]),(ByteArray.mk #[104,97,108])]
 some t1
def j00S (a0_d:(List Int)) (a0_d_1 a1_n:Int):Option (Bool×(List Int)×Int):=
 (j002 a0_d a0_d_1 a1_n).bind fun r7=>
 let t9:=(w64 (a1_n-1))
 some ((r7.1==t9),r7.2.1,r7.2.2)
def j01D (s4 s5:Int) (b0:(List Int)) (b0_1:Int) (l3:Tn2):Option ((Int×Int×(List Int)×Int×Tn2) ⊕ (((List Int)×Int×Tn2))):=
 cond (decide (s5>0)) (
 (j002 b0 b0_1 30).bind fun r16_2=>
 let t17_2:=(w64 (3600*r16_2.1))
 let t18_2:=(w64 (s4+t17_2))
 (j002 r16_2.2.1 r16_2.2.2 2).bind fun r20_2=>
 let t21_2:=(w64 (60*r20_2.1))
 let t22_2:=(w64 (t18_2+t21_2))
 let t25_2:(List Int):=[3600,28800,43200,86400,61,1]
 (j012 r20_2.2.1 r20_2.2.2 t25_2).bind fun r26_2=>
 let t27_2:=(w64 (t22_2+r26_2.1))
 cond (decide (t27_2>604800)) (
 some (.inr (r26_2.2.1,r26_2.2.2,l3))) (
 let t34_2:Tn2:=[(t22_2,t27_2)]
 cond (decide (List.length l3+List.length t34_2≤sizeMax)) (
 let t35_2:Tn2:=(l3++t34_2)
 let t13_2:=(w64 (s5-1))
 some (.inl (t27_2,t13_2,r26_2.2.1,r26_2.2.2,t35_2))) none)) (
 some (.inr (b0,b0_1,l3)))
def j03M [LP] (s4 s5:Int) (b0:(List Int)) (b0_1:Int) (l3:Tn2):Option (((List Int)×Int×Tn2)):=
 LP.lp (fun h=>j01D h.1 h.2.1 h.2.2.1 h.2.2.2.1 h.2.2.2.2) (s4,s5,b0,b0_1,l3)
theorem j06d (s4 s5:Int) (b0:(List Int)) (b0_1:Int) (l3:Tn2):j03M s4 s5 b0 b0_1 l3=lpK (j01D s4 s5 b0 b0_1 l3) (fun h=>j03M h.1 h.2.1 h.2.2.1 h.2.2.2.1 h.2.2.2.2):=j003 _ _
def j02Q [LP] (a0_d:(List Int)) (a0_d_1:Int):Option (Tn2×(List Int)×Int):=
 (j002 a0_d a0_d_1 4).bind fun r9=>
 (j03M 0 r9.1 r9.2.1 r9.2.2 ([]:Tn2)).bind fun q0=>
 some (q0.2.2,q0.1,q0.2.1)
def j01Z (s4:Int) (b0:(List Int)) (b0_1:Int) (l3c0:Tn54):Option ((Int×(List Int)×Int×Tn54) ⊕ (((List Int)×Int×Tn54))):=
 cond (decide (s4>0)) (
 let t21_2:(List ByteArray):=[(ByteArray.mk #[104,101,114,101]),(ByteArray.mk #[116,104,101,114,101])]
 let t24_1:=(Int.ofNat (List.length l3c0))
 cond (inR t24_1 (List.length t21_2)) (
 let t26_2:=(List.getD t21_2 (Int.toNat t24_1) ByteArray.empty)
 (j02W b0 b0_1 t26_2).bind fun r27_2=>
 let t28_2:Tn54:=[(r27_2.1.1,(r27_2.1.2.1,r27_2.1.2.2))]
 cond (decide (List.length l3c0+List.length t28_2≤sizeMax)) (
 let t29_2:Tn54:=(l3c0++t28_2)
 let t17_2:=(w64 (s4-1))
 some (.inl (t17_2,r27_2.2.1,r27_2.2.2,t29_2))) none) none) (
 some (.inr (b0,b0_1,l3c0)))
def j04K [LP] (s4:Int) (b0:(List Int)) (b0_1:Int) (l3c0:Tn54):Option (((List Int)×Int×Tn54)):=
 LP.lp (fun h=>j01Z h.1 h.2.1 h.2.2.1 h.2.2.2) (s4,b0,b0_1,l3c0)
theorem j07a (s4:Int) (b0:(List Int)) (b0_1:Int) (l3c0:Tn54):j04K s4 b0 b0_1 l3c0=lpK (j01Z s4 b0 b0_1 l3c0) (fun h=>j04K h.1 h.2.1 h.2.2.1 h.2.2.2):=j003 _ _
def j020 [LP] (s5:Int) (b0:(List Int)) (b0_1:Int) (l3c0:Tn54) (l3c1:Tn48):Option ((Int×(List Int)×Int×Tn54×Tn48) ⊕ (((List Int)×Int×Tn54×Tn48))):=
 cond (decide (s5>0)) (
 (j0cx).bind fun r38_2=>
 let t41_1:=(Int.ofNat (List.length l3c1))
 cond (inR t41_1 (List.length r38_2)) (
 let t43_2:=(List.getD r38_2 (Int.toNat t41_1) ByteArray.empty)
 let t47_2:=(Int.ofNat (List.length l3c0))
 (j002 b0 b0_1 t47_2).bind fun r48_2=>
 (j00S r48_2.2.1 r48_2.2.2 3).bind fun r50_2=>
 (j00S r50_2.2.1 r50_2.2.2 2).bind fun r53_2=>
 cond r53_2.1 (
 (j02Q r53_2.2.1 r53_2.2.2).bind fun r55_2=>
 let t58_4:(List Int):=[0,40,100,12]
 (j012 r55_2.2.1 r55_2.2.2 t58_4).bind fun r59_4=>
 let t60_4:=(w64 (3600*r59_4.1))
 let t62_4:(List Int):=[0,11,24,1]
 (j012 r59_4.2.1 r59_4.2.2 t62_4).bind fun r63_4=>
 let t64_4:=(w64 (3600*r63_4.1))
 let t70_4:Tn48:=[(t43_2,(r48_2.1,(r55_2.1,(t60_4,(t64_4,r50_2.1)))))]
 cond (decide (List.length l3c1+List.length t70_4≤sizeMax)) (
 let t71_4:Tn48:=(l3c1++t70_4)
 let t37_4:=(w64 (s5-1))
 some (.inl (t37_4,r63_4.2.1,r63_4.2.2,l3c0,t71_4))) none) (
 let t58_5:(List Int):=[0,40,100,12]
 (j012 r53_2.2.1 r53_2.2.2 t58_5).bind fun r59_5=>
 let t60_5:=(w64 (3600*r59_5.1))
 let t62_5:(List Int):=[0,11,24,1]
 (j012 r59_5.2.1 r59_5.2.2 t62_5).bind fun r63_5=>
 let t64_5:=(w64 (3600*r63_5.1))
 let t70_5:Tn48:=[(t43_2,(r48_2.1,(([]:Tn2),(t60_5,(t64_5,r50_2.1)))))]
 cond (decide (List.length l3c1+List.length t70_5≤sizeMax)) (
 let t71_5:Tn48:=(l3c1++t70_5)
 let t37_5:=(w64 (s5-1))
 some (.inl (t37_5,r63_5.2.1,r63_5.2.2,l3c0,t71_5))) none)) none) (
 some (.inr (b0,b0_1,l3c0,l3c1)))
def j04L [LP] (s5:Int) (b0:(List Int)) (b0_1:Int) (l3c0:Tn54) (l3c1:Tn48):Option (((List Int)×Int×Tn54×Tn48)):=
 LP.lp (fun h=>j020 h.1 h.2.1 h.2.2.1 h.2.2.2.1 h.2.2.2.2) (s5,b0,b0_1,l3c0,l3c1)
theorem j07b (s5:Int) (b0:(List Int)) (b0_1:Int) (l3c0:Tn54) (l3c1:Tn48):j04L s5 b0 b0_1 l3c0 l3c1=lpK (j020 s5 b0 b0_1 l3c0 l3c1) (fun h=>j04L h.1 h.2.1 h.2.2.1 h.2.2.2.1 h.2.2.2.2):=j003 _ _
def j021 (s7 s9 s10:Int) (b0:(List Int)) (b0_1:Int) (b8:ByteArray) (b8_1:Int) (l3c0:Tn54) (l3c1:Tn48) (l3c2:Tn26) (l8c2:(List Int)):Option ((Int×Int×Int×(List Int)×Int×ByteArray×Int×Tn54×Tn48×Tn26×(List Int)) ⊕ ((Int×(List Int)×Int×ByteArray×Int×Tn54×Tn48×Tn26×(List Int)))):=
 cond (decide (s9>0)) (
 (j002 b0 b0_1 6).bind fun r93_5=>
 let t94_5:=(w64 (1+r93_5.1))
 let t95_5:=(w64 (s10+t94_5))
 cond (decide (List.length l8c2+List.length [t95_5]≤sizeMax)) (
 let t100_5:(List Int):=(l8c2++[t95_5])
 let t90_5:=(w64 (s9-1))
 some (.inl (s7,t90_5,t95_5,r93_5.2.1,r93_5.2.2,b8,b8_1,l3c0,l3c1,l3c2,t100_5))) none) (
 some (.inr (s7,b0,b0_1,b8,b8_1,l3c0,l3c1,l3c2,l8c2)))
def j04M [LP] (s7 s9 s10:Int) (b0:(List Int)) (b0_1:Int) (b8:ByteArray) (b8_1:Int) (l3c0:Tn54) (l3c1:Tn48) (l3c2:Tn26) (l8c2:(List Int)):Option ((Int×(List Int)×Int×ByteArray×Int×Tn54×Tn48×Tn26×(List Int))):=
 LP.lp (fun h=>j021 h.1 h.2.1 h.2.2.1 h.2.2.2.1 h.2.2.2.2.1 h.2.2.2.2.2.1 h.2.2.2.2.2.2.1 h.2.2.2.2.2.2.2.1 h.2.2.2.2.2.2.2.2.1 h.2.2.2.2.2.2.2.2.2.1 h.2.2.2.2.2.2.2.2.2.2) (s7,s9,s10,b0,b0_1,b8,b8_1,l3c0,l3c1,l3c2,l8c2)
theorem j07c (s7 s9 s10:Int) (b0:(List Int)) (b0_1:Int) (b8:ByteArray) (b8_1:Int) (l3c0:Tn54) (l3c1:Tn48) (l3c2:Tn26) (l8c2:(List Int)):j04M s7 s9 s10 b0 b0_1 b8 b8_1 l3c0 l3c1 l3c2 l8c2=lpK (j021 s7 s9 s10 b0 b0_1 b8 b8_1 l3c0 l3c1 l3c2 l8c2) (fun h=>j04M h.1 h.2.1 h.2.2.1 h.2.2.2.1 h.2.2.2.2.1 h.2.2.2.2.2.1 h.2.2.2.2.2.2.1 h.2.2.2.2.2.2.2.1 h.2.2.2.2.2.2.2.2.1 h.2.2.2.2.2.2.2.2.2.1 h.2.2.2.2.2.2.2.2.2.2):=j003 _ _
def j01u [LP] (s7:Int) (b0:(List Int)) (b0_1:Int) (l3c0:Tn54) (l3c1:Tn48) (l3c2:Tn26):Option ((Int×(List Int)×Int×Tn54×Tn48×Tn26) ⊕ (((List Int)×Int×Tn54×Tn48×Tn26))):=
 cond (decide (s7>0)) (
 let t82_2:=(Int.ofNat (List.length l3c0))
 (j002 b0 b0_1 t82_2).bind fun r83_2=>
 (j002 r83_2.2.1 r83_2.2.2 4).bind fun r86_2=>
 (j04M s7 r86_2.1 20454 r86_2.2.1 r86_2.2.2 (ByteArray.mk #[100,97,121,115]) r83_2.1 l3c0 l3c1 l3c2 ([]:(List Int))).bind fun q6_2=>
 let t105_2:Tn26:=[(q6_2.2.2.2.1,(q6_2.2.2.2.2.1,q6_2.2.2.2.2.2.2.2.2))]
 cond (decide (List.length q6_2.2.2.2.2.2.2.2.1+List.length t105_2≤sizeMax)) (
 let t106_2:Tn26:=(q6_2.2.2.2.2.2.2.2.1++t105_2)
 let t78_2:=(w64 (q6_2.1-1))
 some (.inl (t78_2,q6_2.2.1,q6_2.2.2.1,q6_2.2.2.2.2.2.1,q6_2.2.2.2.2.2.2.1,t106_2))) none) (
 some (.inr (b0,b0_1,l3c0,l3c1,l3c2)))
def j04N [LP] (s7:Int) (b0:(List Int)) (b0_1:Int) (l3c0:Tn54) (l3c1:Tn48) (l3c2:Tn26):Option (((List Int)×Int×Tn54×Tn48×Tn26)):=
 LP.lp (fun h=>j01u h.1 h.2.1 h.2.2.1 h.2.2.2.1 h.2.2.2.2.1 h.2.2.2.2.2) (s7,b0,b0_1,l3c0,l3c1,l3c2)
theorem j04W (s7:Int) (b0:(List Int)) (b0_1:Int) (l3c0:Tn54) (l3c1:Tn48) (l3c2:Tn26):j04N s7 b0 b0_1 l3c0 l3c1 l3c2=lpK (j01u s7 b0 b0_1 l3c0 l3c1 l3c2) (fun h=>j04N h.1 h.2.1 h.2.2.1 h.2.2.2.1 h.2.2.2.2.1 h.2.2.2.2.2):=j003 _ _
def j06r [LP] (a0_d:(List Int)) (a0_d_1:Int):Option (Tn71×(List Int)×Int):=
 (j002 a0_d a0_d_1 2).bind fun r12=>
 let t13:=(w64 (1+r12.1))
 (j04K t13 r12.2.1 r12.2.2 ([]:Tn54)).bind fun q0=>
 (j002 q0.1 q0.2.1 4).bind fun r32=>
 let t33:=(w64 (1+r32.1))
 (j04L t33 r32.2.1 r32.2.2 q0.2.2 ([]:Tn48)).bind fun q2=>
 (j002 q2.1 q2.2.1 2).bind fun r74=>
 (j04N r74.1 r74.2.1 r74.2.2 q2.2.2.1 q2.2.2.2 ([]:Tn26)).bind fun q4=>
 some ((q4.2.2.1,(q4.2.2.2.1,(q4.2.2.2.2,([]:Tn65)))),q4.1,q4.2.1)
def j022 (s8:Int) (b0:(List Int)) (b0_1:Int) (b4:Tn54) (b4_1:Tn48) (b4_2:Tn26) (b4_3:Tn65) (b6:ByteArray) (b6_1 b6_2 b6_3 b6_4 b6_5 b6_6 b6_7:Int) (b7:ByteArray) (b7_1 b7_2 b7_3 b7_4 b7_5 b7_6 b7_7:Int) (l7c6:(List Int)):Option ((Int×(List Int)×Int×Tn54×Tn48×Tn26×Tn65×ByteArray×Int×Int×Int×Int×Int×Int×Int×ByteArray×Int×Int×Int×Int×Int×Int×Int×(List Int)) ⊕ (((List Int)×Int×Tn54×Tn48×Tn26×Tn65×ByteArray×Int×Int×Int×Int×Int×Int×Int×ByteArray×Int×Int×Int×Int×Int×Int×Int×(List Int)))):=
 cond (decide (s8>0)) (
 let t48_2:=(Int.ofNat (List.length b4_1))
 (j002 b0 b0_1 t48_2).bind fun r49_2=>
 cond (decide (List.length l7c6+List.length [r49_2.1]≤sizeMax)) (
 let t51_2:(List Int):=(l7c6++[r49_2.1])
 let t42_2:=(w64 (s8-1))
 some (.inl (t42_2,r49_2.2.1,r49_2.2.2,b4,b4_1,b4_2,b4_3,b6,b6_1,b6_2,b6_3,b6_4,b6_5,b6_6,b6_7,b7,b7_1,b7_2,b7_3,b7_4,b7_5,b7_6,b7_7,t51_2))) none) (
 some (.inr (b0,b0_1,b4,b4_1,b4_2,b4_3,b6,b6_1,b6_2,b6_3,b6_4,b6_5,b6_6,b6_7,b7,b7_1,b7_2,b7_3,b7_4,b7_5,b7_6,b7_7,l7c6)))
def j03r [LP] (s8:Int) (b0:(List Int)) (b0_1:Int) (b4:Tn54) (b4_1:Tn48) (b4_2:Tn26) (b4_3:Tn65) (b6:ByteArray) (b6_1 b6_2 b6_3 b6_4 b6_5 b6_6 b6_7:Int) (b7:ByteArray) (b7_1 b7_2 b7_3 b7_4 b7_5 b7_6 b7_7:Int) (l7c6:(List Int)):Option (((List Int)×Int×Tn54×Tn48×Tn26×Tn65×ByteArray×Int×Int×Int×Int×Int×Int×Int×ByteArray×Int×Int×Int×Int×Int×Int×Int×(List Int))):=
 LP.lp (fun h=>j022 h.1 h.2.1 h.2.2.1 h.2.2.2.1 h.2.2.2.2.1 h.2.2.2.2.2.1 h.2.2.2.2.2.2.1 h.2.2.2.2.2.2.2.1 h.2.2.2.2.2.2.2.2.1 h.2.2.2.2.2.2.2.2.2.1 h.2.2.2.2.2.2.2.2.2.2.1 h.2.2.2.2.2.2.2.2.2.2.2.1 h.2.2.2.2.2.2.2.2.2.2.2.2.1 h.2.2.2.2.2.2.2.2.2.2.2.2.2.1 h.2.2.2.2.2.2.2.2.2.2.2.2.2.2.1 h.2.2.2.2.2.2.2.2.2.2.2.2.2.2.2.1 h.2.2.2.2.2.2.2.2.2.2.2.2.2.2.2.2.1 h.2.2.2.2.2.2.2.2.2.2.2.2.2.2.2.2.2.1 h.2.2.2.2.2.2.2.2.2.2.2.2.2.2.2.2.2.2.1 h.2.2.2.2.2.2.2.2.2.2.2.2.2.2.2.2.2.2.2.1 h.2.2.2.2.2.2.2.2.2.2.2.2.2.2.2.2.2.2.2.2.1 h.2.2.2.2.2.2.2.2.2.2.2.2.2.2.2.2.2.2.2.2.2.1 h.2.2.2.2.2.2.2.2.2.2.2.2.2.2.2.2.2.2.2.2.2.2.1 h.2.2.2.2.2.2.2.2.2.2.2.2.2.2.2.2.2.2.2.2.2.2.2) (s8,b0,b0_1,b4,b4_1,b4_2,b4_3,b6,b6_1,b6_2,b6_3,b6_4,b6_5,b6_6,b6_7,b7,b7_1,b7_2,b7_3,b7_4,b7_5,b7_6,b7_7,l7c6)
theorem j07d (s8:Int) (b0:(List Int)) (b0_1:Int) (b4:Tn54) (b4_1:Tn48) (b4_2:Tn26) (b4_3:Tn65) (b6:ByteArray) (b6_1 b6_2 b6_3 b6_4 b6_5 b6_6 b6_7:Int) (b7:ByteArray) (b7_1 b7_2 b7_3 b7_4 b7_5 b7_6 b7_7:Int) (l7c6:(List Int)):j03r s8 b0 b0_1 b4 b4_1 b4_2 b4_3 b6 b6_1 b6_2 b6_3 b6_4 b6_5 b6_6 b6_7 b7 b7_1 b7_2 b7_3 b7_4 b7_5 b7_6 b7_7 l7c6=lpK (j022 s8 b0 b0_1 b4 b4_1 b4_2 b4_3 b6 b6_1 b6_2 b6_3 b6_4 b6_5 b6_6 b6_7 b7 b7_1 b7_2 b7_3 b7_4 b7_5 b7_6 b7_7 l7c6) (fun h=>j03r h.1 h.2.1 h.2.2.1 h.2.2.2.1 h.2.2.2.2.1 h.2.2.2.2.2.1 h.2.2.2.2.2.2.1 h.2.2.2.2.2.2.2.1 h.2.2.2.2.2.2.2.2.1 h.2.2.2.2.2.2.2.2.2.1 h.2.2.2.2.2.2.2.2.2.2.1 h.2.2.2.2.2.2.2.2.2.2.2.1 h.2.2.2.2.2.2.2.2.2.2.2.2.1 h.2.2.2.2.2.2.2.2.2.2.2.2.2.1 h.2.2.2.2.2.2.2.2.2.2.2.2.2.2.1 h.2.2.2.2.2.2.2.2.2.2.2.2.2.2.2.1 h.2.2.2.2.2.2.2.2.2.2.2.2.2.2.2.2.1 h.2.2.2.2.2.2.2.2.2.2.2.2.2.2.2.2.2.1 h.2.2.2.2.2.2.2.2.2.2.2.2.2.2.2.2.2.2.1 h.2.2.2.2.2.2.2.2.2.2.2.2.2.2.2.2.2.2.2.1 h.2.2.2.2.2.2.2.2.2.2.2.2.2.2.2.2.2.2.2.2.1 h.2.2.2.2.2.2.2.2.2.2.2.2.2.2.2.2.2.2.2.2.2.1 h.2.2.2.2.2.2.2.2.2.2.2.2.2.2.2.2.2.2.2.2.2.2.1 h.2.2.2.2.2.2.2.2.2.2.2.2.2.2.2.2.2.2.2.2.2.2.2):=j003 _ _
def j06s [LP] (a0_d:(List Int)) (a0_d_1:Int) (a1_c:Tn71) (a2_name:ByteArray):Option (Tn59×(List Int)×Int):=
 let t13:=(Int.ofNat (List.length a1_c.1))
 (j002 a0_d a0_d_1 t13).bind fun r14=>
 (j002 r14.2.1 r14.2.2 6).bind fun r16=>
 let t17:=(w64 (20454+r16.1))
 let t18:=(w64 (t17-2))
 let t20:(List Int):=[0,32400,7200,9000,79200,1]
 (j012 r16.2.1 r16.2.2 t20).bind fun r21=>
 (j002 r21.2.1 r21.2.2 3).bind fun r24=>
 (j002 r24.2.1 r24.2.2 2).bind fun r26=>
 let t27:=(w64 (1+r26.1))
 cond (r24.1==0) (
 let t33:(List Int):=[6,8,12,24,23,49]
 (j012 r26.2.1 r26.2.2 t33).bind fun r34=>
 (j002 r34.2.1 r34.2.2 3).bind fun r37=>
 let t38:=(w64 (1+r37.1))
 (j03r t38 r37.2.1 r37.2.2 a1_c.1 a1_c.2.1 a1_c.2.2.1 a1_c.2.2.2 ByteArray.empty 0 0 0 0 0 0 0 a2_name r14.1 t18 r21.1 r24.1 r34.1 0 0 ([]:(List Int))).bind fun q0=>
 (j00S q0.1 q0.2.1 2).bind fun r54=>
 cond r54.1 (
 (j02Q r54.2.1 r54.2.2).bind fun r56=>
 (j00S r56.2.1 r56.2.2 4).bind fun r59=>
 let t63:=(Int.ofNat (List.length q0.2.2.2.2.1))
 cond (cond r59.1 (decide (t63>0)) false) (
 let t69:=(Int.ofNat (List.length q0.2.2.2.2.1))
 (j002 r59.2.1 r59.2.2 t69).bind fun r70=>
 (j002 r70.2.1 r70.2.2 2).bind fun r72=>
 let t73:=(w64 (1+r72.1))
 some ((q0.2.2.2.2.2.2.2.2.2.2.2.2.2.2.1,(q0.2.2.2.2.2.2.2.2.2.2.2.2.2.2.2.1,((q0.2.2.2.2.2.2.2.2.2.2.2.2.2.2.2.2.1,q0.2.2.2.2.2.2.2.2.2.2.2.2.2.2.2.2.2.1),(q0.2.2.2.2.2.2.2.2.2.2.2.2.2.2.2.2.2.2.1,(q0.2.2.2.2.2.2.2.2.2.2.2.2.2.2.2.2.2.2.2.1,(q0.2.2.2.2.2.2.2.2.2.2.2.2.2.2.2.2.2.2.2.2.2.2,(r56.1,(r70.1,t73)))))))),r72.2.1,r72.2.2)) (
 some ((q0.2.2.2.2.2.2.2.2.2.2.2.2.2.2.1,(q0.2.2.2.2.2.2.2.2.2.2.2.2.2.2.2.1,((q0.2.2.2.2.2.2.2.2.2.2.2.2.2.2.2.2.1,q0.2.2.2.2.2.2.2.2.2.2.2.2.2.2.2.2.2.1),(q0.2.2.2.2.2.2.2.2.2.2.2.2.2.2.2.2.2.2.1,(q0.2.2.2.2.2.2.2.2.2.2.2.2.2.2.2.2.2.2.2.1,(q0.2.2.2.2.2.2.2.2.2.2.2.2.2.2.2.2.2.2.2.2.2.2,(r56.1,(q0.2.2.2.2.2.2.2.2.2.2.2.2.2.2.2.2.2.2.2.2.1,q0.2.2.2.2.2.2.2.2.2.2.2.2.2.2.2.2.2.2.2.2.2.1)))))))),r59.2.1,r59.2.2))) (
 (j00S r54.2.1 r54.2.2 4).bind fun r59_1=>
 let t63_1:=(Int.ofNat (List.length q0.2.2.2.2.1))
 cond (cond r59_1.1 (decide (t63_1>0)) false) (
 let t69_1:=(Int.ofNat (List.length q0.2.2.2.2.1))
 (j002 r59_1.2.1 r59_1.2.2 t69_1).bind fun r70_1=>
 (j002 r70_1.2.1 r70_1.2.2 2).bind fun r72_1=>
 let t73_1:=(w64 (1+r72_1.1))
 some ((q0.2.2.2.2.2.2.2.2.2.2.2.2.2.2.1,(q0.2.2.2.2.2.2.2.2.2.2.2.2.2.2.2.1,((q0.2.2.2.2.2.2.2.2.2.2.2.2.2.2.2.2.1,q0.2.2.2.2.2.2.2.2.2.2.2.2.2.2.2.2.2.1),(q0.2.2.2.2.2.2.2.2.2.2.2.2.2.2.2.2.2.2.1,(q0.2.2.2.2.2.2.2.2.2.2.2.2.2.2.2.2.2.2.2.1,(q0.2.2.2.2.2.2.2.2.2.2.2.2.2.2.2.2.2.2.2.2.2.2,(([]:Tn2),(r70_1.1,t73_1)))))))),r72_1.2.1,r72_1.2.2)) (
 some ((q0.2.2.2.2.2.2.2.2.2.2.2.2.2.2.1,(q0.2.2.2.2.2.2.2.2.2.2.2.2.2.2.2.1,((q0.2.2.2.2.2.2.2.2.2.2.2.2.2.2.2.2.1,q0.2.2.2.2.2.2.2.2.2.2.2.2.2.2.2.2.2.1),(q0.2.2.2.2.2.2.2.2.2.2.2.2.2.2.2.2.2.2.1,(q0.2.2.2.2.2.2.2.2.2.2.2.2.2.2.2.2.2.2.2.1,(q0.2.2.2.2.2.2.2.2.2.2.2.2.2.2.2.2.2.2.2.2.2.2,(([]:Tn2),(q0.2.2.2.2.2.2.2.2.2.2.2.2.2.2.2.2.2.2.2.2.1,q0.2.2.2.2.2.2.2.2.2.2.2.2.2.2.2.2.2.2.2.2.2.1)))))))),r59_1.2.1,r59_1.2.2)))) (
 (j002 r26.2.1 r26.2.2 3).bind fun r37_1=>
 let t38_1:=(w64 (1+r37_1.1))
 (j03r t38_1 r37_1.2.1 r37_1.2.2 a1_c.1 a1_c.2.1 a1_c.2.2.1 a1_c.2.2.2 ByteArray.empty 0 0 0 0 0 0 0 a2_name r14.1 t18 r21.1 r24.1 t27 0 0 ([]:(List Int))).bind fun q0_1=>
 (j00S q0_1.1 q0_1.2.1 2).bind fun r54_1=>
 cond r54_1.1 (
 (j02Q r54_1.2.1 r54_1.2.2).bind fun r56_1=>
 (j00S r56_1.2.1 r56_1.2.2 4).bind fun r59_2=>
 let t63_2:=(Int.ofNat (List.length q0_1.2.2.2.2.1))
 cond (cond r59_2.1 (decide (t63_2>0)) false) (
 let t69_2:=(Int.ofNat (List.length q0_1.2.2.2.2.1))
 (j002 r59_2.2.1 r59_2.2.2 t69_2).bind fun r70_2=>
 (j002 r70_2.2.1 r70_2.2.2 2).bind fun r72_2=>
 let t73_2:=(w64 (1+r72_2.1))
 some ((q0_1.2.2.2.2.2.2.2.2.2.2.2.2.2.2.1,(q0_1.2.2.2.2.2.2.2.2.2.2.2.2.2.2.2.1,((q0_1.2.2.2.2.2.2.2.2.2.2.2.2.2.2.2.2.1,q0_1.2.2.2.2.2.2.2.2.2.2.2.2.2.2.2.2.2.1),(q0_1.2.2.2.2.2.2.2.2.2.2.2.2.2.2.2.2.2.2.1,(q0_1.2.2.2.2.2.2.2.2.2.2.2.2.2.2.2.2.2.2.2.1,(q0_1.2.2.2.2.2.2.2.2.2.2.2.2.2.2.2.2.2.2.2.2.2.2,(r56_1.1,(r70_2.1,t73_2)))))))),r72_2.2.1,r72_2.2.2)) (
 some ((q0_1.2.2.2.2.2.2.2.2.2.2.2.2.2.2.1,(q0_1.2.2.2.2.2.2.2.2.2.2.2.2.2.2.2.1,((q0_1.2.2.2.2.2.2.2.2.2.2.2.2.2.2.2.2.1,q0_1.2.2.2.2.2.2.2.2.2.2.2.2.2.2.2.2.2.1),(q0_1.2.2.2.2.2.2.2.2.2.2.2.2.2.2.2.2.2.2.1,(q0_1.2.2.2.2.2.2.2.2.2.2.2.2.2.2.2.2.2.2.2.1,(q0_1.2.2.2.2.2.2.2.2.2.2.2.2.2.2.2.2.2.2.2.2.2.2,(r56_1.1,(q0_1.2.2.2.2.2.2.2.2.2.2.2.2.2.2.2.2.2.2.2.2.1,q0_1.2.2.2.2.2.2.2.2.2.2.2.2.2.2.2.2.2.2.2.2.2.1)))))))),r59_2.2.1,r59_2.2.2))) (
 (j00S r54_1.2.1 r54_1.2.2 4).bind fun r59_3=>
 let t63_3:=(Int.ofNat (List.length q0_1.2.2.2.2.1))
 cond (cond r59_3.1 (decide (t63_3>0)) false) (
 let t69_3:=(Int.ofNat (List.length q0_1.2.2.2.2.1))
 (j002 r59_3.2.1 r59_3.2.2 t69_3).bind fun r70_3=>
 (j002 r70_3.2.1 r70_3.2.2 2).bind fun r72_3=>
 let t73_3:=(w64 (1+r72_3.1))
 some ((q0_1.2.2.2.2.2.2.2.2.2.2.2.2.2.2.1,(q0_1.2.2.2.2.2.2.2.2.2.2.2.2.2.2.2.1,((q0_1.2.2.2.2.2.2.2.2.2.2.2.2.2.2.2.2.1,q0_1.2.2.2.2.2.2.2.2.2.2.2.2.2.2.2.2.2.1),(q0_1.2.2.2.2.2.2.2.2.2.2.2.2.2.2.2.2.2.2.1,(q0_1.2.2.2.2.2.2.2.2.2.2.2.2.2.2.2.2.2.2.2.1,(q0_1.2.2.2.2.2.2.2.2.2.2.2.2.2.2.2.2.2.2.2.2.2.2,(([]:Tn2),(r70_3.1,t73_3)))))))),r72_3.2.1,r72_3.2.2)) (
 some ((q0_1.2.2.2.2.2.2.2.2.2.2.2.2.2.2.1,(q0_1.2.2.2.2.2.2.2.2.2.2.2.2.2.2.2.1,((q0_1.2.2.2.2.2.2.2.2.2.2.2.2.2.2.2.2.1,q0_1.2.2.2.2.2.2.2.2.2.2.2.2.2.2.2.2.2.1),(q0_1.2.2.2.2.2.2.2.2.2.2.2.2.2.2.2.2.2.2.1,(q0_1.2.2.2.2.2.2.2.2.2.2.2.2.2.2.2.2.2.2.2.1,(q0_1.2.2.2.2.2.2.2.2.2.2.2.2.2.2.2.2.2.2.2.2.2.2,(([]:Tn2),(q0_1.2.2.2.2.2.2.2.2.2.2.2.2.2.2.2.2.2.2.2.2.1,q0_1.2.2.2.2.2.2.2.2.2.2.2.2.2.2.2.2.2.2.2.2.2.1)))))))),r59_3.2.1,r59_3.2.2))))
def j05l (a0_d:(List Int)) (a0_d_1:Int):Option (Int×(List Int)×Int):=
 (j002 a0_d a0_d_1 576).bind fun r5=>
 let t6:=(w64 (3600*r5.1))
 let t7:=(w64 (1767139200+t6))
 (j00S r5.2.1 r5.2.2 3).bind fun r9=>
 cond r9.1 (
 let t12:(List Int):=[(-1),1,1800,3599]
 (j012 r9.2.1 r9.2.2 t12).bind fun r13=>
 let t14:=(w64 (t7+r13.1))
 some (t14,r13.2.1,r13.2.2)) (
 some (t7,r9.2.1,r9.2.2))
def j07j (a0_d:(List Int)) (a0_d_1:Int) (a1_c:Tn71):Option (Tn24×(List Int)×Int):=
 let t9:=(Int.ofNat (List.length a1_c.2.1))
 (j002 a0_d a0_d_1 3).bind fun r11=>
 (j002 r11.2.1 r11.2.2 t9).bind fun r14=>
 (j05l r14.2.1 r14.2.2).bind fun r16=>
 let t21:(List Int):=[3600,86400,7,259200,40000]
 (j012 r16.2.1 r16.2.2 t21).bind fun r22=>
 let t23:=(w64 (r16.1+r22.1))
 cond (r11.1==2) (
 cond (decide (t9<2)) (
 some ((0,(r14.1,(0,(r16.1,t23)))),r22.2.1,r22.2.2)) (
 let t34:=(w64 (r14.1+1))
 let t37:=(w64 (t9-1))
 (j002 r22.2.1 r22.2.2 t37).bind fun r38=>
 let t39:=(w64 (t34+r38.1))
 cond (!(t9==0)) (
 let t41:=(Int.tmod t39 t9)
 cond (r11.1==1) (
 (j00S r38.2.1 r38.2.2 4).bind fun r48=>
 cond r48.1 (
 some ((r11.1,((-1),(t41,(r16.1,t23)))),r48.2.1,r48.2.2)) (
 some ((r11.1,(r14.1,(t41,(r16.1,t23)))),r48.2.1,r48.2.2))) (
 some ((r11.1,(r14.1,(t41,(r16.1,t23)))),r38.2.1,r38.2.2))) none)) (
 cond (r11.1==1) (
 (j00S r22.2.1 r22.2.2 4).bind fun r48_1=>
 cond r48_1.1 (
 some ((r11.1,((-1),(0,(r16.1,t23)))),r48_1.2.1,r48_1.2.2)) (
 some ((r11.1,(r14.1,(0,(r16.1,t23)))),r48_1.2.1,r48_1.2.2))) (
 some ((r11.1,(r14.1,(0,(r16.1,t23)))),r22.2.1,r22.2.2)))
def j01R [LP] (s6 s8:Int) (b0:(List Int)) (b0_1:Int) (b5:Tn54) (b5_1:Tn48) (b5_2:Tn26) (b7:ByteArray) (l5c3:Tn65) (l7c1:Tn60):Option ((Int×Int×(List Int)×Int×Tn54×Tn48×Tn26×ByteArray×Tn65×Tn60) ⊕ ((Int×(List Int)×Int×Tn54×Tn48×Tn26×ByteArray×Tn65×Tn60))):=
 cond (decide (s8>0)) (
 (j0cx).bind fun r38_8=>
 let t41_5:=(Int.ofNat (List.length l7c1))
 cond (inR t41_5 (List.length r38_8)) (
 let t43_8:=(List.getD r38_8 (Int.toNat t41_5) ByteArray.empty)
 (j06s b0 b0_1 (b5,(b5_1,(b5_2,l5c3))) t43_8).bind fun r44_8=>
 let t45_8:Tn60:=[(r44_8.1.1,(r44_8.1.2.1,((r44_8.1.2.2.1.1,r44_8.1.2.2.1.2),(r44_8.1.2.2.2.1,(r44_8.1.2.2.2.2.1,(r44_8.1.2.2.2.2.2.1,(r44_8.1.2.2.2.2.2.2.1,(r44_8.1.2.2.2.2.2.2.2.1,r44_8.1.2.2.2.2.2.2.2.2))))))))]
 cond (decide (List.length l7c1+List.length t45_8≤sizeMax)) (
 let t46_8:Tn60:=(l7c1++t45_8)
 let t33_8:=(w64 (s8-1))
 some (.inl (s6,t33_8,r44_8.2.1,r44_8.2.2,b5,b5_1,b5_2,b7,l5c3,t46_8))) none) none) (
 some (.inr (s6,b0,b0_1,b5,b5_1,b5_2,b7,l5c3,l7c1)))
def j02X [LP] (s6 s8:Int) (b0:(List Int)) (b0_1:Int) (b5:Tn54) (b5_1:Tn48) (b5_2:Tn26) (b7:ByteArray) (l5c3:Tn65) (l7c1:Tn60):Option ((Int×(List Int)×Int×Tn54×Tn48×Tn26×ByteArray×Tn65×Tn60)):=
 LP.lp (fun h=>j01R h.1 h.2.1 h.2.2.1 h.2.2.2.1 h.2.2.2.2.1 h.2.2.2.2.2.1 h.2.2.2.2.2.2.1 h.2.2.2.2.2.2.2.1 h.2.2.2.2.2.2.2.2.1 h.2.2.2.2.2.2.2.2.2) (s6,s8,b0,b0_1,b5,b5_1,b5_2,b7,l5c3,l7c1)
theorem j06I (s6 s8:Int) (b0:(List Int)) (b0_1:Int) (b5:Tn54) (b5_1:Tn48) (b5_2:Tn26) (b7:ByteArray) (l5c3:Tn65) (l7c1:Tn60):j02X s6 s8 b0 b0_1 b5 b5_1 b5_2 b7 l5c3 l7c1=lpK (j01R s6 s8 b0 b0_1 b5 b5_1 b5_2 b7 l5c3 l7c1) (fun h=>j02X h.1 h.2.1 h.2.2.1 h.2.2.2.1 h.2.2.2.2.1 h.2.2.2.2.2.1 h.2.2.2.2.2.2.1 h.2.2.2.2.2.2.2.1 h.2.2.2.2.2.2.2.2.1 h.2.2.2.2.2.2.2.2.2):=j003 _ _
def j01S (s6 s9:Int) (b0:(List Int)) (b0_1:Int) (b5:Tn54) (b5_1:Tn48) (b5_2:Tn26) (b7:ByteArray) (l5c3:Tn65) (l7c1:Tn60) (l7c2:Tn29):Option ((Int×Int×(List Int)×Int×Tn54×Tn48×Tn26×ByteArray×Tn65×Tn60×Tn29) ⊕ ((Int×(List Int)×Int×Tn54×Tn48×Tn26×ByteArray×Tn65×Tn60×Tn29))):=
 cond (decide (s9>0)) (
 (j07j b0 b0_1 (b5,(b5_1,(b5_2,l5c3)))).bind fun r58_8=>
 let t59_8:Tn29:=[(r58_8.1.1,(r58_8.1.2.1,(r58_8.1.2.2.1,(r58_8.1.2.2.2.1,r58_8.1.2.2.2.2))))]
 cond (decide (List.length l7c2+List.length t59_8≤sizeMax)) (
 let t60_8:Tn29:=(l7c2++t59_8)
 let t53_8:=(w64 (s9-1))
 some (.inl (s6,t53_8,r58_8.2.1,r58_8.2.2,b5,b5_1,b5_2,b7,l5c3,l7c1,t60_8))) none) (
 some (.inr (s6,b0,b0_1,b5,b5_1,b5_2,b7,l5c3,l7c1,l7c2)))
def j04g [LP] (s6 s9:Int) (b0:(List Int)) (b0_1:Int) (b5:Tn54) (b5_1:Tn48) (b5_2:Tn26) (b7:ByteArray) (l5c3:Tn65) (l7c1:Tn60) (l7c2:Tn29):Option ((Int×(List Int)×Int×Tn54×Tn48×Tn26×ByteArray×Tn65×Tn60×Tn29)):=
 LP.lp (fun h=>j01S h.1 h.2.1 h.2.2.1 h.2.2.2.1 h.2.2.2.2.1 h.2.2.2.2.2.1 h.2.2.2.2.2.2.1 h.2.2.2.2.2.2.2.1 h.2.2.2.2.2.2.2.2.1 h.2.2.2.2.2.2.2.2.2.1 h.2.2.2.2.2.2.2.2.2.2) (s6,s9,b0,b0_1,b5,b5_1,b5_2,b7,l5c3,l7c1,l7c2)
theorem j06J (s6 s9:Int) (b0:(List Int)) (b0_1:Int) (b5:Tn54) (b5_1:Tn48) (b5_2:Tn26) (b7:ByteArray) (l5c3:Tn65) (l7c1:Tn60) (l7c2:Tn29):j04g s6 s9 b0 b0_1 b5 b5_1 b5_2 b7 l5c3 l7c1 l7c2=lpK (j01S s6 s9 b0 b0_1 b5 b5_1 b5_2 b7 l5c3 l7c1 l7c2) (fun h=>j04g h.1 h.2.1 h.2.2.1 h.2.2.2.1 h.2.2.2.2.1 h.2.2.2.2.2.1 h.2.2.2.2.2.2.1 h.2.2.2.2.2.2.2.1 h.2.2.2.2.2.2.2.2.1 h.2.2.2.2.2.2.2.2.2.1 h.2.2.2.2.2.2.2.2.2.2):=j003 _ _
def j01T [LP] (s6:Int) (b0:(List Int)) (b0_1:Int) (b5:Tn54) (b5_1:Tn48) (b5_2:Tn26) (l5c3:Tn65):Option ((Int×(List Int)×Int×Tn54×Tn48×Tn26×Tn65) ⊕ (((List Int)×Int×Tn54×Tn48×Tn26×Tn65))):=
 cond (decide (s6>0)) (
 let t20_3:(List ByteArray):=[(ByteArray.mk #[102,105,114,115,116]),(ByteArray.mk #[115,101,99,111,110,100]),(ByteArray.mk #[116,104,105,114,100])]
 let t23_2:=(Int.ofNat (List.length l5c3))
 let t24_3:=(Int.tmod t23_2 3)
 cond (inR t24_3 (List.length t20_3)) (
 let t26_3:=(List.getD t20_3 (Int.toNat t24_3) ByteArray.empty)
 (j002 b0 b0_1 4).bind fun r29_3=>
 (j02X s6 r29_3.1 r29_3.2.1 r29_3.2.2 b5 b5_1 b5_2 t26_3 l5c3 ([]:Tn60)).bind fun q2_3=>
 (j002 q2_3.2.1 q2_3.2.2.1 4).bind fun r49_3=>
 (j04g q2_3.1 r49_3.1 r49_3.2.1 r49_3.2.2 q2_3.2.2.2.1 q2_3.2.2.2.2.1 q2_3.2.2.2.2.2.1 q2_3.2.2.2.2.2.2.1 q2_3.2.2.2.2.2.2.2.1 q2_3.2.2.2.2.2.2.2.2 ([]:Tn29)).bind fun q4_3=>
 let t65_3:Tn65:=[(q4_3.2.2.2.2.2.2.1,(q4_3.2.2.2.2.2.2.2.2.1,q4_3.2.2.2.2.2.2.2.2.2))]
 cond (decide (List.length q4_3.2.2.2.2.2.2.2.1+List.length t65_3≤sizeMax)) (
 let t66_3:Tn65:=(q4_3.2.2.2.2.2.2.2.1++t65_3)
 let t19_3:=(w64 (q4_3.1-1))
 some (.inl (t19_3,q4_3.2.1,q4_3.2.2.1,q4_3.2.2.2.1,q4_3.2.2.2.2.1,q4_3.2.2.2.2.2.1,t66_3))) none) none) (
 some (.inr (b0,b0_1,b5,b5_1,b5_2,l5c3)))
def j04h [LP] (s6:Int) (b0:(List Int)) (b0_1:Int) (b5:Tn54) (b5_1:Tn48) (b5_2:Tn26) (l5c3:Tn65):Option (((List Int)×Int×Tn54×Tn48×Tn26×Tn65)):=
 LP.lp (fun h=>j01T h.1 h.2.1 h.2.2.1 h.2.2.2.1 h.2.2.2.2.1 h.2.2.2.2.2.1 h.2.2.2.2.2.2) (s6,b0,b0_1,b5,b5_1,b5_2,l5c3)
theorem j06K (s6:Int) (b0:(List Int)) (b0_1:Int) (b5:Tn54) (b5_1:Tn48) (b5_2:Tn26) (l5c3:Tn65):j04h s6 b0 b0_1 b5 b5_1 b5_2 l5c3=lpK (j01T s6 b0 b0_1 b5 b5_1 b5_2 l5c3) (fun h=>j04h h.1 h.2.1 h.2.2.1 h.2.2.2.1 h.2.2.2.2.1 h.2.2.2.2.2.1 h.2.2.2.2.2.2):=j003 _ _
def j05R [LP] (a0_d:(List Int)) (a0_d_1 a1_n:Int):Option (Tn71×(List Int)×Int):=
 (j06r a0_d a0_d_1).bind fun r11=>
 (j002 r11.2.1 r11.2.2 a1_n).bind fun r14=>
 let t15:=(w64 (1+r14.1))
 (j04h t15 r14.2.1 r14.2.2 r11.1.1 r11.1.2.1 r11.1.2.2.1 ([]:Tn65)).bind fun q0=>
 some ((q0.2.2.1,(q0.2.2.2.1,(q0.2.2.2.2.1,q0.2.2.2.2.2))),q0.1,q0.2.1)
def j0gC (a0_x a1_n:Int):Option (Int):=
 cond (!(a1_n==0)) (
 let t7:=(Int.tmod a0_x a1_n)
 let t9:=(w64 (t7+a1_n))
 cond (!(a1_n==0)) (
 let t11:=(Int.tmod t9 a1_n)
 some t11) none) none
def j0gD (a0_b:Int):Option (Bool):=
 some (cond (decide (a0_b≥48)) (decide (a0_b≤57)) false)
def j04p (s0:ByteArray) (s3:Int):Option ((ByteArray×Int) ⊕ (Bool ⊕ Unit)):=
 let t24_1:=(Int.ofNat (ByteArray.size s0))
 cond (decide (s3<t24_1)) (
 cond (inR s3 (ByteArray.size s0)) (
 let t30_1:=(strAt s0 s3)
 cond ((inR s3 (ByteArray.size s0)) || !(!(decide (t30_1<97)))) (
 let t35_1:=(strAt s0 s3)
 cond ((inR s3 (ByteArray.size s0)) || !(cond (decide (t30_1<97)) true (decide (t35_1>122)))) (
 let t41_1:=(strAt s0 s3)
 cond (cond (decide (t30_1<97)) true (decide (t35_1>122))) (
 (j0gD t41_1).bind fun r42_1=>
 cond ((inR s3 (ByteArray.size s0)) || !(!r42_1)) (
 let t48_2:=(strAt s0 s3)
 cond ((inR s3 (ByteArray.size s0)) || !(cond (!r42_1) (t48_2 != 95) false)) (
 let t54_2:=(strAt s0 s3)
 cond (cond (cond (!r42_1) (t48_2 != 95) false) (t54_2 != 45) false) (
 some (.inr (.inl false))) (
 let t27_2:=(w64 (s3+1))
 some (.inl (s0,t27_2)))) none) none) (
 cond ((inR s3 (ByteArray.size s0)) || !false) (
 let t48_3:=(strAt s0 s3)
 cond ((inR s3 (ByteArray.size s0)) || !false) (
 let t54_3:=(strAt s0 s3)
 let t27_3:=(w64 (s3+1))
 some (.inl (s0,t27_3))) none) none)) none) none) none) (
 some (.inr (.inr ())))
def j07C [LP] (s0:ByteArray) (s3:Int):Option (Bool ⊕ Unit):=
 LP.lp (fun h=>j04p h.1 h.2) (s0,s3)
theorem j0cy (s0:ByteArray) (s3:Int):j07C s0 s3=lpK (j04p s0 s3) (fun h=>j07C h.1 h.2):=j003 _ _
def j0gE [LP] (a0_s:ByteArray):Option (Bool):=
 let t5:=(Int.ofNat (ByteArray.size a0_s))
 let t9:=(Int.ofNat (ByteArray.size a0_s))
 cond ((inR 0 (ByteArray.size a0_s)) || !(!(cond (decide (t5<1)) true (decide (t9>24))))) (
 let t14:=(strAt a0_s 0)
 let t16:Bool:=(cond (cond (decide (t5<1)) true (decide (t9>24))) true (decide (t14<97)))
 cond ((inR 0 (ByteArray.size a0_s)) || !(!t16)) (
 let t19:=(strAt a0_s 0)
 cond (cond t16 true (decide (t19>122))) (
 some false) (
 (j07C a0_s 0).bind fun q0=>
 sumC q0 (fun a=>
 some a) (fun b=>
 some true))) none) none
def j04q (s0:(List ByteArray)) (s1 s5:Int):Option (((List ByteArray)×Int×Int) ⊕ (Int ⊕ Unit)):=
 cond (decide (s5<s1)) (
 cond (inR s5 (List.length s0)) (
 let t19_1:=(List.getD s0 (Int.toNat s5) ByteArray.empty)
 cond (inR s1 (List.length s0)) (
 let t23_1:=(List.getD s0 (Int.toNat s1) ByteArray.empty)
 cond (ByteArray.toList t19_1==ByteArray.toList t23_1) (
 some (.inr (.inl 4))) (
 let t16_1:=(w64 (s5+1))
 some (.inl (s0,s1,t16_1)))) none) none) (
 some (.inr (.inr ())))
def j09f [LP] (s0:(List ByteArray)) (s1 s5:Int):Option (Int ⊕ Unit):=
 LP.lp (fun h=>j04q h.1 h.2.1 h.2.2) (s0,s1,s5)
theorem j0cz (s0:(List ByteArray)) (s1 s5:Int):j09f s0 s1 s5=lpK (j04q s0 s1 s5) (fun h=>j09f h.1 h.2.1 h.2.2):=j003 _ _
def j09A [LP] (a0_l:(List ByteArray)) (a1_i:Int):Option (Int):=
 cond (inR a1_i (List.length a0_l)) (
 let t8:=(List.getD a0_l (Int.toNat a1_i) ByteArray.empty)
 (j0gE t8).bind fun r10=>
 cond (!r10) (
 some 2) (
 (j09f a0_l a1_i 0).bind fun q0=>
 sumC q0 (fun a=>
 some a) (fun b=>
 some 0))) none
def r04_in (a0_n a1_lo a2_hi:Int):Option (Bool):=
 some (cond (decide (a0_n≥a1_lo)) (decide (a0_n≤a2_hi)) false)
def j0cA (a0_r:Tn38):Option (Bool):=
 (r04_in a0_r.1 1970 2240).bind fun r5=>
 cond r5 (
 (r04_in a0_r.2.1 a0_r.1 2240).bind fun r11=>
 cond r11 (
 (r04_in a0_r.2.2.1 1 12).bind fun r16=>
 cond r16 (
 (r04_in a0_r.2.2.2.1 1 5).bind fun r21=>
 cond r21 (
 (r04_in a0_r.2.2.2.2.1 0 6).bind fun r26=>
 cond r26 (
 (r04_in a0_r.2.2.2.2.2.1 0 86399).bind fun r31=>
 cond r31 (
 (r04_in a0_r.2.2.2.2.2.2 (-64800) 64800).bind fun r36=>
 some r36) (
 some false)) (
 some false)) (
 some false)) (
 some false)) (
 some false)) (
 some false)
def j01A (a0_year:Int):Option (Bool):=
 let t4:=(Int.tmod a0_year 4)
 let t8:=(Int.tmod a0_year 100)
 let t12:=(Int.tmod a0_year 400)
 some (cond (t4==0) (cond (t8 != 0) true (t12==0)) false)
def j0bR (a0_year a1_month:Int):Option (Int):=
 cond (a1_month==1) (
 cond (a1_month==1) (
 some 31) (
 cond (a1_month==4) (
 cond (a1_month==4) (
 some 30) (
 cond (a1_month==2) (
 (j01A a0_year).bind fun r22=>
 cond r22 (
 some 29) (
 some 28)) (
 some 0))) (
 cond (a1_month==6) (
 cond (a1_month==6) (
 some 30) (
 cond (a1_month==2) (
 (j01A a0_year).bind fun r22_1=>
 cond r22_1 (
 some 29) (
 some 28)) (
 some 0))) (
 cond (a1_month==9) (
 cond (a1_month==9) (
 some 30) (
 cond (a1_month==2) (
 (j01A a0_year).bind fun r22_2=>
 cond r22_2 (
 some 29) (
 some 28)) (
 some 0))) (
 cond (a1_month==11) (
 some 30) (
 cond (a1_month==2) (
 (j01A a0_year).bind fun r22_3=>
 cond r22_3 (
 some 29) (
 some 28)) (
 some 0))))))) (
 cond (a1_month==3) (
 cond (a1_month==3) (
 some 31) (
 cond (a1_month==4) (
 cond (a1_month==4) (
 some 30) (
 cond (a1_month==2) (
 (j01A a0_year).bind fun r22_4=>
 cond r22_4 (
 some 29) (
 some 28)) (
 some 0))) (
 cond (a1_month==6) (
 cond (a1_month==6) (
 some 30) (
 cond (a1_month==2) (
 (j01A a0_year).bind fun r22_5=>
 cond r22_5 (
 some 29) (
 some 28)) (
 some 0))) (
 cond (a1_month==9) (
 cond (a1_month==9) (
 some 30) (
 cond (a1_month==2) (
 (j01A a0_year).bind fun r22_6=>
 cond r22_6 (
 some 29) (
 some 28)) (
 some 0))) (
 cond (a1_month==11) (
 some 30) (
 cond (a1_month==2) (
 (j01A a0_year).bind fun r22_7=>
 cond r22_7 (
 some 29) (
 some 28)) (
 some 0))))))) (
 cond (a1_month==5) (
 cond (a1_month==5) (
 some 31) (
 cond (a1_month==4) (
 cond (a1_month==4) (
 some 30) (
 cond (a1_month==2) (
 (j01A a0_year).bind fun r22_8=>
 cond r22_8 (
 some 29) (
 some 28)) (
 some 0))) (
 cond (a1_month==6) (
 cond (a1_month==6) (
 some 30) (
 cond (a1_month==2) (
 (j01A a0_year).bind fun r22_9=>
 cond r22_9 (
 some 29) (
 some 28)) (
 some 0))) (
 cond (a1_month==9) (
 cond (a1_month==9) (
 some 30) (
 cond (a1_month==2) (
 (j01A a0_year).bind fun r22_10=>
 cond r22_10 (
 some 29) (
 some 28)) (
 some 0))) (
 cond (a1_month==11) (
 some 30) (
 cond (a1_month==2) (
 (j01A a0_year).bind fun r22_11=>
 cond r22_11 (
 some 29) (
 some 28)) (
 some 0))))))) (
 cond (a1_month==7) (
 cond (a1_month==7) (
 some 31) (
 cond (a1_month==4) (
 cond (a1_month==4) (
 some 30) (
 cond (a1_month==2) (
 (j01A a0_year).bind fun r22_12=>
 cond r22_12 (
 some 29) (
 some 28)) (
 some 0))) (
 cond (a1_month==6) (
 cond (a1_month==6) (
 some 30) (
 cond (a1_month==2) (
 (j01A a0_year).bind fun r22_13=>
 cond r22_13 (
 some 29) (
 some 28)) (
 some 0))) (
 cond (a1_month==9) (
 cond (a1_month==9) (
 some 30) (
 cond (a1_month==2) (
 (j01A a0_year).bind fun r22_14=>
 cond r22_14 (
 some 29) (
 some 28)) (
 some 0))) (
 cond (a1_month==11) (
 some 30) (
 cond (a1_month==2) (
 (j01A a0_year).bind fun r22_15=>
 cond r22_15 (
 some 29) (
 some 28)) (
 some 0))))))) (
 cond (a1_month==8) (
 cond (a1_month==8) (
 some 31) (
 cond (a1_month==4) (
 cond (a1_month==4) (
 some 30) (
 cond (a1_month==2) (
 (j01A a0_year).bind fun r22_16=>
 cond r22_16 (
 some 29) (
 some 28)) (
 some 0))) (
 cond (a1_month==6) (
 cond (a1_month==6) (
 some 30) (
 cond (a1_month==2) (
 (j01A a0_year).bind fun r22_17=>
 cond r22_17 (
 some 29) (
 some 28)) (
 some 0))) (
 cond (a1_month==9) (
 cond (a1_month==9) (
 some 30) (
 cond (a1_month==2) (
 (j01A a0_year).bind fun r22_18=>
 cond r22_18 (
 some 29) (
 some 28)) (
 some 0))) (
 cond (a1_month==11) (
 some 30) (
 cond (a1_month==2) (
 (j01A a0_year).bind fun r22_19=>
 cond r22_19 (
 some 29) (
 some 28)) (
 some 0))))))) (
 cond (a1_month==10) (
 cond (a1_month==10) (
 some 31) (
 cond (a1_month==4) (
 cond (a1_month==4) (
 some 30) (
 cond (a1_month==2) (
 (j01A a0_year).bind fun r22_20=>
 cond r22_20 (
 some 29) (
 some 28)) (
 some 0))) (
 cond (a1_month==6) (
 cond (a1_month==6) (
 some 30) (
 cond (a1_month==2) (
 (j01A a0_year).bind fun r22_21=>
 cond r22_21 (
 some 29) (
 some 28)) (
 some 0))) (
 cond (a1_month==9) (
 cond (a1_month==9) (
 some 30) (
 cond (a1_month==2) (
 (j01A a0_year).bind fun r22_22=>
 cond r22_22 (
 some 29) (
 some 28)) (
 some 0))) (
 cond (a1_month==11) (
 some 30) (
 cond (a1_month==2) (
 (j01A a0_year).bind fun r22_23=>
 cond r22_23 (
 some 29) (
 some 28)) (
 some 0))))))) (
 cond (a1_month==12) (
 some 31) (
 cond (a1_month==4) (
 cond (a1_month==4) (
 some 30) (
 cond (a1_month==2) (
 (j01A a0_year).bind fun r22_24=>
 cond r22_24 (
 some 29) (
 some 28)) (
 some 0))) (
 cond (a1_month==6) (
 cond (a1_month==6) (
 some 30) (
 cond (a1_month==2) (
 (j01A a0_year).bind fun r22_25=>
 cond r22_25 (
 some 29) (
 some 28)) (
 some 0))) (
 cond (a1_month==9) (
 cond (a1_month==9) (
 some 30) (
 cond (a1_month==2) (
 (j01A a0_year).bind fun r22_26=>
 cond r22_26 (
 some 29) (
 some 28)) (
 some 0))) (
 cond (a1_month==11) (
 some 30) (
 cond (a1_month==2) (
 (j01A a0_year).bind fun r22_27=>
 cond r22_27 (
 some 29) (
 some 28)) (
 some 0))))))))))))
def j0eF (a0_d:Tn3):Option (Bool):=
 cond (decide (a0_d.1≥1970)) (
 cond (decide (a0_d.1≤2240)) (
 cond (decide (a0_d.2.1≥1)) (
 cond (decide (a0_d.2.1≤12)) (
 cond (decide (a0_d.2.2≥1)) (
 (j0bR a0_d.1 a0_d.2.1).bind fun r33=>
 some (decide (a0_d.2.2≤r33))) (
 some false)) (
 some false)) (
 some false)) (
 some false)) (
 some false)
def j0f1 (a0_y:Int):Option (Int):=
 let t4:=(w64 (a0_y-1970))
 let t5:=(w64 (t4*365))
 let t7:=(w64 (a0_y-1969))
 let t8:=(w64 (Int.tdiv t7 4))
 let t9:=(w64 (t5+t8))
 let t11:=(w64 (a0_y-1901))
 let t12:=(w64 (Int.tdiv t11 100))
 let t13:=(w64 (t9-t12))
 let t15:=(w64 (a0_y-1601))
 let t16:=(w64 (Int.tdiv t15 400))
 let t17:=(w64 (t13+t16))
 some t17
def j055 (s4 s5 b1 b1_1 b1_2:Int):Option ((Int×Int×Int×Int×Int) ⊕ ((Int×Int×Int×Int))):=
 cond (decide (s5<b1_1)) (
 (j0bR b1 s5).bind fun r22_1=>
 let t23_1:=(w64 (s4+r22_1))
 let t17_1:=(w64 (s5+1))
 some (.inl (t23_1,t17_1,b1,b1_1,b1_2))) (
 some (.inr (s4,b1,b1_1,b1_2)))
def j0cB [LP] (s4 s5 b1 b1_1 b1_2:Int):Option ((Int×Int×Int×Int)):=
 LP.lp (fun h=>j055 h.1 h.2.1 h.2.2.1 h.2.2.2.1 h.2.2.2.2) (s4,s5,b1,b1_1,b1_2)
theorem j0eg (s4 s5 b1 b1_1 b1_2:Int):j0cB s4 s5 b1 b1_1 b1_2=lpK (j055 s4 s5 b1 b1_1 b1_2) (fun h=>j0cB h.1 h.2.1 h.2.2.1 h.2.2.2.1 h.2.2.2.2):=j003 _ _
def r01_Day [LP] (a0_d:Tn3):Option (Int×Int):=
 (j0eF (a0_d.1,(a0_d.2.1,a0_d.2.2))).bind fun r7=>
 cond (!r7) (
 some (0,1)) (
 (j0f1 a0_d.1).bind fun r11=>
 (j0cB r11 1 a0_d.1 a0_d.2.1 a0_d.2.2).bind fun q0=>
 let t27:=(w64 (q0.1+q0.2.2.2))
 let t28:=(w64 (t27-1))
 some (t28,0))
def j0bp (a0_day:Int):Option (Int):=
 let t4:=(Int.tmod a0_day 7)
 let t5:=(w64 (t4+10))
 let t6:=(Int.tmod t5 7)
 some t6
def j056 (s0 s1 s2 s3 s10 s12:Int):Option ((Int×Int×Int×Int×Int×Int) ⊕ ((Int×Int×Int×Int×Int))):=
 (j0bp s12).bind fun r40_1=>
 cond (r40_1 != s3) (
 let t44_1:=(w64 (s12+1))
 some (.inl (s0,s1,s2,s3,s10,t44_1))) (
 some (.inr (s0,s1,s2,s10,s12)))
def j0cC [LP] (s0 s1 s2 s3 s10 s12:Int):Option ((Int×Int×Int×Int×Int)):=
 LP.lp (fun h=>j056 h.1 h.2.1 h.2.2.1 h.2.2.2.1 h.2.2.2.2.1 h.2.2.2.2.2) (s0,s1,s2,s3,s10,s12)
theorem j0eh (s0 s1 s2 s3 s10 s12:Int):j0cC s0 s1 s2 s3 s10 s12=lpK (j056 s0 s1 s2 s3 s10 s12) (fun h=>j0cC h.1 h.2.1 h.2.2.1 h.2.2.2.1 h.2.2.2.2.1 h.2.2.2.2.2):=j003 _ _
def j057 (s0 s1 s10 s12:Int):Option ((Int×Int×Int×Int) ⊕ (Int)):=
 let t53_1:=(w64 (s12+7))
 (j0bR s0 s1).bind fun r57_1=>
 let t58_1:=(w64 (s10+r57_1))
 cond (decide (t53_1<t58_1)) (
 let t61_1:=(w64 (s12+7))
 some (.inl (s0,s1,s10,t61_1))) (
 some (.inr s12))
def j0cD [LP] (s0 s1 s10 s12:Int):Option (Int):=
 LP.lp (fun h=>j057 h.1 h.2.1 h.2.2.1 h.2.2.2) (s0,s1,s10,s12)
theorem j0ei (s0 s1 s10 s12:Int):j0cD s0 s1 s10 s12=lpK (j057 s0 s1 s10 s12) (fun h=>j0cD h.1 h.2.1 h.2.2.1 h.2.2.2):=j003 _ _
def r01_Nth [LP] (a0_y a1_month a2_week a3_weekday:Int):Option (Int×Int):=
 (r01_Day (a0_y,(a1_month,1))).bind fun r17=>
 let t29:Bool:=(cond (cond (r17.2 != 0) true (decide (a2_week<1))) true (decide (a2_week>5)))
 let t37:Bool:=(cond (cond t29 true (decide (a3_weekday<0))) true (decide (a3_weekday>6)))
 cond t37 (
 some (0,1)) (
 (j0cC a0_y a1_month a2_week a3_weekday r17.1 r17.1).bind fun q0=>
 cond (decide (q0.2.2.1<5)) (
 let t49:=(w64 (q0.2.2.1-1))
 let t50:=(w64 (7*t49))
 let t51:=(w64 (q0.2.2.2.2+t50))
 some (t51,0)) (
 (j0cD q0.1 q0.2.1 q0.2.2.2.1 q0.2.2.2.2).bind fun q2=>
 some (q2,0)))
def j023 (s0:Tn42) (s4 s5 s9 b8 b8_1:Int) (l3:Tn2):Option ((Tn42×Int×Int×Int×Int×Int×Tn2) ⊕ ((Tn42×Int×Int×Int×Int×Int×Tn2))):=
 cond (decide (s9>0)) (
 let t71_5:=(w64 (s9-1))
 cond (inR t71_5 (List.length l3)) (
 let t74_3:=(List.getD l3 (Int.toNat t71_5) (0,0)).1
 cond (decide (t74_3>b8)) (
 let t80_3:=(w64 (s9-1))
 some (.inl (s0,s4,s5,t80_3,b8,b8_1,l3))) (
 some (.inr (s0,s4,s5,s9,b8,b8_1,l3)))) none) (
 some (.inr (s0,s4,s5,s9,b8,b8_1,l3)))
def j03s [LP] (s0:Tn42) (s4 s5 s9 b8 b8_1:Int) (l3:Tn2):Option ((Tn42×Int×Int×Int×Int×Int×Tn2)):=
 LP.lp (fun h=>j023 h.1 h.2.1 h.2.2.1 h.2.2.2.1 h.2.2.2.2.1 h.2.2.2.2.2.1 h.2.2.2.2.2.2) (s0,s4,s5,s9,b8,b8_1,l3)
theorem j07e (s0:Tn42) (s4 s5 s9 b8 b8_1:Int) (l3:Tn2):j03s s0 s4 s5 s9 b8 b8_1 l3=lpK (j023 s0 s4 s5 s9 b8 b8_1 l3) (fun h=>j03s h.1 h.2.1 h.2.2.1 h.2.2.2.1 h.2.2.2.2.1 h.2.2.2.2.2.1 h.2.2.2.2.2.2):=j003 _ _
def j024 [LP] (s0:Tn42) (s4 s5:Int) (l3:Tn2):Option ((Tn42×Int×Int×Tn2) ⊕ ((Tn42×Int×Tn2))):=
 cond (inR s4 (List.length s0)) (
 let t24_4:=(List.getD s0 (Int.toNat s4) (0,(0,(0,(0,(0,(0,0)))))))
 cond (decide (s5≤t24_4.2.1)) (
 cond (inR s4 (List.length s0)) (
 let t34_4:=(List.getD s0 (Int.toNat s4) (0,(0,(0,(0,(0,(0,0)))))))
 cond (inR s4 (List.length s0)) (
 let t39_4:=(List.getD s0 (Int.toNat s4) (0,(0,(0,(0,(0,(0,0)))))))
 cond (inR s4 (List.length s0)) (
 let t44_4:=(List.getD s0 (Int.toNat s4) (0,(0,(0,(0,(0,(0,0)))))))
 (r01_Nth s5 t34_4.2.2.1 t39_4.2.2.2.1 t44_4.2.2.2.2.1).bind fun r47_4=>
 let t51_4:=(w64 (r47_4.1*86400))
 cond (inR s4 (List.length s0)) (
 let t54_4:=(List.getD s0 (Int.toNat s4) (0,(0,(0,(0,(0,(0,0)))))))
 let t57_4:=(w64 (t51_4+t54_4.2.2.2.2.2.1))
 cond (inR s4 (List.length s0)) (
 let t60_4:=(List.getD s0 (Int.toNat s4) (0,(0,(0,(0,(0,(0,0)))))))
 let t65_3:=(Int.ofNat (List.length l3))
 (j03s s0 s4 s5 t65_3 t57_4 t60_4.2.2.2.2.2.2 l3).bind fun q4_4=>
 let t83_4:Tn2:=[(q4_4.2.2.2.2.1,q4_4.2.2.2.2.2.1)]
 cond (decide (List.length q4_4.2.2.2.2.2.2+List.length t83_4≤sizeMax)) (
 let t84_4:Tn2:=(q4_4.2.2.2.2.2.2++t83_4)
 let t87_4:=(w64 (q4_4.2.2.2.1+1))
 cond (decide (0≤t87_4)&&decide (t87_4≤(Int.ofNat (List.length t84_4)))) (
 cond (decide (0≤q4_4.2.2.2.1)&&decide (q4_4.2.2.2.1≤(Int.ofNat (List.length t84_4)))) (
 let t92_8:Tn2:=(over t84_4 (Int.toNat t87_4) (List.drop (Int.toNat q4_4.2.2.2.1) t84_4))
 let t92_9:=(Int.ofNat (min (List.length (List.drop (Int.toNat q4_4.2.2.2.1) t84_4)) (List.length t84_4-(Int.toNat t87_4))))
 cond (inR q4_4.2.2.2.1 (List.length t92_8)) (
 let m4_4:Tn2:=(List.set t92_8 (Int.toNat q4_4.2.2.2.1) (q4_4.2.2.2.2.1,q4_4.2.2.2.2.2.1))
 let t29_4:=(w64 (q4_4.2.2.1+1))
 some (.inl (q4_4.1,q4_4.2.1,t29_4,m4_4))) none) none) none) none) none) none) none) none) none) (
 some (.inr (s0,s4,l3)))) none
def j04O [LP] (s0:Tn42) (s4 s5:Int) (l3:Tn2):Option ((Tn42×Int×Tn2)):=
 LP.lp (fun h=>j024 h.1 h.2.1 h.2.2.1 h.2.2.2) (s0,s4,s5,l3)
theorem j07f (s0:Tn42) (s4 s5:Int) (l3:Tn2):j04O s0 s4 s5 l3=lpK (j024 s0 s4 s5 l3) (fun h=>j04O h.1 h.2.1 h.2.2.1 h.2.2.2):=j003 _ _
def j025 [LP] (s0:Tn42) (s4:Int) (l3:Tn2):Option ((Tn42×Int×Tn2) ⊕ (Tn2)):=
 let t12_2:=(Int.ofNat (List.length s0))
 cond (decide (s4<t12_2)) (
 cond (inR s4 (List.length s0)) (
 let t18_2:=(List.getD s0 (Int.toNat s4) (0,(0,(0,(0,(0,(0,0)))))))
 (j04O s0 s4 t18_2.1 l3).bind fun q2_2=>
 let t15_2:=(w64 (q2_2.2.1+1))
 some (.inl (q2_2.1,t15_2,q2_2.2.2))) none) (
 some (.inr l3))
def j03t [LP] (s0:Tn42) (s4:Int) (l3:Tn2):Option (Tn2):=
 LP.lp (fun h=>j025 h.1 h.2.1 h.2.2) (s0,s4,l3)
theorem j07g (s0:Tn42) (s4:Int) (l3:Tn2):j03t s0 s4 l3=lpK (j025 s0 s4 l3) (fun h=>j03t h.1 h.2.1 h.2.2):=j003 _ _
def j06t [LP] (a0_l:Tn42):Option (Tn2):=
 (j03t a0_l 0 ([]:Tn2)).bind fun q0=>
 some q0
def j026 (s4 s5:Int) (b1:ByteArray) (b1_1:Int) (b1_2:Tn42):Option ((Int×Int×ByteArray×Int×Tn42) ⊕ (Int ⊕ (Int×ByteArray×Int×Tn42))):=
 let t22_1:=(Int.ofNat (List.length b1_2))
 cond (decide (s5<t22_1)) (
 cond (inR s5 (List.length b1_2)) (
 let t29_1:=(List.getD b1_2 (Int.toNat s5) (0,(0,(0,(0,(0,(0,0)))))))
 (j0cA (t29_1.1,(t29_1.2.1,(t29_1.2.2.1,(t29_1.2.2.2.1,(t29_1.2.2.2.2.1,(t29_1.2.2.2.2.2.1,t29_1.2.2.2.2.2.2))))))).bind fun r31_1=>
 cond (!r31_1) (
 some (.inr (.inl 1))) (
 cond (inR s5 (List.length b1_2)) (
 let t37_1:=(List.getD b1_2 (Int.toNat s5) (0,(0,(0,(0,(0,(0,0)))))))
 cond (inR s5 (List.length b1_2)) (
 let t43_1:=(List.getD b1_2 (Int.toNat s5) (0,(0,(0,(0,(0,(0,0)))))))
 let t46_1:=(w64 (t37_1.2.1-t43_1.1))
 let t47_1:=(w64 (t46_1+1))
 let t48_1:=(w64 (s4+t47_1))
 let t25_1:=(w64 (s5+1))
 some (.inl (t48_1,t25_1,b1,b1_1,b1_2))) none) none)) none) (
 some (.inr (.inr (s4,b1,b1_1,b1_2))))
def j03u [LP] (s4 s5:Int) (b1:ByteArray) (b1_1:Int) (b1_2:Tn42):Option (Int ⊕ (Int×ByteArray×Int×Tn42)):=
 LP.lp (fun h=>j026 h.1 h.2.1 h.2.2.1 h.2.2.2.1 h.2.2.2.2) (s4,s5,b1,b1_1,b1_2)
theorem j07h (s4 s5:Int) (b1:ByteArray) (b1_1:Int) (b1_2:Tn42):j03u s4 s5 b1 b1_1 b1_2=lpK (j026 s4 s5 b1 b1_1 b1_2) (fun h=>j03u h.1 h.2.1 h.2.2.1 h.2.2.2.1 h.2.2.2.2):=j003 _ _
def j027 (s8 s9:Int) (l6 l7:Tn2):Option ((Int×Int×Tn2×Tn2) ⊕ (Int ⊕ Tn2)):=
 let t58_2:=(Int.ofNat (List.length l7))
 cond (decide (s9<t58_2)) (
 cond (inR s9 (List.length l7)) (
 let t66_2:=(List.getD l7 (Int.toNat s9) (0,0)).2
 cond (t66_2==s8) (
 let t61_5:=(w64 (s9+1))
 some (.inl (s8,t61_5,l6,l7))) (
 cond (inR s9 (List.length l7)) (
 let t73_2:=(List.getD l7 (Int.toNat s9) (0,0)).1
 let t75_2:=(w64 (t73_2-s8))
 cond (inR s9 (List.length l7)) (
 let t80_2:=(List.getD l7 (Int.toNat s9) (0,0)).2
 let t85_2:=(w64 (t80_2-s8))
 (r04_in t85_2 (-86399) 86399).bind fun r86_2=>
 cond (!r86_2) (
 some (.inr (.inl 6))) (
 (r04_in t75_2 0 8589934592).bind fun r91_2=>
 cond (!r91_2) (
 some (.inr (.inl 6))) (
 let t96_1:=(Int.ofNat (List.length l6))
 cond (decide (t96_1>0)) (
 let t103_1:=(Int.ofNat (List.length l6))
 let t104_2:=(w64 (t103_1-1))
 cond (inR t104_2 (List.length l6)) (
 let t107_1:=(List.getD l6 (Int.toNat t104_2) (0,0)).1
 let t108_1:=(w64 (t75_2-t107_1))
 cond (decide (t108_1<604800)) (
 some (.inr (.inl 6))) (
 let t114_3:Tn2:=[(t75_2,t80_2)]
 cond (decide (List.length l6+List.length t114_3≤sizeMax)) (
 let t115_3:Tn2:=(l6++t114_3)
 let t61_6:=(w64 (s9+1))
 some (.inl (t80_2,t61_6,t115_3,l7))) none)) none) (
 let t114_4:Tn2:=[(t75_2,t80_2)]
 cond (decide (List.length l6+List.length t114_4≤sizeMax)) (
 let t115_4:Tn2:=(l6++t114_4)
 let t61_7:=(w64 (s9+1))
 some (.inl (t80_2,t61_7,t115_4,l7))) none)))) none) none)) none) (
 some (.inr (.inr l6)))
def j03v [LP] (s8 s9:Int) (l6 l7:Tn2):Option (Int ⊕ Tn2):=
 LP.lp (fun h=>j027 h.1 h.2.1 h.2.2.1 h.2.2.2) (s8,s9,l6,l7)
theorem j07i (s8 s9:Int) (l6 l7:Tn2):j03v s8 s9 l6 l7=lpK (j027 s8 s9 l6 l7) (fun h=>j03v h.1 h.2.1 h.2.2.1 h.2.2.2):=j003 _ _
def j00D [LP] (a0_z:Tn52):Option (Tn2×Int):=
 (r04_in a0_z.2.1 (-64800) 64800).bind fun r13=>
 cond (!r13) (
 some (([]:Tn2),1)) (
 let t17:=(Int.ofNat (List.length a0_z.2.2))
 cond (decide (t17>16)) (
 some (([]:Tn2),5)) (
 (j03u 0 0 a0_z.1 a0_z.2.1 a0_z.2.2).bind fun q0=>
 sumC q0 (fun a=>
 some (([]:Tn2),a)) (fun b=>
 cond (decide (b.1>640)) (
 some (([]:Tn2),5)) (
 (j06t b.2.2.2).bind fun r53=>
 (j03v b.2.2.1 0 ([]:Tn2) r53).bind fun q2=>
 sumC q2 (fun a_1=>
 some (([]:Tn2),a_1)) (fun b_1=>
 some (b_1,0))))))
def j05S [LP] (a0_z:Tn52):Option (Int):=
 (j00D (a0_z.1,(a0_z.2.1,a0_z.2.2))).bind fun r7=>
 some r7.2
def j02Y (s3:Bool) (s4:Int) (b1:ByteArray) (b1_1:Int) (b1_2:Tn42):Option ((Bool×Int×ByteArray×Int×Tn42) ⊕ (Bool)):=
 let t12_1:=(Int.ofNat (List.length b1_2))
 cond (decide (s4<t12_1)) (
 cond ((inR s4 (List.length b1_2)) || !s3) (
 let t21_1:=(List.getD b1_2 (Int.toNat s4) (0,(0,(0,(0,(0,(0,0)))))))
 let t24_1:=(Int.tmod t21_1.2.2.2.2.2.2 60)
 let t15_1:=(w64 (s4+1))
 some (.inl ((cond s3 (t24_1==0) false),t15_1,b1,b1_1,b1_2))) none) (
 some (.inr s3))
def j05T [LP] (s3:Bool) (s4:Int) (b1:ByteArray) (b1_1:Int) (b1_2:Tn42):Option (Bool):=
 LP.lp (fun h=>j02Y h.1 h.2.1 h.2.2.1 h.2.2.2.1 h.2.2.2.2) (s3,s4,b1,b1_1,b1_2)
theorem j0ab (s3:Bool) (s4:Int) (b1:ByteArray) (b1_1:Int) (b1_2:Tn42):j05T s3 s4 b1 b1_1 b1_2=lpK (j02Y s3 s4 b1 b1_1 b1_2) (fun h=>j05T h.1 h.2.1 h.2.2.1 h.2.2.2.1 h.2.2.2.2):=j003 _ _
def j09g [LP] (a0_z:Tn52):Option (Bool):=
 let t7:=(Int.tmod a0_z.2.1 60)
 (j05T (t7==0) 0 a0_z.1 a0_z.2.1 a0_z.2.2).bind fun q0=>
 some q0
def j03Z [LP] (s4:Int) (b1:Tn54) (b1_1:Tn48) (b1_2:Tn26) (b1_3:Tn65) (l3:(List ByteArray)):Option ((Int×Tn54×Tn48×Tn26×Tn65×(List ByteArray)) ⊕ (Int ⊕ Unit)):=
 let t9_2:=(Int.ofNat (List.length b1))
 cond (decide (s4<t9_2)) (
 cond (inR s4 (List.length b1)) (
 let t17_2:=(List.getD b1 (Int.toNat s4) (ByteArray.empty,(0,([]:Tn42))))
 cond (decide (List.length l3+List.length [t17_2.1]≤sizeMax)) (
 let t21_2:(List ByteArray):=(l3++[t17_2.1])
 (j09A t21_2 s4).bind fun r24_2=>
 cond (r24_2 != 0) (
 some (.inr (.inl r24_2))) (
 cond (inR s4 (List.length b1)) (
 let t31_2:=(List.getD b1 (Int.toNat s4) (ByteArray.empty,(0,([]:Tn42))))
 (j05S (t31_2.1,(t31_2.2.1,t31_2.2.2))).bind fun r33_2=>
 cond ((inR s4 (List.length b1)) || !(!(r33_2 != 0))) (
 let t39_2:=(List.getD b1 (Int.toNat s4) (ByteArray.empty,(0,([]:Tn42))))
 cond (r33_2 != 0) (
 some (.inr (.inl 8))) (
 (j09g (t39_2.1,(t39_2.2.1,t39_2.2.2))).bind fun r41_2=>
 cond (!r41_2) (
 some (.inr (.inl 8))) (
 let t12_2:=(w64 (s4+1))
 some (.inl (t12_2,b1,b1_1,b1_2,b1_3,t21_2))))) none) none)) none) none) (
 some (.inr (.inr ())))
def j07L [LP] (s4:Int) (b1:Tn54) (b1_1:Tn48) (b1_2:Tn26) (b1_3:Tn65) (l3:(List ByteArray)):Option (Int ⊕ Unit):=
 LP.lp (fun h=>j03Z h.1 h.2.1 h.2.2.1 h.2.2.2.1 h.2.2.2.2.1 h.2.2.2.2.2) (s4,b1,b1_1,b1_2,b1_3,l3)
theorem j0bG (s4:Int) (b1:Tn54) (b1_1:Tn48) (b1_2:Tn26) (b1_3:Tn65) (l3:(List ByteArray)):j07L s4 b1 b1_1 b1_2 b1_3 l3=lpK (j03Z s4 b1 b1_1 b1_2 b1_3 l3) (fun h=>j07L h.1 h.2.1 h.2.2.1 h.2.2.2.1 h.2.2.2.2.1 h.2.2.2.2.2):=j003 _ _
def j0gF [LP] (a0_c:Tn71):Option (Int):=
 (j07L 0 a0_c.1 a0_c.2.1 a0_c.2.2.1 a0_c.2.2.2 ([]:(List ByteArray))).bind fun q0=>
 sumC q0 (fun a=>
 some a) (fun b=>
 some 0)
def r08_in (a0_n a1_lo a2_hi:Int):Option (Bool):=
 some (cond (decide (a0_n≥a1_lo)) (decide (a0_n≤a2_hi)) false)
def j040 (s0:Tn2) (s3:Int):Option ((Tn2×Int) ⊕ (Int ⊕ Unit)):=
 let t9_1:=(Int.ofNat (List.length s0))
 cond (decide (s3<t9_1)) (
 cond (inR s3 (List.length s0)) (
 let t15_1:=(List.getD s0 (Int.toNat s3) (0,0))
 cond (decide (t15_1.1<0)) (
 some (.inr (.inl 1))) (
 cond (inR s3 (List.length s0)) (
 let t22_1:=(List.getD s0 (Int.toNat s3) (0,0))
 cond (inR s3 (List.length s0)) (
 let t27_1:=(List.getD s0 (Int.toNat s3) (0,0))
 cond (decide (t22_1.1≥t27_1.2)) (
 some (.inr (.inl 1))) (
 cond (inR s3 (List.length s0)) (
 let t35_1:=(List.getD s0 (Int.toNat s3) (0,0))
 cond (decide (t35_1.2>604800)) (
 some (.inr (.inl 1))) (
 cond (decide (s3>0)) (
 cond (inR s3 (List.length s0)) (
 let t45_1:=(List.getD s0 (Int.toNat s3) (0,0))
 let t50_1:=(w64 (s3-1))
 cond (inR t50_1 (List.length s0)) (
 let t51_1:=(List.getD s0 (Int.toNat t50_1) (0,0))
 cond (decide (t45_1.1<t51_1.2)) (
 some (.inr (.inl 6))) (
 let t12_2:=(w64 (s3+1))
 some (.inl (s0,t12_2)))) none) none) (
 let t12_3:=(w64 (s3+1))
 some (.inl (s0,t12_3))))) none)) none) none)) none) (
 some (.inr (.inr ())))
def j07M [LP] (s0:Tn2) (s3:Int):Option (Int ⊕ Unit):=
 LP.lp (fun h=>j040 h.1 h.2) (s0,s3)
theorem j0bH (s0:Tn2) (s3:Int):j07M s0 s3=lpK (j040 s0 s3) (fun h=>j07M h.1 h.2):=j003 _ _
def j0bq [LP] (a0_l:Tn2):Option (Int):=
 let t5:=(Int.ofNat (List.length a0_l))
 cond (decide (t5>14)) (
 some 5) (
 (j07M a0_l 0).bind fun q0=>
 sumC q0 (fun a=>
 some a) (fun b=>
 some 0))
def j0eG (a0_n:Int):Option (Bool):=
 (r08_in a0_n 0 604800).bind fun r4=>
 let t7:=(Int.tmod a0_n 3600)
 some (cond r4 (t7==0) false)
def j03w [LP] (s4:Int) (b1:Tn54) (b1_1:Tn48) (b1_2:Tn26) (b1_3:Tn65) (l3:(List ByteArray)):Option ((Int×Tn54×Tn48×Tn26×Tn65×(List ByteArray)) ⊕ (Int ⊕ Unit)):=
 let t10_2:=(Int.ofNat (List.length b1_1))
 cond (decide (s4<t10_2)) (
 cond (inR s4 (List.length b1_1)) (
 let t17_2:=(List.getD b1_1 (Int.toNat s4) (ByteArray.empty,(0,(([]:Tn2),(0,(0,false))))))
 cond (decide (List.length l3+List.length [t17_2.1]≤sizeMax)) (
 let t23_2:(List ByteArray):=(l3++[t17_2.1])
 let t26_1:Bool:=(ByteArray.toList t17_2.1==ByteArray.toList (ByteArray.mk #[110,111,98,111,100,121]))
 cond t26_1 (
 some (.inr (.inl 2))) (
 (j09A t23_2 s4).bind fun r29_2=>
 cond (r29_2 != 0) (
 some (.inr (.inl r29_2))) (
 let t38_2:=(Int.ofNat (List.length b1))
 let t39_2:=(w64 (t38_2-1))
 (r08_in t17_2.2.1 0 t39_2).bind fun r40_2=>
 cond (!r40_2) (
 some (.inr (.inl 3))) (
 (j0bq t17_2.2.2.1).bind fun r45_2=>
 cond (r45_2 != 0) (
 some (.inr (.inl 8))) (
 (j0eG t17_2.2.2.2.1).bind fun r50_2=>
 cond (!r50_2) (
 some (.inr (.inl 1))) (
 (j0eG t17_2.2.2.2.2.1).bind fun r55_2=>
 cond (!r55_2) (
 some (.inr (.inl 1))) (
 let t13_2:=(w64 (s4+1))
 some (.inl (t13_2,b1,b1_1,b1_2,b1_3,t23_2))))))))) none) none) (
 some (.inr (.inr ())))
def j06L [LP] (s4:Int) (b1:Tn54) (b1_1:Tn48) (b1_2:Tn26) (b1_3:Tn65) (l3:(List ByteArray)):Option (Int ⊕ Unit):=
 LP.lp (fun h=>j03w h.1 h.2.1 h.2.2.1 h.2.2.2.1 h.2.2.2.2.1 h.2.2.2.2.2) (s4,b1,b1_1,b1_2,b1_3,l3)
theorem j0az (s4:Int) (b1:Tn54) (b1_1:Tn48) (b1_2:Tn26) (b1_3:Tn65) (l3:(List ByteArray)):j06L s4 b1 b1_1 b1_2 b1_3 l3=lpK (j03w s4 b1 b1_1 b1_2 b1_3 l3) (fun h=>j06L h.1 h.2.1 h.2.2.1 h.2.2.2.1 h.2.2.2.2.1 h.2.2.2.2.2):=j003 _ _
def j0f2 [LP] (a0_c:Tn71):Option (Int):=
 (j06L 0 a0_c.1 a0_c.2.1 a0_c.2.2.1 a0_c.2.2.2 ([]:(List ByteArray))).bind fun q0=>
 sumC q0 (fun a=>
 some a) (fun b=>
 some 0)
def j09h  : Option (Int):=
 (j0f1 2241).bind fun r1=>
 let t2:=(w64 (r1-1))
 some t2
def j02q (s4 s7:Int) (b1:Tn54) (b1_1:Tn48) (b1_2:Tn26) (b1_3:Tn65) (b5:ByteArray) (b5_1:Int) (b5_2:(List Int)) (l3:(List ByteArray)):Option ((Int×Int×Tn54×Tn48×Tn26×Tn65×ByteArray×Int×(List Int)×(List ByteArray)) ⊕ (Int ⊕ (Int×Tn54×Tn48×Tn26×Tn65×ByteArray×Int×(List Int)×(List ByteArray)))):=
 let t47_3:=(Int.ofNat (List.length b5_2))
 cond (decide (s7<t47_3)) (
 cond (inR s7 (List.length b5_2)) (
 let t54_3:=(List.getD b5_2 (Int.toNat s7) 0)
 (j09h).bind fun r56_3=>
 (r08_in t54_3 0 r56_3).bind fun r57_3=>
 cond (!r57_3) (
 some (.inr (.inl 1))) (
 let t50_3:=(w64 (s7+1))
 some (.inl (s4,t50_3,b1,b1_1,b1_2,b1_3,b5,b5_1,b5_2,l3)))) none) (
 some (.inr (.inr (s4,b1,b1_1,b1_2,b1_3,b5,b5_1,b5_2,l3))))
def j04r [LP] (s4 s7:Int) (b1:Tn54) (b1_1:Tn48) (b1_2:Tn26) (b1_3:Tn65) (b5:ByteArray) (b5_1:Int) (b5_2:(List Int)) (l3:(List ByteArray)):Option (Int ⊕ (Int×Tn54×Tn48×Tn26×Tn65×ByteArray×Int×(List Int)×(List ByteArray))):=
 LP.lp (fun h=>j02q h.1 h.2.1 h.2.2.1 h.2.2.2.1 h.2.2.2.2.1 h.2.2.2.2.2.1 h.2.2.2.2.2.2.1 h.2.2.2.2.2.2.2.1 h.2.2.2.2.2.2.2.2.1 h.2.2.2.2.2.2.2.2.2) (s4,s7,b1,b1_1,b1_2,b1_3,b5,b5_1,b5_2,l3)
theorem j08r (s4 s7:Int) (b1:Tn54) (b1_1:Tn48) (b1_2:Tn26) (b1_3:Tn65) (b5:ByteArray) (b5_1:Int) (b5_2:(List Int)) (l3:(List ByteArray)):j04r s4 s7 b1 b1_1 b1_2 b1_3 b5 b5_1 b5_2 l3=lpK (j02q s4 s7 b1 b1_1 b1_2 b1_3 b5 b5_1 b5_2 l3) (fun h=>j04r h.1 h.2.1 h.2.2.1 h.2.2.2.1 h.2.2.2.2.1 h.2.2.2.2.2.1 h.2.2.2.2.2.2.1 h.2.2.2.2.2.2.2.1 h.2.2.2.2.2.2.2.2.1 h.2.2.2.2.2.2.2.2.2):=j003 _ _
def j03g (s4 s8:Int) (b1:Tn54) (b1_1:Tn48) (b1_2:Tn26) (b1_3:Tn65) (b5:ByteArray) (b5_1:Int) (b5_2:(List Int)) (l3:(List ByteArray)):Option ((Int×Int×Tn54×Tn48×Tn26×Tn65×ByteArray×Int×(List Int)×(List ByteArray)) ⊕ (Int ⊕ (Int×Tn54×Tn48×Tn26×Tn65×(List ByteArray)))):=
 let t62_3:=(Int.ofNat (List.length b5_2))
 cond (decide (s8<t62_3)) (
 cond (inR s8 (List.length b5_2)) (
 let t69_3:=(List.getD b5_2 (Int.toNat s8) 0)
 let t74_3:=(w64 (s8-1))
 cond (inR t74_3 (List.length b5_2)) (
 let t75_3:=(List.getD b5_2 (Int.toNat t74_3) 0)
 cond (decide (t69_3≤t75_3)) (
 some (.inr (.inl 6))) (
 let t65_3:=(w64 (s8+1))
 some (.inl (s4,t65_3,b1,b1_1,b1_2,b1_3,b5,b5_1,b5_2,l3)))) none) none) (
 some (.inr (.inr (s4,b1,b1_1,b1_2,b1_3,l3))))
def j04s [LP] (s4 s8:Int) (b1:Tn54) (b1_1:Tn48) (b1_2:Tn26) (b1_3:Tn65) (b5:ByteArray) (b5_1:Int) (b5_2:(List Int)) (l3:(List ByteArray)):Option (Int ⊕ (Int×Tn54×Tn48×Tn26×Tn65×(List ByteArray))):=
 LP.lp (fun h=>j03g h.1 h.2.1 h.2.2.1 h.2.2.2.1 h.2.2.2.2.1 h.2.2.2.2.2.1 h.2.2.2.2.2.2.1 h.2.2.2.2.2.2.2.1 h.2.2.2.2.2.2.2.2.1 h.2.2.2.2.2.2.2.2.2) (s4,s8,b1,b1_1,b1_2,b1_3,b5,b5_1,b5_2,l3)
theorem j0cE (s4 s8:Int) (b1:Tn54) (b1_1:Tn48) (b1_2:Tn26) (b1_3:Tn65) (b5:ByteArray) (b5_1:Int) (b5_2:(List Int)) (l3:(List ByteArray)):j04s s4 s8 b1 b1_1 b1_2 b1_3 b5 b5_1 b5_2 l3=lpK (j03g s4 s8 b1 b1_1 b1_2 b1_3 b5 b5_1 b5_2 l3) (fun h=>j04s h.1 h.2.1 h.2.2.1 h.2.2.2.1 h.2.2.2.2.1 h.2.2.2.2.2.1 h.2.2.2.2.2.2.1 h.2.2.2.2.2.2.2.1 h.2.2.2.2.2.2.2.2.1 h.2.2.2.2.2.2.2.2.2):=j003 _ _
def j02r [LP] (s4:Int) (b1:Tn54) (b1_1:Tn48) (b1_2:Tn26) (b1_3:Tn65) (l3:(List ByteArray)):Option ((Int×Tn54×Tn48×Tn26×Tn65×(List ByteArray)) ⊕ (Int ⊕ Unit)):=
 let t12_2:=(Int.ofNat (List.length b1_2))
 cond (decide (s4<t12_2)) (
 cond (inR s4 (List.length b1_2)) (
 let t19_2:=(List.getD b1_2 (Int.toNat s4) (ByteArray.empty,(0,([]:(List Int)))))
 cond (decide (List.length l3+List.length [t19_2.1]≤sizeMax)) (
 let t25_2:(List ByteArray):=(l3++[t19_2.1])
 (j09A t25_2 s4).bind fun r28_2=>
 cond (r28_2 != 0) (
 some (.inr (.inl r28_2))) (
 let t36_2:=(Int.ofNat (List.length b1))
 let t37_2:=(w64 (t36_2-1))
 (r08_in t19_2.2.1 0 t37_2).bind fun r38_2=>
 cond (!r38_2) (
 some (.inr (.inl 3))) (
 let t42_2:=(Int.ofNat (List.length t19_2.2.2))
 cond (decide (t42_2>64)) (
 some (.inr (.inl 5))) (
 (j04r s4 0 b1 b1_1 b1_2 b1_3 t19_2.1 t19_2.2.1 t19_2.2.2 t25_2).bind fun q2_2=>
 sumC q2_2 (fun a_4=>
 some (.inr (.inl a_4))) (fun b_4=>
 (j04s b_4.1 1 b_4.2.1 b_4.2.2.1 b_4.2.2.2.1 b_4.2.2.2.2.1 b_4.2.2.2.2.2.1 b_4.2.2.2.2.2.2.1 b_4.2.2.2.2.2.2.2.1 b_4.2.2.2.2.2.2.2.2).bind fun q4_2=>
 sumC q4_2 (fun a_5=>
 some (.inr (.inl a_5))) (fun b_5=>
 let t15_2:=(w64 (b_5.1+1))
 some (.inl (t15_2,b_5.2.1,b_5.2.2.1,b_5.2.2.2.1,b_5.2.2.2.2.1,b_5.2.2.2.2.2)))))))) none) none) (
 some (.inr (.inr ())))
def j04t [LP] (s4:Int) (b1:Tn54) (b1_1:Tn48) (b1_2:Tn26) (b1_3:Tn65) (l3:(List ByteArray)):Option (Int ⊕ Unit):=
 LP.lp (fun h=>j02r h.1 h.2.1 h.2.2.1 h.2.2.2.1 h.2.2.2.2.1 h.2.2.2.2.2) (s4,b1,b1_1,b1_2,b1_3,l3)
theorem j08s (s4:Int) (b1:Tn54) (b1_1:Tn48) (b1_2:Tn26) (b1_3:Tn65) (l3:(List ByteArray)):j04t s4 b1 b1_1 b1_2 b1_3 l3=lpK (j02r s4 b1 b1_1 b1_2 b1_3 l3) (fun h=>j04t h.1 h.2.1 h.2.2.1 h.2.2.2.1 h.2.2.2.2.1 h.2.2.2.2.2):=j003 _ _
def j0aA [LP] (a0_c:Tn71):Option (Int):=
 (j04t 0 a0_c.1 a0_c.2.1 a0_c.2.2.1 a0_c.2.2.2 ([]:(List ByteArray))).bind fun q0=>
 sumC q0 (fun a=>
 some a) (fun b=>
 some 0)
def j041 (s5:Int) (b2:Tn54) (b2_1:Tn48) (b2_2:Tn26) (b2_3:Tn65) (b3:ByteArray) (b3_1 b3_2 b3_3 b3_4 b3_5:Int) (b3_6:(List Int)) (b3_7:Tn2) (b3_8 b3_9:Int):Option ((Int×Tn54×Tn48×Tn26×Tn65×ByteArray×Int×Int×Int×Int×Int×(List Int)×Tn2×Int×Int) ⊕ (Int ⊕ (Tn54×Tn48×Tn26×Tn65×ByteArray×Int×Int×Int×Int×Int×(List Int)×Tn2×Int×Int))):=
 let t54_1:=(Int.ofNat (List.length b3_6))
 cond (decide (s5<t54_1)) (
 cond (inR s5 (List.length b3_6)) (
 let t61_1:=(List.getD b3_6 (Int.toNat s5) 0)
 let t65_1:=(Int.ofNat (List.length b2_1))
 let t66_1:=(w64 (t65_1-1))
 (r08_in t61_1 0 t66_1).bind fun r67_1=>
 cond (!r67_1) (
 some (.inr (.inl 3))) (
 let t57_1:=(w64 (s5+1))
 some (.inl (t57_1,b2,b2_1,b2_2,b2_3,b3,b3_1,b3_2,b3_3,b3_4,b3_5,b3_6,b3_7,b3_8,b3_9)))) none) (
 some (.inr (.inr (b2,b2_1,b2_2,b2_3,b3,b3_1,b3_2,b3_3,b3_4,b3_5,b3_6,b3_7,b3_8,b3_9))))
def j07N [LP] (s5:Int) (b2:Tn54) (b2_1:Tn48) (b2_2:Tn26) (b2_3:Tn65) (b3:ByteArray) (b3_1 b3_2 b3_3 b3_4 b3_5:Int) (b3_6:(List Int)) (b3_7:Tn2) (b3_8 b3_9:Int):Option (Int ⊕ (Tn54×Tn48×Tn26×Tn65×ByteArray×Int×Int×Int×Int×Int×(List Int)×Tn2×Int×Int)):=
 LP.lp (fun h=>j041 h.1 h.2.1 h.2.2.1 h.2.2.2.1 h.2.2.2.2.1 h.2.2.2.2.2.1 h.2.2.2.2.2.2.1 h.2.2.2.2.2.2.2.1 h.2.2.2.2.2.2.2.2.1 h.2.2.2.2.2.2.2.2.2.1 h.2.2.2.2.2.2.2.2.2.2.1 h.2.2.2.2.2.2.2.2.2.2.2.1 h.2.2.2.2.2.2.2.2.2.2.2.2.1 h.2.2.2.2.2.2.2.2.2.2.2.2.2.1 h.2.2.2.2.2.2.2.2.2.2.2.2.2.2) (s5,b2,b2_1,b2_2,b2_3,b3,b3_1,b3_2,b3_3,b3_4,b3_5,b3_6,b3_7,b3_8,b3_9)
theorem j0bI (s5:Int) (b2:Tn54) (b2_1:Tn48) (b2_2:Tn26) (b2_3:Tn65) (b3:ByteArray) (b3_1 b3_2 b3_3 b3_4 b3_5:Int) (b3_6:(List Int)) (b3_7:Tn2) (b3_8 b3_9:Int):j07N s5 b2 b2_1 b2_2 b2_3 b3 b3_1 b3_2 b3_3 b3_4 b3_5 b3_6 b3_7 b3_8 b3_9=lpK (j041 s5 b2 b2_1 b2_2 b2_3 b3 b3_1 b3_2 b3_3 b3_4 b3_5 b3_6 b3_7 b3_8 b3_9) (fun h=>j07N h.1 h.2.1 h.2.2.1 h.2.2.2.1 h.2.2.2.2.1 h.2.2.2.2.2.1 h.2.2.2.2.2.2.1 h.2.2.2.2.2.2.2.1 h.2.2.2.2.2.2.2.2.1 h.2.2.2.2.2.2.2.2.2.1 h.2.2.2.2.2.2.2.2.2.2.1 h.2.2.2.2.2.2.2.2.2.2.2.1 h.2.2.2.2.2.2.2.2.2.2.2.2.1 h.2.2.2.2.2.2.2.2.2.2.2.2.2.1 h.2.2.2.2.2.2.2.2.2.2.2.2.2.2):=j003 _ _
def j0cF [LP] (a0_c:Tn71) (a1_l:Tn59):Option (Int):=
 let t11:=(Int.ofNat (List.length a0_c.1))
 let t12:=(w64 (t11-1))
 (r08_in a1_l.2.1 0 t12).bind fun r13=>
 cond (!r13) (
 some 3) (
 (j09h).bind fun r19=>
 (r08_in a1_l.2.2.1.1 1 r19).bind fun r20=>
 cond (!r20) (
 some 1) (
 (r08_in a1_l.2.2.1.2 0 86399).bind fun r26=>
 cond (!r26) (
 some 1) (
 (r08_in a1_l.2.2.2.1 0 2).bind fun r32=>
 cond (!r32) (
 some 1) (
 (r08_in a1_l.2.2.2.2.1 1 400).bind fun r38=>
 cond (!r38) (
 some 1) (
 let t44:=(Int.ofNat (List.length a1_l.2.2.2.2.2.1))
 cond (t44==0) (
 some 7) (
 let t49:=(Int.ofNat (List.length a1_l.2.2.2.2.2.1))
 cond (decide (t49>12)) (
 some 5) (
 (j07N 0 a0_c.1 a0_c.2.1 a0_c.2.2.1 a0_c.2.2.2 a1_l.1 a1_l.2.1 a1_l.2.2.1.1 a1_l.2.2.1.2 a1_l.2.2.2.1 a1_l.2.2.2.2.1 a1_l.2.2.2.2.2.1 a1_l.2.2.2.2.2.2.1 a1_l.2.2.2.2.2.2.2.1 a1_l.2.2.2.2.2.2.2.2).bind fun q1=>
 sumC q1 (fun a=>
 some a) (fun b=>
 (j0bq b.2.2.2.2.2.2.2.2.2.2.2.1).bind fun r72=>
 cond (r72 != 0) (
 some 8) (
 (r08_in b.2.2.2.2.2.2.2.2.2.2.2.2.2 0 2).bind fun r77=>
 cond (!r77) (
 some 1) (
 let t88:=(Int.ofNat (List.length b.2.2.1))
 let t89:=(w64 (t88-1))
 cond (b.2.2.2.2.2.2.2.2.2.2.2.2.2 != 0) (
 (r08_in b.2.2.2.2.2.2.2.2.2.2.2.2.1 0 t89).bind fun r90=>
 cond (!r90) (
 some 3) (
 let t101:Bool:=(cond (b.2.2.2.2.2.2.2.2.2.2.2.2.2==0) (b.2.2.2.2.2.2.2.2.2.2.2.2.1 != 0) false)
 cond t101 (
 some 1) (
 some 0))) (
 let t101_1:Bool:=(cond (b.2.2.2.2.2.2.2.2.2.2.2.2.2==0) (b.2.2.2.2.2.2.2.2.2.2.2.2.1 != 0) false)
 cond t101_1 (
 some 1) (
 some 0))))))))))))
def j0f3 (a0_c:Tn71) (a1_x:Tn24):Option (Int):=
 let t8:=(Int.ofNat (List.length a0_c.2.1))
 (r08_in a1_x.1 0 2).bind fun r12=>
 cond (!r12) (
 some 1) (
 let t18:=(w64 (t8-1))
 (r08_in a1_x.2.1 0 t18).bind fun r19=>
 let t39:=(w64 (t8-1))
 cond (cond (!r19) (cond (a1_x.1 != 1) true (a1_x.2.1 != (-1))) false) (
 cond ((!(a1_x.1==2)) || !(!true)) (
 some 3) none) (
 cond (a1_x.1==2) (
 (r08_in a1_x.2.2.1 0 t39).bind fun r40=>
 cond (!r40) (
 some 3) (
 cond (cond (a1_x.1 != 2) (a1_x.2.2.1 != 0) false) (
 some 1) (
 cond (cond (a1_x.1==2) (a1_x.2.1==a1_x.2.2.1) false) (
 some 4) (
 cond (decide (a1_x.2.2.2.1<0)) (
 some 1) (
 cond (decide (a1_x.2.2.2.2<0)) (
 some 1) (
 let t76:=(w64 (Int.tdiv a1_x.2.2.2.2 86400))
 (j09h).bind fun r77=>
 cond (decide (t76>r77)) (
 some 1) (
 cond (decide (a1_x.2.2.2.1≥a1_x.2.2.2.2)) (
 some 6) (
 some 0)))))))) (
 cond (cond (a1_x.1 != 2) (a1_x.2.2.1 != 0) false) (
 some 1) (
 cond (cond (a1_x.1==2) (a1_x.2.1==a1_x.2.2.1) false) (
 some 4) (
 cond (decide (a1_x.2.2.2.1<0)) (
 some 1) (
 cond (decide (a1_x.2.2.2.2<0)) (
 some 1) (
 let t76_1:=(w64 (Int.tdiv a1_x.2.2.2.2 86400))
 (j09h).bind fun r77_1=>
 cond (decide (t76_1>r77_1)) (
 some 1) (
 cond (decide (a1_x.2.2.2.1≥a1_x.2.2.2.2)) (
 some 6) (
 some 0)))))))))
def j02s [LP] (s4 s8:Int) (b1:Tn54) (b1_1:Tn48) (b1_2:Tn26) (b1_3:Tn65) (b5:ByteArray) (b5_1:Tn60) (b5_2:Tn29) (l3 l7:(List ByteArray)):Option ((Int×Int×Tn54×Tn48×Tn26×Tn65×ByteArray×Tn60×Tn29×(List ByteArray)×(List ByteArray)) ⊕ (Int ⊕ (Int×Tn54×Tn48×Tn26×Tn65×ByteArray×Tn60×Tn29×(List ByteArray)))):=
 let t49_5:=(Int.ofNat (List.length b5_1))
 cond (decide (s8<t49_5)) (
 cond (inR s8 (List.length b5_1)) (
 let t57_5:=(List.getD b5_1 (Int.toNat s8) (ByteArray.empty,(0,((0,0),(0,(0,(([]:(List Int)),(([]:Tn2),(0,0)))))))))
 cond (decide (List.length l7+List.length [t57_5.1]≤sizeMax)) (
 let t61_5:(List ByteArray):=(l7++[t57_5.1])
 (j09A t61_5 s8).bind fun r64_5=>
 cond (r64_5 != 0) (
 some (.inr (.inl r64_5))) (
 cond (inR s8 (List.length b5_1)) (
 let t72_5:=(List.getD b5_1 (Int.toNat s8) (ByteArray.empty,(0,((0,0),(0,(0,(([]:(List Int)),(([]:Tn2),(0,0)))))))))
 (j0cF (b1,(b1_1,(b1_2,b1_3))) (t72_5.1,(t72_5.2.1,((t72_5.2.2.1.1,t72_5.2.2.1.2),(t72_5.2.2.2.1,(t72_5.2.2.2.2.1,(t72_5.2.2.2.2.2.1,(t72_5.2.2.2.2.2.2.1,(t72_5.2.2.2.2.2.2.2.1,t72_5.2.2.2.2.2.2.2.2))))))))).bind fun r74_5=>
 cond (r74_5 != 0) (
 some (.inr (.inl r74_5))) (
 let t52_5:=(w64 (s8+1))
 some (.inl (s4,t52_5,b1,b1_1,b1_2,b1_3,b5,b5_1,b5_2,l3,t61_5)))) none)) none) none) (
 some (.inr (.inr (s4,b1,b1_1,b1_2,b1_3,b5,b5_1,b5_2,l3))))
def j04u [LP] (s4 s8:Int) (b1:Tn54) (b1_1:Tn48) (b1_2:Tn26) (b1_3:Tn65) (b5:ByteArray) (b5_1:Tn60) (b5_2:Tn29) (l3 l7:(List ByteArray)):Option (Int ⊕ (Int×Tn54×Tn48×Tn26×Tn65×ByteArray×Tn60×Tn29×(List ByteArray))):=
 LP.lp (fun h=>j02s h.1 h.2.1 h.2.2.1 h.2.2.2.1 h.2.2.2.2.1 h.2.2.2.2.2.1 h.2.2.2.2.2.2.1 h.2.2.2.2.2.2.2.1 h.2.2.2.2.2.2.2.2.1 h.2.2.2.2.2.2.2.2.2.1 h.2.2.2.2.2.2.2.2.2.2) (s4,s8,b1,b1_1,b1_2,b1_3,b5,b5_1,b5_2,l3,l7)
theorem j08t (s4 s8:Int) (b1:Tn54) (b1_1:Tn48) (b1_2:Tn26) (b1_3:Tn65) (b5:ByteArray) (b5_1:Tn60) (b5_2:Tn29) (l3 l7:(List ByteArray)):j04u s4 s8 b1 b1_1 b1_2 b1_3 b5 b5_1 b5_2 l3 l7=lpK (j02s s4 s8 b1 b1_1 b1_2 b1_3 b5 b5_1 b5_2 l3 l7) (fun h=>j04u h.1 h.2.1 h.2.2.1 h.2.2.2.1 h.2.2.2.2.1 h.2.2.2.2.2.1 h.2.2.2.2.2.2.1 h.2.2.2.2.2.2.2.1 h.2.2.2.2.2.2.2.2.1 h.2.2.2.2.2.2.2.2.2.1 h.2.2.2.2.2.2.2.2.2.2):=j003 _ _
def j02t (s4 s11:Int) (b1:Tn54) (b1_1:Tn48) (b1_2:Tn26) (b1_3:Tn65) (b5:ByteArray) (b5_1:Tn60) (b5_2:Tn29) (l3:(List ByteArray)):Option ((Int×Int×Tn54×Tn48×Tn26×Tn65×ByteArray×Tn60×Tn29×(List ByteArray)) ⊕ (Int ⊕ (Int×Tn54×Tn48×Tn26×Tn65×(List ByteArray)))):=
 let t81_3:=(Int.ofNat (List.length b5_2))
 cond (decide (s11<t81_3)) (
 cond (inR s11 (List.length b5_2)) (
 let t89_3:=(List.getD b5_2 (Int.toNat s11) (0,(0,(0,(0,0)))))
 (j0f3 (b1,(b1_1,(b1_2,b1_3))) (t89_3.1,(t89_3.2.1,(t89_3.2.2.1,(t89_3.2.2.2.1,t89_3.2.2.2.2))))).bind fun r91_3=>
 cond (r91_3 != 0) (
 some (.inr (.inl r91_3))) (
 let t84_3:=(w64 (s11+1))
 some (.inl (s4,t84_3,b1,b1_1,b1_2,b1_3,b5,b5_1,b5_2,l3)))) none) (
 some (.inr (.inr (s4,b1,b1_1,b1_2,b1_3,l3))))
def j04v [LP] (s4 s11:Int) (b1:Tn54) (b1_1:Tn48) (b1_2:Tn26) (b1_3:Tn65) (b5:ByteArray) (b5_1:Tn60) (b5_2:Tn29) (l3:(List ByteArray)):Option (Int ⊕ (Int×Tn54×Tn48×Tn26×Tn65×(List ByteArray))):=
 LP.lp (fun h=>j02t h.1 h.2.1 h.2.2.1 h.2.2.2.1 h.2.2.2.2.1 h.2.2.2.2.2.1 h.2.2.2.2.2.2.1 h.2.2.2.2.2.2.2.1 h.2.2.2.2.2.2.2.2.1 h.2.2.2.2.2.2.2.2.2) (s4,s11,b1,b1_1,b1_2,b1_3,b5,b5_1,b5_2,l3)
theorem j08u (s4 s11:Int) (b1:Tn54) (b1_1:Tn48) (b1_2:Tn26) (b1_3:Tn65) (b5:ByteArray) (b5_1:Tn60) (b5_2:Tn29) (l3:(List ByteArray)):j04v s4 s11 b1 b1_1 b1_2 b1_3 b5 b5_1 b5_2 l3=lpK (j02t s4 s11 b1 b1_1 b1_2 b1_3 b5 b5_1 b5_2 l3) (fun h=>j04v h.1 h.2.1 h.2.2.1 h.2.2.2.1 h.2.2.2.2.1 h.2.2.2.2.2.1 h.2.2.2.2.2.2.1 h.2.2.2.2.2.2.2.1 h.2.2.2.2.2.2.2.2.1 h.2.2.2.2.2.2.2.2.2):=j003 _ _
def j02u [LP] (s4:Int) (b1:Tn54) (b1_1:Tn48) (b1_2:Tn26) (b1_3:Tn65) (l3:(List ByteArray)):Option ((Int×Tn54×Tn48×Tn26×Tn65×(List ByteArray)) ⊕ (Int ⊕ Unit)):=
 let t16_2:=(Int.ofNat (List.length b1_3))
 cond (decide (s4<t16_2)) (
 cond (inR s4 (List.length b1_3)) (
 let t23_2:=(List.getD b1_3 (Int.toNat s4) (ByteArray.empty,(([]:Tn60),([]:Tn29))))
 cond (decide (List.length l3+List.length [t23_2.1]≤sizeMax)) (
 let t29_2:(List ByteArray):=(l3++[t23_2.1])
 (j09A t29_2 s4).bind fun r32_2=>
 cond (r32_2 != 0) (
 some (.inr (.inl r32_2))) (
 let t38_2:=(Int.ofNat (List.length t23_2.2.1))
 let t43_2:=(Int.ofNat (List.length t23_2.2.2))
 cond (cond (decide (t38_2>6)) true (decide (t43_2>48))) (
 some (.inr (.inl 5))) (
 (j04u s4 0 b1 b1_1 b1_2 b1_3 t23_2.1 t23_2.2.1 t23_2.2.2 t29_2 ([]:(List ByteArray))).bind fun q2_2=>
 sumC q2_2 (fun a_4=>
 some (.inr (.inl a_4))) (fun b_4=>
 (j04v b_4.1 0 b_4.2.1 b_4.2.2.1 b_4.2.2.2.1 b_4.2.2.2.2.1 b_4.2.2.2.2.2.1 b_4.2.2.2.2.2.2.1 b_4.2.2.2.2.2.2.2.1 b_4.2.2.2.2.2.2.2.2).bind fun q4_2=>
 sumC q4_2 (fun a_5=>
 some (.inr (.inl a_5))) (fun b_5=>
 let t19_2:=(w64 (b_5.1+1))
 some (.inl (t19_2,b_5.2.1,b_5.2.2.1,b_5.2.2.2.1,b_5.2.2.2.2.1,b_5.2.2.2.2.2))))))) none) none) (
 some (.inr (.inr ())))
def j04w [LP] (s4:Int) (b1:Tn54) (b1_1:Tn48) (b1_2:Tn26) (b1_3:Tn65) (l3:(List ByteArray)):Option (Int ⊕ Unit):=
 LP.lp (fun h=>j02u h.1 h.2.1 h.2.2.1 h.2.2.2.1 h.2.2.2.2.1 h.2.2.2.2.2) (s4,b1,b1_1,b1_2,b1_3,l3)
theorem j08v (s4:Int) (b1:Tn54) (b1_1:Tn48) (b1_2:Tn26) (b1_3:Tn65) (l3:(List ByteArray)):j04w s4 b1 b1_1 b1_2 b1_3 l3=lpK (j02u s4 b1 b1_1 b1_2 b1_3 l3) (fun h=>j04w h.1 h.2.1 h.2.2.1 h.2.2.2.1 h.2.2.2.2.1 h.2.2.2.2.2):=j003 _ _
def j0aB [LP] (a0_c:Tn71):Option (Int):=
 (j04w 0 a0_c.1 a0_c.2.1 a0_c.2.2.1 a0_c.2.2.2 ([]:(List ByteArray))).bind fun q0=>
 sumC q0 (fun a=>
 some a) (fun b=>
 some 0)
def j0cG [LP] (a0_c:Tn71):Option (Int):=
 let t8:=(Int.ofNat (List.length a0_c.1))
 let t13:=(Int.ofNat (List.length a0_c.2.1))
 let t19:=(Int.ofNat (List.length a0_c.2.2.1))
 let t21:Bool:=(cond (cond (decide (t8>16)) true (decide (t13>32))) true (decide (t19>8)))
 let t25:=(Int.ofNat (List.length a0_c.2.2.2))
 cond (cond t21 true (decide (t25>12))) (
 some 5) (
 (j0gF (a0_c.1,(a0_c.2.1,(a0_c.2.2.1,a0_c.2.2.2)))).bind fun r29=>
 cond (r29 != 0) (
 some r29) (
 (j0f2 (a0_c.1,(a0_c.2.1,(a0_c.2.2.1,a0_c.2.2.2)))).bind fun r34=>
 cond (r34 != 0) (
 some r34) (
 (j0aA (a0_c.1,(a0_c.2.1,(a0_c.2.2.1,a0_c.2.2.2)))).bind fun r39=>
 cond (r39 != 0) (
 some r39) (
 (j0aB (a0_c.1,(a0_c.2.1,(a0_c.2.2.1,a0_c.2.2.2)))).bind fun r44=>
 some r44))))
def j0dG [LP] (a0_z:Tn52):Option (Int):=
 (j00D (a0_z.1,(a0_z.2.1,a0_z.2.2))).bind fun r7=>
 let t14:=(Int.ofNat (List.length r7.1))
 cond (cond (r7.2 != 0) true (t14==0)) (
 some 0) (
 let t19:=(Int.ofNat (List.length r7.1))
 let t20:=(w64 (t19-1))
 cond (inR t20 (List.length r7.1)) (
 let t23:=(List.getD r7.1 (Int.toNat t20) (0,0)).1
 some t23) none)
def j0aC [LP] (a0_z:Tn52):Option (Int):=
 (j00D (a0_z.1,(a0_z.2.1,a0_z.2.2))).bind fun r7=>
 let t14:=(Int.ofNat (List.length r7.1))
 cond (cond (r7.2 != 0) true (t14==0)) (
 some 0) (
 (j0dG (a0_z.1,(a0_z.2.1,a0_z.2.2))).bind fun r18=>
 let t19:=(w64 (r18+86400))
 some t19)
def j09B [LP] (a0_z:Tn52) (a1_l:Tn59):Option (Int):=
 (j05S (a0_z.1,(a0_z.2.1,a0_z.2.2))).bind fun r6=>
 let t19:Bool:=(cond (cond (r6 != 0) true (decide (a1_l.2.2.1.1<1))) true (decide (a1_l.2.2.1.1>100000)))
 let t31:Bool:=(cond (cond t19 true (decide (a1_l.2.2.1.2<0))) true (decide (a1_l.2.2.1.2≥86400)))
 let t41:Bool:=(cond (cond t31 true (decide (a1_l.2.2.2.1<0))) true (decide (a1_l.2.2.2.1>2)))
 let t51:Bool:=(cond (cond t41 true (decide (a1_l.2.2.2.2.1<1))) true (decide (a1_l.2.2.2.2.1>400)))
 let t55:=(Int.ofNat (List.length a1_l.2.2.2.2.2.1))
 cond (cond t51 true (t55==0)) (
 some 8) (
 some 0)
def j0cH (a0_day:Int):Option (Bool):=
 (r04_in a0_day (-2) 99422).bind fun r4=>
 some r4
def j02R (s8:Int) (b2:ByteArray) (b2_1:Int) (b2_2:Tn42) (b3 b3_1:Int) (l6:Tn2):Option ((Int×ByteArray×Int×Tn42×Int×Int×Tn2) ⊕ ((Int×Int) ⊕ Unit)):=
 let t33_1:=(Int.ofNat (List.length l6))
 cond (decide (s8<t33_1)) (
 cond (decide (s8≥0)) (
 cond (inR s8 (List.length l6)) (
 let t45_1:=(List.getD l6 (Int.toNat s8) (0,0)).2
 cond (inR s8 (List.length l6)) (
 let t50_1:=(List.getD l6 (Int.toNat s8) (0,0)).1
 let t52_2:=(w64 (s8+1))
 let t54_2:=(Int.ofNat (List.length l6))
 cond (decide (t52_2<t54_2)) (
 let t58_2:=(w64 (s8+1))
 cond (inR t58_2 (List.length l6)) (
 let t61_2:=(List.getD l6 (Int.toNat t58_2) (0,0)).1
 let t65_4:=(w64 (b3*86400))
 let t68_4:=(w64 (t65_4+b3_1))
 let t70_4:=(w64 (t68_4-t45_1))
 let t71_4:Int:=(if t70_4>t50_1 then t70_4 else t50_1:Int)
 cond (decide (t71_4<t61_2)) (
 some (.inr (.inl (t71_4,0)))) (
 let t36_4:=(w64 (s8+1))
 some (.inl (t36_4,b2,b2_1,b2_2,b3,b3_1,l6)))) none) (
 let t65_5:=(w64 (b3*86400))
 let t68_5:=(w64 (t65_5+b3_1))
 let t70_5:=(w64 (t68_5-t45_1))
 let t71_5:Int:=(if t70_5>t50_1 then t70_5 else t50_1:Int)
 cond (decide (t71_5<8589934593)) (
 some (.inr (.inl (t71_5,0)))) (
 let t36_5:=(w64 (s8+1))
 some (.inl (t36_5,b2,b2_1,b2_2,b3,b3_1,l6))))) none) none) (
 let t52_3:=(w64 (s8+1))
 let t54_3:=(Int.ofNat (List.length l6))
 cond (decide (t52_3<t54_3)) (
 let t58_3:=(w64 (s8+1))
 cond (inR t58_3 (List.length l6)) (
 let t61_3:=(List.getD l6 (Int.toNat t58_3) (0,0)).1
 let t65_6:=(w64 (b3*86400))
 let t68_6:=(w64 (t65_6+b3_1))
 let t70_6:=(w64 (t68_6-b2_1))
 let t71_6:Int:=(if t70_6>0 then t70_6 else 0:Int)
 cond (decide (t71_6<t61_3)) (
 some (.inr (.inl (t71_6,0)))) (
 let t36_6:=(w64 (s8+1))
 some (.inl (t36_6,b2,b2_1,b2_2,b3,b3_1,l6)))) none) (
 let t65_7:=(w64 (b3*86400))
 let t68_7:=(w64 (t65_7+b3_1))
 let t70_7:=(w64 (t68_7-b2_1))
 let t71_7:Int:=(if t70_7>0 then t70_7 else 0:Int)
 cond (decide (t71_7<8589934593)) (
 some (.inr (.inl (t71_7,0)))) (
 let t36_7:=(w64 (s8+1))
 some (.inl (t36_7,b2,b2_1,b2_2,b3,b3_1,l6)))))) (
 some (.inr (.inr ())))
def j03N [LP] (s8:Int) (b2:ByteArray) (b2_1:Int) (b2_2:Tn42) (b3 b3_1:Int) (l6:Tn2):Option ((Int×Int) ⊕ Unit):=
 LP.lp (fun h=>j02R h.1 h.2.1 h.2.2.1 h.2.2.2.1 h.2.2.2.2.1 h.2.2.2.2.2.1 h.2.2.2.2.2.2) (s8,b2,b2_1,b2_2,b3,b3_1,l6)
theorem j08O (s8:Int) (b2:ByteArray) (b2_1:Int) (b2_2:Tn42) (b3 b3_1:Int) (l6:Tn2):j03N s8 b2 b2_1 b2_2 b3 b3_1 l6=lpK (j02R s8 b2 b2_1 b2_2 b3 b3_1 l6) (fun h=>j03N h.1 h.2.1 h.2.2.1 h.2.2.2.1 h.2.2.2.2.1 h.2.2.2.2.2.1 h.2.2.2.2.2.2):=j003 _ _
def j02Z [LP] (a0_z:Tn52) (a1_x:(Int×Int)):Option (Int×Int):=
 (j00D (a0_z.1,(a0_z.2.1,a0_z.2.2))).bind fun r15=>
 cond (r15.2 != 0) (
 some (0,8)) (
 (r04_in a1_x.2 0 86399).bind fun r22=>
 cond (!r22) (
 some (0,1)) (
 cond (decide (a1_x.1<(-2))) (
 some (0,0)) (
 (j0cH a1_x.1).bind fun r29=>
 cond (!r29) (
 some (0,10)) (
 (j03N (-1) a0_z.1 a0_z.2.1 a0_z.2.2 a1_x.1 a1_x.2 r15.1).bind fun q0=>
 sumC q0 (fun a=>
 some (a.1,a.2)) (fun b=>
 some (0,10))))))
def j05t [LP] (a0_z:Tn52) (a1_l:Tn59) (a2_k:Int):Option (Int×Bool):=
 cond (a1_l.2.2.2.1==0) (
 (j02Z (a0_z.1,(a0_z.2.1,a0_z.2.2)) (a1_l.2.2.1.1,a1_l.2.2.1.2)).bind fun r21=>
 let t27:=(w64 (a2_k*a1_l.2.2.2.2.1))
 let t28:=(w64 (t27*3600))
 let t31:=(w64 (r21.1+t28))
 let t37:=(w64 (r21.1+t28))
 some (t31,(cond (r21.2==0) (decide (t37≤8589934592)) false))) (
 let t43:=(w64 (a2_k*a1_l.2.2.2.2.1))
 cond (a1_l.2.2.2.1==2) (
 let t48:=(w64 (t43*7))
 let t55:=(w64 (a1_l.2.2.1.1+t48))
 (j02Z (a0_z.1,(a0_z.2.1,a0_z.2.2)) (t55,a1_l.2.2.1.2)).bind fun r60=>
 some (r60.1,(r60.2==0))) (
 let t55_1:=(w64 (a1_l.2.2.1.1+t43))
 (j02Z (a0_z.1,(a0_z.2.1,a0_z.2.2)) (t55_1,a1_l.2.2.1.2)).bind fun r60_1=>
 some (r60_1.1,(r60_1.2==0))))
def j09C [LP] (a0_z:Tn52) (a1_l:Tn59) (a2_k:Int):Option (Int×Int):=
 (j09B (a0_z.1,(a0_z.2.1,a0_z.2.2)) (a1_l.1,(a1_l.2.1,((a1_l.2.2.1.1,a1_l.2.2.1.2),(a1_l.2.2.2.1,(a1_l.2.2.2.2.1,(a1_l.2.2.2.2.2.1,(a1_l.2.2.2.2.2.2.1,(a1_l.2.2.2.2.2.2.2.1,a1_l.2.2.2.2.2.2.2.2))))))))).bind fun r13=>
 cond (r13 != 0) (
 some (0,8)) (
 cond (decide (a2_k<0)) (
 some (0,1)) (
 cond (decide (a2_k>2386092)) (
 some (0,10)) (
 (j05t (a0_z.1,(a0_z.2.1,a0_z.2.2)) (a1_l.1,(a1_l.2.1,((a1_l.2.2.1.1,a1_l.2.2.1.2),(a1_l.2.2.2.1,(a1_l.2.2.2.2.1,(a1_l.2.2.2.2.2.1,(a1_l.2.2.2.2.2.2.1,(a1_l.2.2.2.2.2.2.2.1,a1_l.2.2.2.2.2.2.2.2)))))))) a2_k).bind fun r25=>
 cond (!r25.2) (
 some (0,10)) (
 some (r25.1,0)))))
def j02i [LP] (s6 s7:Int) (b2:Tn54) (b2_1:Tn48) (b2_2:Tn26) (b2_3:Tn65) (b5:ByteArray) (b5_1:Tn60) (b5_2:Tn29):Option ((Int×Int×Tn54×Tn48×Tn26×Tn65×ByteArray×Tn60×Tn29) ⊕ ((Int×ByteArray×Tn60×Tn29))):=
 let t38_1:=(Int.ofNat (List.length b5_1))
 cond (decide (s7<t38_1)) (
 cond (inR s7 (List.length b5_1)) (
 let t45_1:=(List.getD b5_1 (Int.toNat s7) (ByteArray.empty,(0,((0,0),(0,(0,(([]:(List Int)),(([]:Tn2),(0,0)))))))))
 cond (inR t45_1.2.1 (List.length b2)) (
 let t52_1:=(List.getD b2 (Int.toNat t45_1.2.1) (ByteArray.empty,(0,([]:Tn42))))
 (j0aC (t52_1.1,(t52_1.2.1,t52_1.2.2))).bind fun r54_1=>
 let t55_1:Int:=(if r54_1>s6 then r54_1 else s6:Int)
 cond (inR t45_1.2.1 (List.length b2)) (
 let t61_1:=(List.getD b2 (Int.toNat t45_1.2.1) (ByteArray.empty,(0,([]:Tn42))))
 (j09C (t61_1.1,(t61_1.2.1,t61_1.2.2)) (t45_1.1,(t45_1.2.1,((t45_1.2.2.1.1,t45_1.2.2.1.2),(t45_1.2.2.2.1,(t45_1.2.2.2.2.1,(t45_1.2.2.2.2.2.1,(t45_1.2.2.2.2.2.2.1,(t45_1.2.2.2.2.2.2.2.1,t45_1.2.2.2.2.2.2.2.2)))))))) 0).bind fun r64_1=>
 cond (r64_1.2==0) (
 let t71_1:Int:=(if r64_1.1>t55_1 then r64_1.1 else t55_1:Int)
 cond (t45_1.2.2.2.2.2.2.2.2==0) (
 let t41_8:=(w64 (s7+1))
 some (.inl (t71_1,t41_8,b2,b2_1,b2_2,b2_3,b5,b5_1,b5_2))) (
 cond (inR t45_1.2.2.2.2.2.2.2.1 (List.length b2_2)) (
 let t79_2:=(List.getD b2_2 (Int.toNat t45_1.2.2.2.2.2.2.2.1) (ByteArray.empty,(0,([]:(List Int)))))
 cond (inR t79_2.2.1 (List.length b2)) (
 let t86_2:=(List.getD b2 (Int.toNat t79_2.2.1) (ByteArray.empty,(0,([]:Tn42))))
 (j0aC (t86_2.1,(t86_2.2.1,t86_2.2.2))).bind fun r88_2=>
 let t89_2:Int:=(if r88_2>t71_1 then r88_2 else t71_1:Int)
 let t92_2:=(Int.ofNat (List.length t79_2.2.2))
 cond (decide (t92_2>0)) (
 cond (inR t79_2.2.1 (List.length b2)) (
 let t100_2:=(List.getD b2 (Int.toNat t79_2.2.1) (ByteArray.empty,(0,([]:Tn42))))
 let t105_2:=(w64 (t92_2-1))
 cond (inR t105_2 (List.length t79_2.2.2)) (
 let t106_2:=(List.getD t79_2.2.2 (Int.toNat t105_2) 0)
 let t108_2:=(w64 (t106_2+1))
 (j02Z (t100_2.1,(t100_2.2.1,t100_2.2.2)) (t108_2,0)).bind fun r110_2=>
 cond (r110_2.2==0) (
 let t117_2:Int:=(if r110_2.1>t89_2 then r110_2.1 else t89_2:Int)
 let t41_9:=(w64 (s7+1))
 some (.inl (t117_2,t41_9,b2,b2_1,b2_2,b2_3,b5,b5_1,b5_2))) (
 let t41_10:=(w64 (s7+1))
 some (.inl (t89_2,t41_10,b2,b2_1,b2_2,b2_3,b5,b5_1,b5_2)))) none) none) (
 let t41_11:=(w64 (s7+1))
 some (.inl (t89_2,t41_11,b2,b2_1,b2_2,b2_3,b5,b5_1,b5_2)))) none) none)) (
 cond (t45_1.2.2.2.2.2.2.2.2==0) (
 let t41_12:=(w64 (s7+1))
 some (.inl (t55_1,t41_12,b2,b2_1,b2_2,b2_3,b5,b5_1,b5_2))) (
 cond (inR t45_1.2.2.2.2.2.2.2.1 (List.length b2_2)) (
 let t79_3:=(List.getD b2_2 (Int.toNat t45_1.2.2.2.2.2.2.2.1) (ByteArray.empty,(0,([]:(List Int)))))
 cond (inR t79_3.2.1 (List.length b2)) (
 let t86_3:=(List.getD b2 (Int.toNat t79_3.2.1) (ByteArray.empty,(0,([]:Tn42))))
 (j0aC (t86_3.1,(t86_3.2.1,t86_3.2.2))).bind fun r88_3=>
 let t89_3:Int:=(if r88_3>t55_1 then r88_3 else t55_1:Int)
 let t92_3:=(Int.ofNat (List.length t79_3.2.2))
 cond (decide (t92_3>0)) (
 cond (inR t79_3.2.1 (List.length b2)) (
 let t100_3:=(List.getD b2 (Int.toNat t79_3.2.1) (ByteArray.empty,(0,([]:Tn42))))
 let t105_3:=(w64 (t92_3-1))
 cond (inR t105_3 (List.length t79_3.2.2)) (
 let t106_3:=(List.getD t79_3.2.2 (Int.toNat t105_3) 0)
 let t108_3:=(w64 (t106_3+1))
 (j02Z (t100_3.1,(t100_3.2.1,t100_3.2.2)) (t108_3,0)).bind fun r110_3=>
 cond (r110_3.2==0) (
 let t117_3:Int:=(if r110_3.1>t89_3 then r110_3.1 else t89_3:Int)
 let t41_13:=(w64 (s7+1))
 some (.inl (t117_3,t41_13,b2,b2_1,b2_2,b2_3,b5,b5_1,b5_2))) (
 let t41_14:=(w64 (s7+1))
 some (.inl (t89_3,t41_14,b2,b2_1,b2_2,b2_3,b5,b5_1,b5_2)))) none) none) (
 let t41_15:=(w64 (s7+1))
 some (.inl (t89_3,t41_15,b2,b2_1,b2_2,b2_3,b5,b5_1,b5_2)))) none) none))) none) none) none) (
 some (.inr (s6,b5,b5_1,b5_2)))
def j05U [LP] (s6 s7:Int) (b2:Tn54) (b2_1:Tn48) (b2_2:Tn26) (b2_3:Tn65) (b5:ByteArray) (b5_1:Tn60) (b5_2:Tn29):Option ((Int×ByteArray×Tn60×Tn29)):=
 LP.lp (fun h=>j02i h.1 h.2.1 h.2.2.1 h.2.2.2.1 h.2.2.2.2.1 h.2.2.2.2.2.1 h.2.2.2.2.2.2.1 h.2.2.2.2.2.2.2.1 h.2.2.2.2.2.2.2.2) (s6,s7,b2,b2_1,b2_2,b2_3,b5,b5_1,b5_2)
theorem j0ac (s6 s7:Int) (b2:Tn54) (b2_1:Tn48) (b2_2:Tn26) (b2_3:Tn65) (b5:ByteArray) (b5_1:Tn60) (b5_2:Tn29):j05U s6 s7 b2 b2_1 b2_2 b2_3 b5 b5_1 b5_2=lpK (j02i s6 s7 b2 b2_1 b2_2 b2_3 b5 b5_1 b5_2) (fun h=>j05U h.1 h.2.1 h.2.2.1 h.2.2.2.1 h.2.2.2.2.1 h.2.2.2.2.2.1 h.2.2.2.2.2.2.1 h.2.2.2.2.2.2.2.1 h.2.2.2.2.2.2.2.2):=j003 _ _
def j030 (s6 s15:Int) (b5:ByteArray) (b5_1:Tn60) (b5_2:Tn29):Option ((Int×Int×ByteArray×Tn60×Tn29) ⊕ (Int)):=
 let t121_1:=(Int.ofNat (List.length b5_2))
 cond (decide (s15<t121_1)) (
 cond (inR s15 (List.length b5_2)) (
 let t129_1:=(List.getD b5_2 (Int.toNat s15) (0,(0,(0,(0,0)))))
 let t132_1:Int:=(if t129_1.2.2.2.2>s6 then t129_1.2.2.2.2 else s6:Int)
 let t124_1:=(w64 (s15+1))
 some (.inl (t132_1,t124_1,b5,b5_1,b5_2))) none) (
 some (.inr s6))
def j05V [LP] (s6 s15:Int) (b5:ByteArray) (b5_1:Tn60) (b5_2:Tn29):Option (Int):=
 LP.lp (fun h=>j030 h.1 h.2.1 h.2.2.1 h.2.2.2.1 h.2.2.2.2) (s6,s15,b5,b5_1,b5_2)
theorem j0ad (s6 s15:Int) (b5:ByteArray) (b5_1:Tn60) (b5_2:Tn29):j05V s6 s15 b5 b5_1 b5_2=lpK (j030 s6 s15 b5 b5_1 b5_2) (fun h=>j05V h.1 h.2.1 h.2.2.1 h.2.2.2.1 h.2.2.2.2):=j003 _ _
def j09i [LP] (a0_c:Tn71) (a1_schedule:Int):Option (Int):=
 (j0cG (a0_c.1,(a0_c.2.1,(a0_c.2.2.1,a0_c.2.2.2)))).bind fun r17=>
 let t27:=(Int.ofNat (List.length a0_c.2.2.2))
 let t29:Bool:=(cond (cond (r17 != 0) true (decide (a1_schedule<0))) true (decide (a1_schedule≥t27)))
 cond t29 (
 some 0) (
 cond (inR a1_schedule (List.length a0_c.2.2.2)) (
 let t33:=(List.getD a0_c.2.2.2 (Int.toNat a1_schedule) (ByteArray.empty,(([]:Tn60),([]:Tn29))))
 (j05U 0 0 a0_c.1 a0_c.2.1 a0_c.2.2.1 a0_c.2.2.2 t33.1 t33.2.1 t33.2.2).bind fun q0=>
 (j05V q0.1 0 q0.2.1 q0.2.2.1 q0.2.2.2).bind fun q2=>
 some q2) none)
def r12_Ok [LP] (a0_c:Tn71) (a1_schedule a2_t:Int):Option (Bool):=
 let t13:=(Int.ofNat (List.length a0_c.2.2.2))
 let t19:Bool:=(cond (cond (decide (a1_schedule≥0)) (decide (a1_schedule<t13)) false) (decide (a2_t≥0)) false)
 cond (cond t19 (decide (a2_t≤8589934592)) false) (
 (j0cG (a0_c.1,(a0_c.2.1,(a0_c.2.2.1,a0_c.2.2.2)))).bind fun r26=>
 some (r26==0)) (
 some false)
def j03x (s1:Tn2) (s2 s7 s8:Int):Option ((Tn2×Int×Int×Int) ⊕ (Int)):=
 let t13_1:=(Int.ofNat (List.length s1))
 cond ((inR s8 (List.length s1)) || !(decide (s8<t13_1))) (
 let t18_1:=(List.getD s1 (Int.toNat s8) (0,0))
 cond (cond (decide (s8<t13_1)) (decide (t18_1.1≤s2)) false) (
 cond (inR s8 (List.length s1)) (
 let t28_1:=(List.getD s1 (Int.toNat s8) (0,0))
 let t25_1:=(w64 (s8+1))
 some (.inl (s1,s2,t28_1.2,t25_1))) none) (
 some (.inr s7))) none
def j06M [LP] (s1:Tn2) (s2 s7 s8:Int):Option (Int):=
 LP.lp (fun h=>j03x h.1 h.2.1 h.2.2.1 h.2.2.2) (s1,s2,s7,s8)
theorem j0aD (s1:Tn2) (s2 s7 s8:Int):j06M s1 s2 s7 s8=lpK (j03x s1 s2 s7 s8) (fun h=>j06M h.1 h.2.1 h.2.2.1 h.2.2.2):=j003 _ _
def j0cI [LP] (a0_z:Tn52) (a1_l:Tn2) (a2_t:Int):Option (Int):=
 (j06M a1_l a2_t a0_z.2.1 0).bind fun q0=>
 some q0
def j07O [LP] (a0_z:Tn52) (a1_t:Int):Option (Int×Int):=
 (j00D (a0_z.1,(a0_z.2.1,a0_z.2.2))).bind fun r10=>
 cond (r10.2 != 0) (
 some (0,8)) (
 (r04_in a1_t 0 8589934592).bind fun r16=>
 cond (!r16) (
 some (0,1)) (
 (j0cI (a0_z.1,(a0_z.2.1,a0_z.2.2)) r10.1 a1_t).bind fun r21=>
 some (r21,0)))
def j0eH (a0_t a1_offset:Int):Option ((Int×Int)):=
 let t8:=(w64 (a0_t+a1_offset))
 let t9:=(w64 (t8+864000))
 let t11:=(w64 (Int.tdiv t9 86400))
 let t12:=(w64 (t11-10))
 let t14:=(Int.tmod t9 86400)
 some (t12,t14)
def j02S [LP] (a0_z:Tn52) (a1_t:Int):Option ((Int×Int)×Int):=
 (j07O (a0_z.1,(a0_z.2.1,a0_z.2.2)) a1_t).bind fun r11=>
 cond (r11.2 != 0) (
 some ((0,0),r11.2)) (
 (j0eH a1_t r11.1).bind fun r20=>
 some ((r20.1,r20.2),0))
def j042 [LP] (s2 s7:Int) (b3:ByteArray) (b3_1:Int) (b3_2:Tn42) (b4:ByteArray) (b4_1 b4_2 b4_3 b4_4 b4_5:Int) (b4_6:(List Int)) (b4_7:Tn2) (b4_8 b4_9:Int):Option ((Int×Int×ByteArray×Int×Tn42×ByteArray×Int×Int×Int×Int×Int×(List Int)×Tn2×Int×Int) ⊕ (Int)):=
 cond (decide (s7≥0)) (
 (j05t (b3,(b3_1,b3_2)) (b4,(b4_1,((b4_2,b4_3),(b4_4,(b4_5,(b4_6,(b4_7,(b4_8,b4_9)))))))) s7).bind fun r71_1=>
 cond (cond r71_1.2 (decide (r71_1.1≤s2)) false) (
 some (.inr s7)) (
 let t66_1:=(w64 (s7-1))
 some (.inl (s2,t66_1,b3,b3_1,b3_2,b4,b4_1,b4_2,b4_3,b4_4,b4_5,b4_6,b4_7,b4_8,b4_9)))) (
 some (.inr s7))
def j05u [LP] (s2 s7:Int) (b3:ByteArray) (b3_1:Int) (b3_2:Tn42) (b4:ByteArray) (b4_1 b4_2 b4_3 b4_4 b4_5:Int) (b4_6:(List Int)) (b4_7:Tn2) (b4_8 b4_9:Int):Option (Int):=
 LP.lp (fun h=>j042 h.1 h.2.1 h.2.2.1 h.2.2.2.1 h.2.2.2.2.1 h.2.2.2.2.2.1 h.2.2.2.2.2.2.1 h.2.2.2.2.2.2.2.1 h.2.2.2.2.2.2.2.2.1 h.2.2.2.2.2.2.2.2.2.1 h.2.2.2.2.2.2.2.2.2.2.1 h.2.2.2.2.2.2.2.2.2.2.2.1 h.2.2.2.2.2.2.2.2.2.2.2.2.1 h.2.2.2.2.2.2.2.2.2.2.2.2.2.1 h.2.2.2.2.2.2.2.2.2.2.2.2.2.2) (s2,s7,b3,b3_1,b3_2,b4,b4_1,b4_2,b4_3,b4_4,b4_5,b4_6,b4_7,b4_8,b4_9)
theorem j0bJ (s2 s7:Int) (b3:ByteArray) (b3_1:Int) (b3_2:Tn42) (b4:ByteArray) (b4_1 b4_2 b4_3 b4_4 b4_5:Int) (b4_6:(List Int)) (b4_7:Tn2) (b4_8 b4_9:Int):j05u s2 s7 b3 b3_1 b3_2 b4 b4_1 b4_2 b4_3 b4_4 b4_5 b4_6 b4_7 b4_8 b4_9=lpK (j042 s2 s7 b3 b3_1 b3_2 b4 b4_1 b4_2 b4_3 b4_4 b4_5 b4_6 b4_7 b4_8 b4_9) (fun h=>j05u h.1 h.2.1 h.2.2.1 h.2.2.2.1 h.2.2.2.2.1 h.2.2.2.2.2.1 h.2.2.2.2.2.2.1 h.2.2.2.2.2.2.2.1 h.2.2.2.2.2.2.2.2.1 h.2.2.2.2.2.2.2.2.2.1 h.2.2.2.2.2.2.2.2.2.2.1 h.2.2.2.2.2.2.2.2.2.2.2.1 h.2.2.2.2.2.2.2.2.2.2.2.2.1 h.2.2.2.2.2.2.2.2.2.2.2.2.2.1 h.2.2.2.2.2.2.2.2.2.2.2.2.2.2):=j003 _ _
def j0cJ [LP] (a0_z:Tn52) (a1_l:Tn59) (a2_t:Int):Option (Int):=
 cond (a1_l.2.2.2.1==0) (
 (j02Z (a0_z.1,(a0_z.2.1,a0_z.2.2)) (a1_l.2.2.1.1,a1_l.2.2.1.2)).bind fun r22=>
 cond (cond (r22.2==0) (decide (r22.1≤a2_t)) false) (
 let t34:=(w64 (a2_t-r22.1))
 let t37:=(w64 (3600*a1_l.2.2.2.2.1))
 cond (!(t37==0)) (
 let t38:=(w64 (Int.tdiv t34 t37))
 some t38) none) (
 some (-1))) (
 (j02S (a0_z.1,(a0_z.2.1,a0_z.2.2)) a2_t).bind fun r43=>
 cond (a1_l.2.2.2.1==2) (
 let t52:=(w64 (a1_l.2.2.2.2.1*7))
 let t55:=(w64 (r43.1.1+2))
 let t59:=(w64 (t55-a1_l.2.2.1.1))
 let t60:Int:=(if 0>t59 then 0 else t59:Int)
 cond (!(t52==0)) (
 let t62:=(w64 (Int.tdiv t60 t52))
 (j05u a2_t t62 a0_z.1 a0_z.2.1 a0_z.2.2 a1_l.1 a1_l.2.1 a1_l.2.2.1.1 a1_l.2.2.1.2 a1_l.2.2.2.1 a1_l.2.2.2.2.1 a1_l.2.2.2.2.2.1 a1_l.2.2.2.2.2.2.1 a1_l.2.2.2.2.2.2.2.1 a1_l.2.2.2.2.2.2.2.2).bind fun q0=>
 some q0) none) (
 let t55_1:=(w64 (r43.1.1+2))
 let t59_1:=(w64 (t55_1-a1_l.2.2.1.1))
 let t60_1:Int:=(if 0>t59_1 then 0 else t59_1:Int)
 cond (!(a1_l.2.2.2.2.1==0)) (
 let t62_1:=(w64 (Int.tdiv t60_1 a1_l.2.2.2.2.1))
 (j05u a2_t t62_1 a0_z.1 a0_z.2.1 a0_z.2.2 a1_l.1 a1_l.2.1 a1_l.2.2.1.1 a1_l.2.2.1.2 a1_l.2.2.2.1 a1_l.2.2.2.2.1 a1_l.2.2.2.2.2.1 a1_l.2.2.2.2.2.2.1 a1_l.2.2.2.2.2.2.2.1 a1_l.2.2.2.2.2.2.2.2).bind fun q0_1=>
 some q0_1) none))
def j0cK [LP] (a0_z:Tn52) (a1_l:Tn59) (a2_t:Int):Option (Int×Int):=
 (j09B (a0_z.1,(a0_z.2.1,a0_z.2.2)) (a1_l.1,(a1_l.2.1,((a1_l.2.2.1.1,a1_l.2.2.1.2),(a1_l.2.2.2.1,(a1_l.2.2.2.2.1,(a1_l.2.2.2.2.2.1,(a1_l.2.2.2.2.2.2.1,(a1_l.2.2.2.2.2.2.2.1,a1_l.2.2.2.2.2.2.2.2))))))))).bind fun r10=>
 cond (r10 != 0) (
 some (0,8)) (
 cond (cond (decide (a2_t<0)) true (decide (a2_t>8589934592))) (
 some (0,1)) (
 (j0cJ (a0_z.1,(a0_z.2.1,a0_z.2.2)) (a1_l.1,(a1_l.2.1,((a1_l.2.2.1.1,a1_l.2.2.1.2),(a1_l.2.2.2.1,(a1_l.2.2.2.2.1,(a1_l.2.2.2.2.2.1,(a1_l.2.2.2.2.2.2.1,(a1_l.2.2.2.2.2.2.2.1,a1_l.2.2.2.2.2.2.2.2)))))))) a2_t).bind fun r21=>
 some (r21,0)))
def j0cL (a0_x:(Int×Int)):Option (Int):=
 (j0bp a0_x.1).bind fun r5=>
 let t6:=(w64 (r5*86400))
 let t9:=(w64 (t6+a0_x.2))
 some t9
def j09j [LP] (a0_z:Tn52) (a1_t:Int):Option (Int×Int):=
 (j02S (a0_z.1,(a0_z.2.1,a0_z.2.2)) a1_t).bind fun r11=>
 cond (r11.2 != 0) (
 some (0,r11.2)) (
 (j0cL (r11.1.1,r11.1.2)).bind fun r18=>
 some (r18,0))
def j03y (s0:Tn2) (s1 s5:Int):Option ((Tn2×Int×Int) ⊕ (Bool ⊕ Unit)):=
 let t8_1:=(Int.ofNat (List.length s0))
 cond (decide (s5<t8_1)) (
 cond (inR s5 (List.length s0)) (
 let t15_1:=(List.getD s0 (Int.toNat s5) (0,0))
 cond ((inR s5 (List.length s0)) || !(decide (s1≥t15_1.1))) (
 let t23_1:=(List.getD s0 (Int.toNat s5) (0,0))
 cond (cond (decide (s1≥t15_1.1)) (decide (s1<t23_1.2)) false) (
 some (.inr (.inl true))) (
 let t11_1:=(w64 (s5+1))
 some (.inl (s0,s1,t11_1)))) none) none) (
 some (.inr (.inr ())))
def j06N [LP] (s0:Tn2) (s1 s5:Int):Option (Bool ⊕ Unit):=
 LP.lp (fun h=>j03y h.1 h.2.1 h.2.2) (s0,s1,s5)
theorem j0aE (s0:Tn2) (s1 s5:Int):j06N s0 s1 s5=lpK (j03y s0 s1 s5) (fun h=>j06N h.1 h.2.1 h.2.2):=j003 _ _
def j0cM [LP] (a0_l:Tn2) (a1_n:Int):Option (Bool):=
 (j06N a0_l a1_n 0).bind fun q0=>
 sumC q0 (fun a=>
 some a) (fun b=>
 some false)
def r05_In [LP] (a0_z:Tn52) (a1_l:Tn2) (a2_t:Int):Option (Bool):=
 (j09j (a0_z.1,(a0_z.2.1,a0_z.2.2)) a2_t).bind fun r12=>
 cond (r12.2==0) (
 (j0bq a1_l).bind fun r19=>
 cond (r19==0) (
 (j0cM a1_l r12.1).bind fun r25=>
 some r25) (
 some false)) (
 some false)
def j04x (s9:Int) (s14:Bool) (s15:Int) (b4:ByteArray) (b4_1 b4_2 b4_3 b4_4 b4_5:Int) (b4_6:(List Int)) (b4_7:Tn2) (b4_8 b4_9:Int) (b11:ByteArray) (b11_1:Int) (b11_2:(List Int)) (b12 b12_1:Int):Option ((Int×Bool×Int×ByteArray×Int×Int×Int×Int×Int×(List Int)×Tn2×Int×Int×ByteArray×Int×(List Int)×Int×Int) ⊕ ((Int×Bool×ByteArray×Int×Int×Int×Int×Int×(List Int)×Tn2×Int×Int))):=
 let t73_1:=(Int.ofNat (List.length b11_2))
 cond (decide (s15<t73_1)) (
 cond s14 (
 let t76_2:=(w64 (s15+1))
 some (.inl (s9,true,t76_2,b4,b4_1,b4_2,b4_3,b4_4,b4_5,b4_6,b4_7,b4_8,b4_9,b11,b11_1,b11_2,b12,b12_1))) (
 cond (inR s15 (List.length b11_2)) (
 let t82_1:=(List.getD b11_2 (Int.toNat s15) 0)
 let t76_3:=(w64 (s15+1))
 some (.inl (s9,(t82_1==b12),t76_3,b4,b4_1,b4_2,b4_3,b4_4,b4_5,b4_6,b4_7,b4_8,b4_9,b11,b11_1,b11_2,b12,b12_1))) none)) (
 some (.inr (s9,s14,b4,b4_1,b4_2,b4_3,b4_4,b4_5,b4_6,b4_7,b4_8,b4_9)))
def j06i [LP] (s9:Int) (s14:Bool) (s15:Int) (b4:ByteArray) (b4_1 b4_2 b4_3 b4_4 b4_5:Int) (b4_6:(List Int)) (b4_7:Tn2) (b4_8 b4_9:Int) (b11:ByteArray) (b11_1:Int) (b11_2:(List Int)) (b12 b12_1:Int):Option ((Int×Bool×ByteArray×Int×Int×Int×Int×Int×(List Int)×Tn2×Int×Int)):=
 LP.lp (fun h=>j04x h.1 h.2.1 h.2.2.1 h.2.2.2.1 h.2.2.2.2.1 h.2.2.2.2.2.1 h.2.2.2.2.2.2.1 h.2.2.2.2.2.2.2.1 h.2.2.2.2.2.2.2.2.1 h.2.2.2.2.2.2.2.2.2.1 h.2.2.2.2.2.2.2.2.2.2.1 h.2.2.2.2.2.2.2.2.2.2.2.1 h.2.2.2.2.2.2.2.2.2.2.2.2.1 h.2.2.2.2.2.2.2.2.2.2.2.2.2.1 h.2.2.2.2.2.2.2.2.2.2.2.2.2.2.1 h.2.2.2.2.2.2.2.2.2.2.2.2.2.2.2.1 h.2.2.2.2.2.2.2.2.2.2.2.2.2.2.2.2.1 h.2.2.2.2.2.2.2.2.2.2.2.2.2.2.2.2.2) (s9,s14,s15,b4,b4_1,b4_2,b4_3,b4_4,b4_5,b4_6,b4_7,b4_8,b4_9,b11,b11_1,b11_2,b12,b12_1)
theorem j0cN (s9:Int) (s14:Bool) (s15:Int) (b4:ByteArray) (b4_1 b4_2 b4_3 b4_4 b4_5:Int) (b4_6:(List Int)) (b4_7:Tn2) (b4_8 b4_9:Int) (b11:ByteArray) (b11_1:Int) (b11_2:(List Int)) (b12 b12_1:Int):j06i s9 s14 s15 b4 b4_1 b4_2 b4_3 b4_4 b4_5 b4_6 b4_7 b4_8 b4_9 b11 b11_1 b11_2 b12 b12_1=lpK (j04x s9 s14 s15 b4 b4_1 b4_2 b4_3 b4_4 b4_5 b4_6 b4_7 b4_8 b4_9 b11 b11_1 b11_2 b12 b12_1) (fun h=>j06i h.1 h.2.1 h.2.2.1 h.2.2.2.1 h.2.2.2.2.1 h.2.2.2.2.2.1 h.2.2.2.2.2.2.1 h.2.2.2.2.2.2.2.1 h.2.2.2.2.2.2.2.2.1 h.2.2.2.2.2.2.2.2.2.1 h.2.2.2.2.2.2.2.2.2.2.1 h.2.2.2.2.2.2.2.2.2.2.2.1 h.2.2.2.2.2.2.2.2.2.2.2.2.1 h.2.2.2.2.2.2.2.2.2.2.2.2.2.1 h.2.2.2.2.2.2.2.2.2.2.2.2.2.2.1 h.2.2.2.2.2.2.2.2.2.2.2.2.2.2.2.1 h.2.2.2.2.2.2.2.2.2.2.2.2.2.2.2.2.1 h.2.2.2.2.2.2.2.2.2.2.2.2.2.2.2.2.2):=j003 _ _
def j0f4 [LP] (a0_c:Tn71) (a1_l:Tn59) (a2_t:Int):Option (Int×Bool):=
 cond (inR a1_l.2.1 (List.length a0_c.1)) (
 let t20:=(List.getD a0_c.1 (Int.toNat a1_l.2.1) (ByteArray.empty,(0,([]:Tn42))))
 (j0cK (t20.1,(t20.2.1,t20.2.2)) (a1_l.1,(a1_l.2.1,((a1_l.2.2.1.1,a1_l.2.2.1.2),(a1_l.2.2.2.1,(a1_l.2.2.2.2.1,(a1_l.2.2.2.2.2.1,(a1_l.2.2.2.2.2.2.1,(a1_l.2.2.2.2.2.2.2.1,a1_l.2.2.2.2.2.2.2.2)))))))) a2_t).bind fun r26=>
 let t38:=(Int.ofNat (List.length a1_l.2.2.2.2.2.2.1))
 cond (cond (r26.2 != 0) true (decide (r26.1<0))) (
 cond ((!(decide (t38>0))) || !(!true)) (
 some (0,false)) none) (
 cond (decide (t38>0)) (
 (r05_In (t20.1,(t20.2.1,t20.2.2)) a1_l.2.2.2.2.2.2.1 a2_t).bind fun r45=>
 cond (!r45) (
 some (0,false)) (
 cond (a1_l.2.2.2.2.2.2.2.2==0) (
 some (r26.1,true)) (
 cond (inR a1_l.2.2.2.2.2.2.2.1 (List.length a0_c.2.2.1)) (
 let t57:=(List.getD a0_c.2.2.1 (Int.toNat a1_l.2.2.2.2.2.2.2.1) (ByteArray.empty,(0,([]:(List Int)))))
 cond (inR t57.2.1 (List.length a0_c.1)) (
 let t64:=(List.getD a0_c.1 (Int.toNat t57.2.1) (ByteArray.empty,(0,([]:Tn42))))
 (j02S (t64.1,(t64.2.1,t64.2.2)) a2_t).bind fun r67=>
 (j06i r26.1 false 0 a1_l.1 a1_l.2.1 a1_l.2.2.1.1 a1_l.2.2.1.2 a1_l.2.2.2.1 a1_l.2.2.2.2.1 a1_l.2.2.2.2.2.1 a1_l.2.2.2.2.2.2.1 a1_l.2.2.2.2.2.2.2.1 a1_l.2.2.2.2.2.2.2.2 t57.1 t57.2.1 t57.2.2 r67.1.1 r67.1.2).bind fun q0=>
 some (q0.1,(q0.2.1==(q0.2.2.2.2.2.2.2.2.2.2.2==2)))) none) none))) (
 cond (a1_l.2.2.2.2.2.2.2.2==0) (
 some (r26.1,true)) (
 cond (inR a1_l.2.2.2.2.2.2.2.1 (List.length a0_c.2.2.1)) (
 let t57_1:=(List.getD a0_c.2.2.1 (Int.toNat a1_l.2.2.2.2.2.2.2.1) (ByteArray.empty,(0,([]:(List Int)))))
 cond (inR t57_1.2.1 (List.length a0_c.1)) (
 let t64_1:=(List.getD a0_c.1 (Int.toNat t57_1.2.1) (ByteArray.empty,(0,([]:Tn42))))
 (j02S (t64_1.1,(t64_1.2.1,t64_1.2.2)) a2_t).bind fun r67_1=>
 (j06i r26.1 false 0 a1_l.1 a1_l.2.1 a1_l.2.2.1.1 a1_l.2.2.1.2 a1_l.2.2.2.1 a1_l.2.2.2.2.1 a1_l.2.2.2.2.2.1 a1_l.2.2.2.2.2.2.1 a1_l.2.2.2.2.2.2.2.1 a1_l.2.2.2.2.2.2.2.2 t57_1.1 t57_1.2.1 t57_1.2.2 r67_1.1.1 r67_1.1.2).bind fun q0_1=>
 some (q0_1.1,(q0_1.2.1==(q0_1.2.2.2.2.2.2.2.2.2.2.2==2)))) none) none)))) none
def r11_Raw [LP] (a0_c:Tn71) (a1_l:Tn59) (a2_t:Int):Option (Int):=
 (j0f4 (a0_c.1,(a0_c.2.1,(a0_c.2.2.1,a0_c.2.2.2))) (a1_l.1,(a1_l.2.1,((a1_l.2.2.1.1,a1_l.2.2.1.2),(a1_l.2.2.2.1,(a1_l.2.2.2.2.1,(a1_l.2.2.2.2.2.1,(a1_l.2.2.2.2.2.2.1,(a1_l.2.2.2.2.2.2.2.1,a1_l.2.2.2.2.2.2.2.2)))))))) a2_t).bind fun r13=>
 cond (!r13.2) (
 some (-1)) (
 let t23:=(Int.ofNat (List.length a1_l.2.2.2.2.2.1))
 cond (!(t23==0)) (
 let t24:=(Int.tmod r13.1 t23)
 cond (inR t24 (List.length a1_l.2.2.2.2.2.1)) (
 let t25:=(List.getD a1_l.2.2.2.2.2.1 (Int.toNat t24) 0)
 some t25) none) none)
def j04y (s1 s2 s7:Int) (b3:ByteArray) (b3_1:Tn60) (b3_2:Tn29):Option ((Int×Int×Int×ByteArray×Tn60×Tn29) ⊕ (Bool ⊕ Unit)):=
 let t12_1:=(Int.ofNat (List.length b3_2))
 cond (decide (s7<t12_1)) (
 cond (inR s7 (List.length b3_2)) (
 let t19_1:=(List.getD b3_2 (Int.toNat s7) (0,(0,(0,(0,0)))))
 let t35:Bool:=(cond (cond (t19_1.1==0) (t19_1.2.1==s1) false) (decide (t19_1.2.2.2.1≤s2)) false)
 cond (cond t35 (decide (s2<t19_1.2.2.2.2)) false) (
 some (.inr (.inl true))) (
 let t15_1:=(w64 (s7+1))
 some (.inl (s1,s2,t15_1,b3,b3_1,b3_2)))) none) (
 some (.inr (.inr ())))
def j09k [LP] (s1 s2 s7:Int) (b3:ByteArray) (b3_1:Tn60) (b3_2:Tn29):Option (Bool ⊕ Unit):=
 LP.lp (fun h=>j04y h.1 h.2.1 h.2.2.1 h.2.2.2.1 h.2.2.2.2.1 h.2.2.2.2.2) (s1,s2,s7,b3,b3_1,b3_2)
theorem j0cO (s1 s2 s7:Int) (b3:ByteArray) (b3_1:Tn60) (b3_2:Tn29):j09k s1 s2 s7 b3 b3_1 b3_2=lpK (j04y s1 s2 s7 b3 b3_1 b3_2) (fun h=>j09k h.1 h.2.1 h.2.2.1 h.2.2.2.1 h.2.2.2.2.1 h.2.2.2.2.2):=j003 _ _
def j0gG [LP] (a0_s:Tn64) (a1_person a2_t:Int):Option (Bool):=
 (j09k a1_person a2_t 0 a0_s.1 a0_s.2.1 a0_s.2.2).bind fun q0=>
 sumC q0 (fun a=>
 some a) (fun b=>
 some false)
def j058 [LP] (s2 s9:Int) (b3:Tn54) (b3_1:Tn48) (b3_2:Tn26) (b3_3:Tn65) (b8:ByteArray) (b8_1:Tn60) (b8_2:Tn29):Option ((Int×Int×Tn54×Tn48×Tn26×Tn65×ByteArray×Tn60×Tn29) ⊕ ((Int×Int) ⊕ Unit)):=
 cond (decide (s9≥0)) (
 cond (inR s9 (List.length b8_1)) (
 let t28_1:=(List.getD b8_1 (Int.toNat s9) (ByteArray.empty,(0,((0,0),(0,(0,(([]:(List Int)),(([]:Tn2),(0,0)))))))))
 (r11_Raw (b3,(b3_1,(b3_2,b3_3))) (t28_1.1,(t28_1.2.1,((t28_1.2.2.1.1,t28_1.2.2.1.2),(t28_1.2.2.2.1,(t28_1.2.2.2.2.1,(t28_1.2.2.2.2.2.1,(t28_1.2.2.2.2.2.2.1,(t28_1.2.2.2.2.2.2.2.1,t28_1.2.2.2.2.2.2.2.2)))))))) s2).bind fun r31_1=>
 cond (decide (r31_1≥0)) (
 (j0gG (b8,(b8_1,b8_2)) r31_1 s2).bind fun r38_1=>
 cond (!r38_1) (
 some (.inr (.inl (s9,r31_1)))) (
 let t23_2:=(w64 (s9-1))
 some (.inl (s2,t23_2,b3,b3_1,b3_2,b3_3,b8,b8_1,b8_2)))) (
 let t23_3:=(w64 (s9-1))
 some (.inl (s2,t23_3,b3,b3_1,b3_2,b3_3,b8,b8_1,b8_2)))) none) (
 some (.inr (.inr ())))
def j0aF [LP] (s2 s9:Int) (b3:Tn54) (b3_1:Tn48) (b3_2:Tn26) (b3_3:Tn65) (b8:ByteArray) (b8_1:Tn60) (b8_2:Tn29):Option ((Int×Int) ⊕ Unit):=
 LP.lp (fun h=>j058 h.1 h.2.1 h.2.2.1 h.2.2.2.1 h.2.2.2.2.1 h.2.2.2.2.2.1 h.2.2.2.2.2.2.1 h.2.2.2.2.2.2.2.1 h.2.2.2.2.2.2.2.2) (s2,s9,b3,b3_1,b3_2,b3_3,b8,b8_1,b8_2)
theorem j0ej (s2 s9:Int) (b3:Tn54) (b3_1:Tn48) (b3_2:Tn26) (b3_3:Tn65) (b8:ByteArray) (b8_1:Tn60) (b8_2:Tn29):j0aF s2 s9 b3 b3_1 b3_2 b3_3 b8 b8_1 b8_2=lpK (j058 s2 s9 b3 b3_1 b3_2 b3_3 b8 b8_1 b8_2) (fun h=>j0aF h.1 h.2.1 h.2.2.1 h.2.2.2.1 h.2.2.2.2.1 h.2.2.2.2.2.1 h.2.2.2.2.2.2.1 h.2.2.2.2.2.2.2.1 h.2.2.2.2.2.2.2.2):=j003 _ _
def r12_Top [LP] (a0_c:Tn71) (a1_schedule a2_t:Int):Option (Int×Int):=
 cond (inR a1_schedule (List.length a0_c.2.2.2)) (
 let t14:=(List.getD a0_c.2.2.2 (Int.toNat a1_schedule) (ByteArray.empty,(([]:Tn60),([]:Tn29))))
 let t18:=(Int.ofNat (List.length t14.2.1))
 let t19:=(w64 (t18-1))
 (j0aF a2_t t19 a0_c.1 a0_c.2.1 a0_c.2.2.1 a0_c.2.2.2 t14.1 t14.2.1 t14.2.2).bind fun q0=>
 sumC q0 (fun a=>
 some (a.1,a.2)) (fun b=>
 some ((-1),(-1)))) none
def j04z (s0:Tn29) (s1 s2 s7:Int):Option ((Tn29×Int×Int×Int) ⊕ (Int)):=
 let t11_1:=(Int.ofNat (List.length s0))
 cond (decide (s7<t11_1)) (
 cond (inR s7 (List.length s0)) (
 let t17_1:=(List.getD s0 (Int.toNat s7) (0,(0,(0,(0,0)))))
 cond (cond (decide (s2<t17_1.2.2.2.1)) true (decide (s2≥t17_1.2.2.2.2))) (
 let t14_5:=(w64 (s7+1))
 some (.inl (s0,s1,s2,t14_5))) (
 cond (t17_1.1==1) (
 let t14_6:=(w64 (s7+1))
 some (.inl (s0,t17_1.2.1,s2,t14_6))) (
 cond (cond (t17_1.1==2) (s1==t17_1.2.1) false) (
 let t14_7:=(w64 (s7+1))
 some (.inl (s0,t17_1.2.2.1,s2,t14_7))) (
 cond (cond (t17_1.1==2) (s1==t17_1.2.2.1) false) (
 let t14_8:=(w64 (s7+1))
 some (.inl (s0,t17_1.2.1,s2,t14_8))) (
 let t14_9:=(w64 (s7+1))
 some (.inl (s0,s1,s2,t14_9))))))) none) (
 some (.inr s1))
def j09l [LP] (s0:Tn29) (s1 s2 s7:Int):Option (Int):=
 LP.lp (fun h=>j04z h.1 h.2.1 h.2.2.1 h.2.2.2) (s0,s1,s2,s7)
theorem j0cP (s0:Tn29) (s1 s2 s7:Int):j09l s0 s1 s2 s7=lpK (j04z s0 s1 s2 s7) (fun h=>j09l h.1 h.2.1 h.2.2.1 h.2.2.2):=j003 _ _
def j0iE [LP] (a0_l:Tn29) (a1_person a2_t:Int):Option (Int):=
 (j09l a0_l a1_person a2_t 0).bind fun q0=>
 some q0
def r13_Raw [LP] (a0_c:Tn71) (a1_schedule a2_t:Int):Option (Int):=
 (r12_Top (a0_c.1,(a0_c.2.1,(a0_c.2.2.1,a0_c.2.2.2))) a1_schedule a2_t).bind fun r13=>
 cond (inR a1_schedule (List.length a0_c.2.2.2)) (
 let t19:=(List.getD a0_c.2.2.2 (Int.toNat a1_schedule) (ByteArray.empty,(([]:Tn60),([]:Tn29))))
 (j0iE t19.2.2 r13.2 a2_t).bind fun r24=>
 some r24) none
def r13_Who [LP] (a0_c:Tn71) (a1_schedule a2_t:Int):Option (Int):=
 (r12_Ok (a0_c.1,(a0_c.2.1,(a0_c.2.2.1,a0_c.2.2.2))) a1_schedule a2_t).bind fun r10=>
 cond (!r10) (
 some (-1)) (
 (r13_Raw (a0_c.1,(a0_c.2.1,(a0_c.2.2.1,a0_c.2.2.2))) a1_schedule a2_t).bind fun r15=>
 some r15)
def r14_Who [LP] (a0_c:Tn71) (a1_schedule a2_at:Int):Option (Int):=
 (r13_Who (a0_c.1,(a0_c.2.1,(a0_c.2.2.1,a0_c.2.2.2))) a1_schedule a2_at).bind fun r10=>
 some r10
def j09D [LP] (a0_t:(List Int)) (a1_n:Int):Option (Bool):=
 (j0eY a0_t).bind fun r18=>
 cond (!r18) (
 (j06H).bind fun r20=>
 some r20) (
 (j0gB a0_t).bind fun r22=>
 (j05R r22.1 r22.2 1).bind fun r24=>
 (j0gC a1_n 8589934592).bind fun r26=>
 (j034 (r24.1.1,(r24.1.2.1,(r24.1.2.2.1,r24.1.2.2.2))) 0).bind fun r29=>
 cond (r29.2 != 0) (
 cond (r29.2==5) (
 (j06H).bind fun r37=>
 some r37) (
 some false)) (
 (j028 (r24.1.1,(r24.1.2.1,(r24.1.2.2.1,r24.1.2.2.2))) 0 r26).bind fun r42=>
 (j08q (r24.1.1,(r24.1.2.1,(r24.1.2.2.1,r24.1.2.2.2))) 0 r26).bind fun r48=>
 (j09i (r24.1.1,(r24.1.2.1,(r24.1.2.2.1,r24.1.2.2.2))) 0).bind fun r52=>
 (j028 (r24.1.1,(r24.1.2.1,(r24.1.2.2.1,r24.1.2.2.2))) 0 r42.1).bind fun r56=>
 let t73:Bool:=(cond (cond (cond (r42.2==0) (r48.2==0) false) (r56.2==0) false) (decide (r42.1≤r26)) false)
 let t78:=(w64 (r52+r29.1))
 let t85:=(w64 (r52+r29.1))
 let t91:Bool:=(cond (cond t73 (decide (r42.1<t78)) false) ((decide (r26<t85))==(r42.1==r26)) false)
 let t95:=(w64 (r26-r42.1))
 cond ((!(r29.1==0)) || !t91) (
 let t97:=(Int.tmod t95 r29.1)
 cond (cond (cond t91 (t97==0) false) (r56.1==r42.1) false) (
 (r14_Who (r24.1.1,(r24.1.2.1,(r24.1.2.2.1,r24.1.2.2.2))) 0 r26).bind fun r109=>
 cond (r48.1==r109) (
 (j06H).bind fun r113=>
 some r113) (
 some false)) (
 some false)) none))
end
end Go.Proofs.Pw
