/- DutyExact. -/
import Derived.Test.YtllkgjaoejhneaaGreatDEPP
import Derived.Test.YtllkgjaoejhneaaGreatDEPA
import Derived.Test.YtllkgjaoejhneaaGreatDELD
open _root_ renaming Int->b,List->d,ByteArray->r,Nat->B
open List renaming replicate->j,not_mem_nil->z,length->A,getD->D
open ByteArray renaming empty->q,mk->G
open Go Go.Lft
set_option linter.unusedVariables false
namespace Go.Proofs.Pw
theorem de4 {s1:Tn15} {s2:b} {s3:b} {s4:b} {s15:b} {s58:Tn62} {s59:b} {s66:Tn74} {s67:b} {s74:(d b)} {b12:Tn56} {b12_1:Tn50} {b12_2:Tn27} {b12_3:Tn67} {b17:r} {b17_1:b} {b17_2:b} {b17_3:b} {b17_4:b} {b17_5:b} {b17_6:(d b)} {b17_7:Tn2} {b17_8:b} {b17_9:b} {b19:Tn56} {b19_1:Tn50} {b19_2:Tn27} {b19_3:Tn67} {b42:(d b)} {b42_1:b} (hc:CW (b19,(b19_1,(b19_2,b19_3)))) (hp:b17_7.length≤3):∀ (n i:B),i+n=4→j5I s1 s2 s3 s4 s15 s58 s59 s66 s67 s74 (i:b) b12 b12_1 b12_2 b12_3 b17 b17_1 b17_2 b17_3 b17_4 b17_5 b17_6 b17_7 b17_8 b17_9 b19 b19_1 b19_2 b19_3 b42 b42_1=some (.inr (s1,s2,s3,s4,s15,s58,s59,s66,s67,b12,b12_1,b12_2,b12_3,b17,b17_1,b17_2,b17_3,b17_4,b17_5,b17_6,b17_7,b17_8,b17_9,b19,b19_1,b19_2,b19_3,b42,b42_1))
 | 0,i,hi=>by
  rw [j9i]
  simp only [j2l]
  rw [j01 omg_,jd,j08]
 | n+1,i,hi=>by
  have ih:=de4 (s1:=s1) (s2:=s2) (s3:=s3) (s4:=s4) (s15:=s15) (s58:=s58) (s59:=s59) (s66:=s66) (s67:=s67) (s74:=s74) (b12:=b12) (b12_1:=b12_1) (b12_2:=b12_2) (b12_3:=b12_3) (b17:=b17) (b17_1:=b17_1) (b17_2:=b17_2) (b17_3:=b17_3) (b17_4:=b17_4) (b17_5:=b17_5) (b17_6:=b17_6) (b17_7:=b17_7) (b17_8:=b17_8) (b17_9:=b17_9) (b19:=b19) (b19_1:=b19_1) (b19_2:=b19_2) (b19_3:=b19_3) (b42:=b42) (b42_1:=b42_1) hc hp n (i+1) omg_
  obtain ⟨⟨v,v1,v2⟩,w,w1,w2⟩:=jzZ hc (p:=(b17,(b17_1,((b17_2,b17_3),(b17_4,(b17_5,(b17_6,(b17_7,(b17_8,b17_9))))))))) hp (s74.getD i 0)
  rw [j9i]
  simp only [j2l]
  rw [j00 omg_,j1o,j07 (x:=(i:b)+1)]
  simp only [jc,je,v1,v2,w1,w2,ja,qh,jk,jm,jd,j06]
  exact ih
theorem de6 {s1:Tn15} {s2:b} {s3:b} {s4:b} {s15:b} {s58:Tn62} {s59:b} {s66:Tn74} {s67:b} {s109:(d (d b))} {b12:Tn56} {b12_1:Tn50} {b12_2:Tn27} {b12_3:Tn67} {b17:r} {b17_1:b} {b17_2:b} {b17_3:b} {b17_4:b} {b17_5:b} {b17_6:(d b)} {b17_7:Tn2} {b17_8:b} {b17_9:b} {b19:Tn56} {b19_1:Tn50} {b19_2:Tn27} {b19_3:Tn67} {b42:(d b)} {b42_1:b} (hc:CW (b19,(b19_1,(b19_2,b19_3)))) (hp:b17_7.length≤3):∀ (n i:B),i+n=3→j5J s1 s2 s3 s4 s15 s58 s59 s66 s67 s109 (i:b) b12 b12_1 b12_2 b12_3 b17 b17_1 b17_2 b17_3 b17_4 b17_5 b17_6 b17_7 b17_8 b17_9 b19 b19_1 b19_2 b19_3 b42 b42_1=some (.inr (s1,s2,s3,s4,s15,s58,s59,s66,s67,b12,b12_1,b12_2,b12_3,b17,b17_1,b17_2,b17_3,b17_4,b17_5,b17_6,b17_7,b17_8,b17_9,b42,b42_1))
 | 0,i,hi=>by
  rw [j9j]
  simp only [j2m]
  rw [j01 omg_,jd,j08]
 | n+1,i,hi=>by
  have ih:=de6 (s1:=s1) (s2:=s2) (s3:=s3) (s4:=s4) (s15:=s15) (s58:=s58) (s59:=s59) (s66:=s66) (s67:=s67) (s109:=s109) (b12:=b12) (b12_1:=b12_1) (b12_2:=b12_2) (b12_3:=b12_3) (b17:=b17) (b17_1:=b17_1) (b17_2:=b17_2) (b17_3:=b17_3) (b17_4:=b17_4) (b17_5:=b17_5) (b17_6:=b17_6) (b17_7:=b17_7) (b17_8:=b17_8) (b17_9:=b17_9) (b19:=b19) (b19_1:=b19_1) (b19_2:=b19_2) (b19_3:=b19_3) (b42:=b42) (b42_1:=b42_1) hc hp n (i+1) omg_
  obtain ⟨l,e,v1,v2,v3⟩:=jA2 hc (p:=(b17,(b17_1,((b17_2,b17_3),(b17_4,(b17_5,(b17_6,(b17_7,(b17_8,b17_9))))))))) hp ((s109.getD i (j 2 0)).getD 0 0) ((s109.getD i (j 2 0)).getD 1 0)
  obtain ⟨m,f,w1,w2,w3⟩:=jA3 hc (p:=(b17,(b17_1,((b17_2,b17_3),(b17_4,(b17_5,(b17_6,(b17_7,(b17_8,b17_9))))))))) hp ((s109.getD i (j 2 0)).getD 0 0) ((s109.getD i (j 2 0)).getD 1 0)
  rw [j9j]
  simp only [j2m]
  rw [j00 omg_,j1o,j07 (x:=(i:b)+1)]
  simp only [jc,je,v1,v2,w1,w2,ja,jvt (show l.length≤1000000 by omega),jrO (show m.length≤1000000 by omega),jk,jm,jd,j06]
  exact ih
theorem de2 {s1:Tn15} {s2:b} {s3:b} {s4:b} {s15:b} {s58:Tn62} {s59:b} {s66:Tn74} {b12:Tn56} {b12_1:Tn50} {b12_2:Tn27} {b12_3:Tn67} {b17:r} {b17_1:b} {b17_2:b} {b17_3:b} {b17_4:b} {b17_5:b} {b17_6:(d b)} {b17_7:Tn2} {b17_8:b} {b17_9:b} {b42:(d b)} (hc:∀ k∈s66,CW k) (hl:s66.length=2) (hp:b17_7.length≤3):∀ (n i:B) (a:b),i+n=2→DOk b42 a→∃ a',j5K s1 s2 s3 s4 s15 s58 s59 s66 (i:b) b12 b12_1 b12_2 b12_3 b17 b17_1 b17_2 b17_3 b17_4 b17_5 b17_6 b17_7 b17_8 b17_9 b42 a=some (.inr (s1,s2,s3,s4,s15,s58,s59,b12,b12_1,b12_2,b12_3,b42,a'))∧DOk b42 a'
 | 0,i,a,hi,hd=>by
  rw [j9k]
  simp only [j2n]
  rw [j01 omg_,jd,j08]
  exact ⟨a,rfl,hd⟩
 | n+1,i,a,hi,hd=>by
  obtain ⟨t,a1,e1,_,_,d1⟩:=ji7 hd
  obtain ⟨a',ih,hd'⟩:=de2 (s1:=s1) (s2:=s2) (s3:=s3) (s4:=s4) (s15:=s15) (s58:=s58) (s59:=s59) (s66:=s66) (b12:=b12) (b12_1:=b12_1) (b12_2:=b12_2) (b12_3:=b12_3) (b17:=b17) (b17_1:=b17_1) (b17_2:=b17_2) (b17_3:=b17_3) (b17_4:=b17_4) (b17_5:=b17_5) (b17_6:=b17_6) (b17_7:=b17_7) (b17_8:=b17_8) (b17_9:=b17_9) (b42:=b42) hc hl hp n (i+1) a1 omg_ d1
  refine ⟨a',?_,hd'⟩
  have hm:s66.getD i (([]:Tn56),(([]:Tn50),(([]:Tn27),([]:Tn67))))∈s66:=by
   rw [show s66.getD i (([]:Tn56),(([]:Tn50),(([]:Tn27),([]:Tn67))))=s66[i]'omg_ by simp [D,show i<s66.length by omega]]
   exact jx _
  have hk:=hc _ hm
  generalize hke:s66.getD i (([]:Tn56),(([]:Tn50),(([]:Tn27),([]:Tn67))))=k at hk
  rw [j9k]
  simp only [j2n]
  rw [j00 omg_,j1o]
  simp only [jc,je,hke,e1,ja]
  have h4:=de4 (s1:=s1) (s2:=s2) (s3:=s3) (s4:=s4) (s15:=s15) (s58:=s58) (s59:=s59) (s66:=s66) (s67:=(i:b)) (b12:=b12) (b12_1:=b12_1) (b12_2:=b12_2) (b12_3:=b12_3) (b17:=b17) (b17_1:=b17_1) (b17_2:=b17_2) (b17_3:=b17_3) (b17_4:=b17_4) (b17_5:=b17_5) (b17_6:=b17_6) (b17_7:=b17_7) (b17_8:=b17_8) (b17_9:=b17_9) (b42:=b42) (s74:=[s2,s15,t,(8589934592:b)]) (b19:=k.1) (b19_1:=k.2.1) (b19_2:=k.2.2.1) (b19_3:=k.2.2.2) (b42_1:=a1) hk hp 4 0 omg_
  have h6:=fun s=>de6 (s1:=s1) (s2:=s2) (s3:=s3) (s4:=s4) (s15:=s15) (s58:=s58) (s59:=s59) (s66:=s66) (s67:=(i:b)) (b12:=b12) (b12_1:=b12_1) (b12_2:=b12_2) (b12_3:=b12_3) (b17:=b17) (b17_1:=b17_1) (b17_2:=b17_2) (b17_3:=b17_3) (b17_4:=b17_4) (b17_5:=b17_5) (b17_6:=b17_6) (b17_7:=b17_7) (b17_8:=b17_8) (b17_9:=b17_9) (b42:=b42) (s109:=s) (b19:=k.1) (b19_1:=k.2.1) (b19_2:=k.2.2.1) (b19_3:=k.2.2.2) (b42_1:=a1) hk hp 3 0 omg_
  rw [show ((0:B):b)=0 from rfl] at h4
  simp only [show ((0:B):b)=0 from rfl] at h6
  simp only [h4,ja,sumC,h6]
  rw [j07 (x:=(i:b)+1),j06]
  exact ih
theorem de0 {s1:Tn15} {s2:b} {s3:b} {s4:b} {s15:b} {s58:Tn62} {b42:(d b)} {zs:d j1l} {ps:d j1s} {cs:d CalT} {nm:r} {ls:d j0j} {es:d jbb} (hs:SOk zs ps cs) (hk:ScW [(nm,(ls,es))]) (hl:s58.length=3) (hw:LyW s58):∀ (n i:B) (a:b),i+n=3→DOk b42 a→j5L s1 s2 s3 s4 s15 s58 (i:b) zs ps cs [(nm,(ls,es))] b42 a=some (.inr s1)
 | 0,i,a,hi,hd=>by
  rw [j9l]
  simp only [j2o]
  rw [j01 omg_,jd,j08]
 | n+1,i,a,hi,hd=>by
  have hq:=hk _ (qj.2 rfl)
  have hc:CW (zs,(ps,(cs,[(nm,(ls,es))]))):=jAq hs hk
  obtain ⟨o,a1,e1,ho,d1⟩:=jzY hd hs hq.1.1 hq.1.2 hq.2.1 hq.2.2 (nm:=nm)
  have hm:s58.getD i (q,((0:b),(((0:b),(0:b)),((0:b),((0:b),(([]:(d b)),(([]:Tn2),((0:b),(0:b)))))))))∈s58:=by
   rw [show s58.getD i (q,((0:b),(((0:b),(0:b)),((0:b),((0:b),(([]:(d b)),(([]:Tn2),((0:b),(0:b)))))))))=s58[i]'omg_ by simp [D,show i<s58.length by omega]]
   exact jx _
  have hp:=hw _ hm
  generalize hpe:s58.getD i (q,((0:b),(((0:b),(0:b)),((0:b),((0:b),(([]:(d b)),(([]:Tn2),((0:b),(0:b)))))))))=p at hp
  obtain ⟨a2,e2,d2⟩:=de2 (s1:=s1) (s2:=s2) (s3:=s3) (s4:=s4) (s15:=s15) (s58:=s58) (s59:=(i:b)) (s66:=[(zs,(ps,(cs,[(nm,(ls,es))]))),(o.1,(o.2.1,(o.2.2.1,o.2.2.2)))]) (b12:=zs) (b12_1:=ps) (b12_2:=cs) (b12_3:=[(nm,(ls,es))]) (b17:=p.1) (b17_1:=p.2.1) (b17_2:=p.2.2.1.1) (b17_3:=p.2.2.1.2) (b17_4:=p.2.2.2.1) (b17_5:=p.2.2.2.2.1) (b17_6:=p.2.2.2.2.2.1) (b17_7:=p.2.2.2.2.2.2.1) (b17_8:=p.2.2.2.2.2.2.2.1) (b17_9:=p.2.2.2.2.2.2.2.2) (b42:=b42) (fun k hk=>by
   simp only [jl,z,or_false] at hk
   rcases hk with rfl | rfl
   ·exact hc
   ·exact ho) rfl hp 2 0 a1 omg_ d1
  have ih:=de0 (s1:=s1) (s2:=s2) (s3:=s3) (s4:=s4) (s15:=s15) (s58:=s58) (b42:=b42) hs hk hl hw n (i+1) a2 omg_ d2
  rw [show ((0:B):b)=0 from rfl] at e2
  rw [j9l]
  simp only [j2o]
  rw [j00 omg_,j1o]
  simp only [jc,je,hpe,e1,ja,e2,sumC]
  rw [j07 (x:=(i:b)+1),j06]
  exact ih
theorem jlb (t:d b) (_h:Wf (.list (.int .i64)) t) (raw:SgL) (_h1:Wf (.list (.pair (.int .i64) (.pair (.int .i64) (.int .i64)))) raw) (x:b) (_h2:Wf (.int .i64) x) (f:b) (_h3:Wf (.int .i64) f) (to:b) (_h4:Wf (.int .i64) to):jaH t raw x f to=some true:=by
 simp only [jaH,jhS,ja,show Int.ofNat (A t)=(t.length:b) from rfl,show Int.ofNat (A raw)=(raw.length:b) from rfl]
 by_cases hl:(t.length:b)≤500
 case neg=>rw [j01 hl];simp [juJ]
 rw [j00 hl]
 by_cases hr:(raw.length:b)>60
 ·rw [j00 hr];simp [juJ]
 rw [j01 hr]
 simp only [jk,jd,jjY,ja]
 obtain ⟨zs,ps,cs,ss,a1,e1,hs,g1,g2,g3,d1⟩:=jsS (L:=t) (a:=0) (n:=1) ⟨omg_,omg_,omg_⟩ omg_ omg_
 obtain ⟨⟨nm,ls,es⟩,rfl⟩:∃ s,ss=[s]:=by
  match ss,g1,g2 with
  | [s],_,_=>exact ⟨s,rfl⟩
  | [],h,_=>simp at h
  | _::_::_,_,h=>simp at h;omega
 obtain ⟨l,a2,e2,lk,_,_,d2⟩:=jrx d1 hs (ss:=[(nm,(ls,es))]) (G #[97])
 obtain ⟨u,a3,e3,_,d3⟩:=j8a d2 (xs:=[(0:b),(1:b),(401:b)]) smp_ smp_
 obtain ⟨v,a4,e4,_,_,d4⟩:=ji7 d3
 have lw:=lk.w3
 have e5:=fun s58 h1 h2=>de0 (s1:=raw) (s2:=x) (s3:=f) (s4:=to) (s15:=v) (s58:=s58) (b42:=t) hs g3 h1 h2 3 0 a4 omg_ d4
 simp only [show ((0:B):b)=0 from rfl] at e5
 simp only [e1,e2,e3,e4,ja]
 rw [e5 _ rfl (fun y hy=>by
  simp only [jl,z,or_false] at hy
  rcases hy with rfl | rfl | rfl
  ·exact lw
  ·exact lw
  ·simp)]
 simp only [ja,sumC,jpg (l:=raw) omg_,jA4 (l:=raw) omg_]
 have hml:=jqK raw []
 rw [jrO (by simp at hml;omega)]
 simp only [ja,jc,juJ]
end Go.Proofs.Pw
