/- The GZ, and who is on call with edits. -/
import Derived.Test.YtllkgjaoejhneaaGreatCEPJ
import Derived.Test.YtllkgjaoejhneaaGreatCEPF
open _root_ renaming Int->q,List->y,Nat->H,ByteArray->M
open Int renaming ofNat->A,le_refl->J,add_zero->O
open ByteArray renaming empty->B
open Option renaming some->D
open List renaming getD->E,length->U
open Nat renaming gcd->F,lcm->G,dvd_trans->N,mul_comm->R
open Decidable renaming decide->I
open Bool renaming true->K,false->S
noncomputable section
open Go Go.Lft
namespace Go.Proofs.Pw
theorem Dy(a b:q):(if a>b then a else b)=max b a:=by split<;>omega
section
variable{zs:y bz}{ps:y cZ}{cs:y aT}(hs:lG zs ps cs)
include hs
def Dz(zs:y bz)(cs:y aT)(s:cL)(t:q):Int:=zC t (jL s.2.2 t (ij zs cs s.2.1 t) s.2.1.length) s.2.2
theorem jyc{ss:y cL}(hc:CG (zs,(ps,(cs,ss)))){i:H}(hi:i<ss.length){t:q}(h0:0<=t)(h1:t<=8589934592):jlD (zs,(ps,(cs,ss))) (i:q) t=D (Dz zs cs ss[i] t):=by
 have fN:=hc.sc _ (jq hi);have oo:=fN.ll;have fq:=fN.el;have qN:ss.getD i (B,(([]:y bh),([]:y cO)))=ss[i]:=by simp[E,hi]
 have e8:=hc.r8;have lp:=Vs hs (ss:=ss) (nm:=ss[i].1) (es:=ss[i].2.2) aa aa fN.ly h0 h1 ss[i].2.1.length (jz _)
 have et:∃k,jlB (zs,(ps,(cs,ss))) (i:q) t=D (k,jL ss[i].2.2 t (ij zs cs ss[i].2.1 t) ss[i].2.1.length):=by
  simp only[jlB];rw[bR];simp only[jc,je,qN,show A ss[i].2.1.length=(ss[i].2.1.length:q) from rfl];rw[au (x:=(ss[i].2.1.length:q)-1),show Cz t ((ss[i].2.1.length:q)-1) zs ps cs ss ss[i].1 ss[i].2.1 ss[i].2.2=_ from lp];simp only[ja,jL];cases iD (om ss[i].2.2 t (ij zs cs ss[i].2.1 t)) ss[i].2.1.length with
  |none=>exact⟨_,rfl⟩
  |some k=>exact⟨_,rfl⟩
 obtain⟨k,et⟩:=et;have ef:=VK (es:=ss[i].2.2) aa (t:=t) ss[i].2.2.length 0 (jL ss[i].2.2 t (ij zs cs ss[i].2.1 t) ss[i].2.1.length) aa;rw[jw]at ef;simp only[jlD,joP,jt6,show A ss.length=(ss.length:q) from rfl];rw[ai (show (i:q)>=0 by omega),ai (show (i:q)<(ss.length:q) by omega),ai (show t>=0 from h0),ai h1];simp only[jc,e8,ja,kv,jl,jd,joO,et];rw[bR];simp only[jc,je,qN,jlC];rw[show CA ss[i].2.2 (jL ss[i].2.2 t (ij zs cs ss[i].2.1 t) ss[i].2.1.length) t 0=_ from ef];rfl
theorem jyI{ss:y cL}(hc:CG (zs,(ps,(cs,ss)))){i:H}(hi:i<ss.length){t:q}(h0:0<=t)(h1:t<=8589934592):je7 (zs,(ps,(cs,ss))) (i:q) t=D (Dz zs cs ss[i] t):=by
 have fN:=hc.sc _ (jq hi);have oo:=fN.ll;have fq:=fN.el;have qN:ss.getD i (B,(([]:y bh),([]:y cO)))=ss[i]:=by simp[E,hi]
 have hL:=jrv (zs:=zs) (ps:=ps) (cs:=cs) (ss:=ss) (tbs:=zs.map tb) (ls:=ss[i].2.1) (nm:=ss[i].1) (es:=ss[i].2.2) (t:=t) (Pf:=ij zs cs ss[i].2.1 t) aa (λk hk=>by
  have e:ij zs cs ss[i].2.1 t k=iF zs cs ss[i].2.1[k] t:=by simp[ij,E,hk]
  rw[e];exact(jyB hs (fN.ly _ (jq hk)) (ss:=ss) h0 h1).2.1)
 have NU:∃k,j5X ((zs,(ps,(cs,ss))),zs.map tb) (ss[i].1,(ss[i].2.1,ss[i].2.2)) t=D (k,jL ss[i].2.2 t (ij zs cs ss[i].2.1 t) ss[i].2.1.length):=by
  rw[show j5X ((zs,(ps,(cs,ss))),zs.map tb) (ss[i].1,(ss[i].2.1,ss[i].2.2)) t=_ from hL];simp only[jL];cases iD (om ss[i].2.2 t (ij zs cs ss[i].2.1 t)) ss[i].2.1.length with
  |none=>exact⟨_,rfl⟩
  |some k=>exact⟨_,rfl⟩
 obtain⟨k,NU⟩:=NU;have ef:=VL (es:=ss[i].2.2) aa (t:=t) ss[i].2.2.length 0 (jL ss[i].2.2 t (ij zs cs ss[i].2.1 t) ss[i].2.1.length) aa;rw[jw]at ef;simp only[je7,jlw,hc.of,ja,jl,jd,j5u,show A ss.length=(ss.length:q) from rfl];rw[ai (show (i:q)>=0 by omega),ai (show (i:q)<(ss.length:q) by omega),bR];simp only[jc,jl,jd,je,qN,jgZ];rw[al (show¬t<0 by omega),al (show¬t>8589934592 by omega)];simp only[jd];simp only[NU,ja,jiW,show A ss[i].2.2.length=(ss[i].2.2.length:q) from rfl,show Cp (jL ss[i].2.2 t (ij zs cs ss[i].2.1 t) ss[i].2.1.length) t ss[i].2.2 (ss[i].2.2.length:q) 0=_ from ef];rfl
omit hs in
theorem VM{l:aW}(h:l.length≠0):zH l=(l.getD (l.length-1) ((0:q),(0:q))).1+86400:=by
 unfold zH ba;rw[if_neg h,if_neg h,if_pos (jz _)];rfl
omit hs in
theorem iH{o:q}{l:aW}(h:gv o l):0<=zH l/\zH l<=8589934592+86400:=by
 unfold zH;by_cases h0:l.length=0
 .rw[if_pos h0];omega
 .rw[if_neg h0];have e:ba l (l.length+1)=8589934593:=mo;have:=h.frm_lt (i:=l.length) (jz _);have:=h.frm_le (i:=0) (j:=l.length) aa aa;have e0:ba l 0=0:=mn;omega
omit hs in
theorem sy{i:q}(h0:0<=i)(h1:i<(zs.length:q)){c:eA}:j3I (c,zs.map tb) i=D (tb (aX zs i)):=by
 simp only[j3I,zi];rw[cG h0 h1,jc,Nq h0 h1];rfl
theorem DA{i:q}(h0:0<=i)(h1:i<(zs.length:q)){ss:y cL}{n:q}(hn:0<=n):j2C i zs ps cs ss (zs.map tb) n=D (zs,ps,cs,ss,zs.map tb,max n (zH (tb (aX zs i)).2)):=by
 have hz:fA (aX zs i):=gZ hs.ok h0 h1;have hb:=iH hz.ztab.2;have hlen:=hz.ztab.2.len;simp only[j2C,sy h0 h1,ja,j7p,j9V,show A (tb (aX zs i)).2.length=((tb (aX zs i)).2.length:q) from rfl];by_cases hl:(tb (aX zs i)).2.length=0
 .rw[al aa,jd,show zH (tb (aX zs i)).2=0 by unfold zH;rw[if_pos hl]];simp only[jb,jf,kn];omega
 .have e:=VM hl;rw[ai aa,jc,cN aa,jd,au (x:=((tb (aX zs i)).2.length:q)-1),bR,show (((tb (aX zs i)).2.length:q)-1).toNat=(tb (aX zs i)).2.length-1 by omega];simp only[jc,ja];rw[<-e,au (x:=zH (tb (aX zs i)).2),Dy]
omit hs in
theorem VN{z:bz}(hz:fA z):jaV z=D (zH (tb z).2):=by
 have h4:=hz.zref.2.1;have hb:=iH h4.2;have hlen:=h4.2.len;simp only[jaV,jeY,show j0g (z.1,(z.2.1,z.2.2))=_ from h4.1,ja,ji,jd,show A (tb z).2.length=((tb z).2.length:q) from rfl];by_cases hl:(tb z).2.length=0
 .rw[fi aa,jc,show zH (tb z).2=0 by unfold zH;rw[if_pos hl]]
 .have e:=VM hl;rw[cN aa,jd,jd,au (x:=((tb z).2.length:q)-1),bR,show (((tb z).2.length:q)-1).toNat=(tb z).2.length-1 by omega];simp only[jc,ja];rw[<-e,au (x:=zH (tb z).2)]
omit hs in
theorem VO{nz:H}{x:aT}(hx:oh nz x)(hl:x.2.2.length≠0):0<=x.2.2.getD (x.2.2.length-1) 0/\x.2.2.getD (x.2.2.length-1) 0<=98980:=by
 have nA:x.2.2.getD (x.2.2.length-1) 0∈x.2.2:=by rw[show x.2.2.getD (x.2.2.length-1) 0=x.2.2[x.2.2.length-1] by simp[E,show x.2.2.length-1<x.2.2.length by omega]];exact jq _
 exact⟨jxS (hx.day _ nA),jxd (hx.day _ nA)⟩
omit hs in
theorem DB{o:q}{l:aW}(ht:gv o l){L:bh}(hR:Rt L):0<=(hO o l L 0).getD 0:=by
 cases h:hO o l L 0 with
 |none=>simp
 |some v=>have:=Dm ht hR (k:=0) aa h;simp;omega
theorem jyd{ls:y bh}{m:q}(gq:m=ls.length)(gO:m<=100)(lT:∀L∈ls,ig zs.length ps.length cs.length L){i:H}(hi:i<ls.length){ss:y cL}{n:q}(hn:0<=n) :
  j1x ls m (i:q) zs ps cs ss (zs.map tb) n=D (.inl (ls,m,(i:q)+1,zs,ps,cs,ss,zs.map tb,max n (fh zs cs ls[i]))):=by
 have hL:=lT _ (jq hi);have bG:ls.getD i (B,((0:q),(((0:q),(0:q)),((0:q),((0:q),(([]:y q),(([]:y (q×q)),((0:q),(0:q)))))))))=ls[i]:=by simp[E,hi]
 simp only[j1x];rw[ai aa,bR,au (x:=(i:q)+1)];simp only[jc,je,bG];generalize ls[i]=L at *;have lH:=hL.rt2;have hz:fA (aX zs L.2.1):=gZ hs.ok hL.z0 hL.z1;obtain⟨v,eH,hv⟩:=sw hz.ztab.2 lH (k:=0) aa aa;have NV:j1m ((tb (aX zs L.2.1)).1,(tb (aX zs L.2.1)).2) (L.1,(L.2.1,((L.2.2.1.1,L.2.2.1.2),(L.2.2.2.1,(L.2.2.2.2.1,(L.2.2.2.2.2.1,(L.2.2.2.2.2.2.1,(L.2.2.2.2.2.2.2.1,L.2.2.2.2.2.2.2.2)))))))) 0=D (v,(hO (aX zs L.2.1).2.1 (tb (aX zs L.2.1)).2 L 0).isSome):=eH;have hb:=DB hz.ztab.2 lH;simp only[DA hs hL.z0 hL.z1 hn,ja,sy hL.z0 hL.z1,NV,Dy];by_cases hm:L.2.2.2.2.2.2.2.2=0
 .have el:fh zs cs L=max (zH (tb (aX zs L.2.1)).2) ((hO (aX zs L.2.1).2.1 (tb (aX zs L.2.1)).2 L 0).getD 0):=by have NW:=iH hz.ztab.2;unfold fh;rw[if_pos hm];omega
  rw[fi hm,el];cases hh:hO (aX zs L.2.1).2.1 (tb (aX zs L.2.1)).2 L 0 with
  |none=>simp only[zf,jd,jc,ve];congr 1;congr 1;simp only[jf,kn];omega
  |some w=>rw[hv w hh];simp only[qy,jc,qf];congr 1;congr 1;simp only[jf,kn];omega
 .have hx:oh zs.length (nJ cs L.2.2.2.2.2.2.2.1):=mu hs (hL.cal hm).1 (hL.cal hm).2;have el:fh zs cs L=max (max (zH (tb (aX zs L.2.1)).2) ((hO (aX zs L.2.1).2.1 (tb (aX zs L.2.1)).2 L 0).getD 0)) (ga zs (nJ cs L.2.2.2.2.2.2.2.1)):=by unfold fh;rw[if_neg hm]
  rw[cN hm,el,cG (hL.cal hm).1 (hL.cal hm).2];have tp:cs.getD L.2.2.2.2.2.2.2.1.toNat (B,((0:q),([]:y q)))=nJ cs L.2.2.2.2.2.2.2.1:=rfl;rw[tp];generalize nJ cs L.2.2.2.2.2.2.2.1=x at *;have mb:fA (aX zs x.2.1):=gZ hs.ok hx.z0 hx.z1;have NW:=iH hz.ztab.2;have DC:=iH mb.ztab.2;have nX:=hx.len;simp only[jd,jc,show A x.2.2.length=(x.2.2.length:q) from rfl];by_cases hl:x.2.2.length=0
  .have ec:ga zs x=zH (tb (aX zs x.2.1)).2:=by unfold ga;rw[if_pos hl];omega
   rw[al (show¬(x.2.2.length:q)>0 by omega),ec];cases hh:hO (aX zs L.2.1).2.1 (tb (aX zs L.2.1)).2 L 0 with
   |none=>simp only[zf,jd,ve,DA hs hx.z0 hx.z1 (show 0<=max n (zH (tb (aX zs L.2.1)).2) by omega),ja];congr 1;congr 1;simp only[jf,kn];omega
   |some w=>rw[hv w hh];simp only[qy,jc,jd,qf,DA hs hx.z0 hx.z1 (show 0<=max (max n (zH (tb (aX zs L.2.1)).2)) w by omega),ja];congr 1;congr 1;simp only[jf,kn];omega
  .obtain⟨l0,l1⟩:=VO hx hl;obtain⟨u,hu⟩:=VJ mb.ztab.2 (s:=lj x) (by unfold lj;omega);have eF:=Nl mb.ztab.2 (d:=x.2.2.getD (x.2.2.length-1) 0+1) (c:=0) aa aa aa aa;rw[O,show (x.2.2.getD (x.2.2.length-1) 0+1)*86400=lj x from rfl,hu]at eF;have DD:j1l ((tb (aX zs x.2.1)).1,(tb (aX zs x.2.1)).2) (x.2.2.getD (x.2.2.length-1) 0+1,0)=D (u,K):=eF;have ec:ga zs x=max (zH (tb (aX zs x.2.1)).2) u:=by unfold ga;rw[if_neg hl,hu];rfl
   rw[ai (show (x.2.2.length:q)>0 by omega),ec,au (x:=(x.2.2.length:q)-1),cG (show 0<=(x.2.2.length:q)-1 by omega) aa,show ((x.2.2.length:q)-1).toNat=x.2.2.length-1 by omega,au (x:=x.2.2.getD (x.2.2.length-1) 0+1)];cases hh:hO (aX zs L.2.1).2.1 (tb (aX zs L.2.1)).2 L 0 with
   |none=>simp only[zf,jd,ve,DA hs hx.z0 hx.z1 (show 0<=max n (zH (tb (aX zs L.2.1)).2) by omega),ja,jc,sy hx.z0 hx.z1,DD];congr 1;congr 1;simp only[jf,kn];omega
   |some w=>rw[hv w hh];simp only[qy,jc,qf,DA hs hx.z0 hx.z1 (show 0<=max (max n (zH (tb (aX zs L.2.1)).2)) w by omega),ja,sy hx.z0 hx.z1,DD];congr 1;congr 1;simp only[jf,kn];omega
theorem jxf{ls:y bh}(gO:ls.length<=100)(lT:∀L∈ls,ig zs.length ps.length cs.length L){i:H}(hi:i<ls.length){ss:y cL}{nm:M}{es:y cO}{n:q}(hn:0<=n) :
  j2F n (i:q) zs ps cs ss nm ls es=D (.inl (max n (fh zs cs ls[i]),(i:q)+1,zs,ps,cs,ss,nm,ls,es)):=by
 have hL:=lT _ (jq hi);have bG:ls.getD i (B,((0:q),(((0:q),(0:q)),((0:q),((0:q),(([]:y q),(([]:y (q×q)),((0:q),(0:q)))))))))=ls[i]:=by simp[E,hi]
 simp only[j2F,show A ls.length=(ls.length:q) from rfl];rw[ai aa,cG (show (0:q)<=(i:q) by omega) aa,au (x:=(i:q)+1)];simp only[jc,je,bG];generalize ls[i]=L at *;have lH:=hL.rt2;have hz:fA (aX zs L.2.1):=gZ hs.ok hL.z0 hL.z1;have h4:=hz.zref.2.1;have A9:zs.getD L.2.1.toNat (B,((0:q),([]:y aP)))=aX zs L.2.1:=rfl;obtain⟨v,eH,hv⟩:=Dn h4 lH (k:=0) aa aa
 have NV:jaW ((aX zs L.2.1).1,((aX zs L.2.1).2.1,(aX zs L.2.1).2.2)) (L.1,(L.2.1,((L.2.2.1.1,L.2.2.1.2),(L.2.2.2.1,(L.2.2.2.2.1,(L.2.2.2.2.2.1,(L.2.2.2.2.2.2.1,(L.2.2.2.2.2.2.2.1,L.2.2.2.2.2.2.2.2)))))))) 0=D (match hO (aX zs L.2.1).2.1 (tb (aX zs L.2.1)).2 L 0 with|some w=>(w,0)|none=>(0,10)):=by
  simp only[jaW];rw[show ja4 ((aX zs L.2.1).1,((aX zs L.2.1).2.1,(aX zs L.2.1).2.2)) (L.1,L.2.1,(L.2.2.1.1,L.2.2.1.2),L.2.2.2.1,L.2.2.2.2.1,L.2.2.2.2.2.1,L.2.2.2.2.2.2.1,L.2.2.2.2.2.2.2.1,L.2.2.2.2.2.2.2.2)=_ from UJ h4 L,ja,if_pos lH,al (show¬(0:q)<0 by omega),al (show¬(0:q)>2386092 by omega)];simp only[ji,jd];rw[show j5E ((aX zs L.2.1).1,((aX zs L.2.1).2.1,(aX zs L.2.1).2.2)) (L.1,L.2.1,(L.2.2.1.1,L.2.2.1.2),L.2.2.2.1,L.2.2.2.2.1,L.2.2.2.2.2.1,L.2.2.2.2.2.2.1,L.2.2.2.2.2.2.2.1,L.2.2.2.2.2.2.2.2) 0=_ from eH];cases hh:hO (aX zs L.2.1).2.1 (tb (aX zs L.2.1)).2 L 0 with
  |none=>rfl
  |some w=>rw[hv w hh];rfl
 have hb:=DB hz.ztab.2 lH;rw[cG hL.z0 hL.z1];simp only[jc,A9,show jaV ((aX zs L.2.1).1,((aX zs L.2.1).2.1,(aX zs L.2.1).2.2))=D (zH (tb (aX zs L.2.1)).2) from VN hz,ja,NV,Dy];by_cases hm:L.2.2.2.2.2.2.2.2=0
 .have el:fh zs cs L=max (zH (tb (aX zs L.2.1)).2) ((hO (aX zs L.2.1).2.1 (tb (aX zs L.2.1)).2 L 0).getD 0):=by have NW:=iH hz.ztab.2;unfold fh;rw[if_pos hm];omega
  rw[fi hm,el];cases hh:hO (aX zs L.2.1).2.1 (tb (aX zs L.2.1)).2 L 0 with
  |none=>simp only[show ((10:q)==0)=S from rfl,jd,jc,ve];congr 1;congr 1;simp only[jf,vq];omega
  |some w=>simp only[kv,jc,qf];congr 1;congr 1;simp only[jf,vq];omega
 .have hx:oh zs.length (nJ cs L.2.2.2.2.2.2.2.1):=mu hs (hL.cal hm).1 (hL.cal hm).2;have el:fh zs cs L=max (max (zH (tb (aX zs L.2.1)).2) ((hO (aX zs L.2.1).2.1 (tb (aX zs L.2.1)).2 L 0).getD 0)) (ga zs (nJ cs L.2.2.2.2.2.2.2.1)):=by unfold fh;rw[if_neg hm]
  rw[cN hm,el,cG (hL.cal hm).1 (hL.cal hm).2];have tp:cs.getD L.2.2.2.2.2.2.2.1.toNat (B,((0:q),([]:y q)))=nJ cs L.2.2.2.2.2.2.2.1:=rfl;rw[tp];generalize nJ cs L.2.2.2.2.2.2.2.1=x at *;have mb:fA (aX zs x.2.1):=gZ hs.ok hx.z0 hx.z1;have Ba:zs.getD x.2.1.toNat (B,((0:q),([]:y aP)))=aX zs x.2.1:=rfl;have NW:=iH hz.ztab.2;have DC:=iH mb.ztab.2;have nX:=hx.len;rw[cG hx.z0 hx.z1];simp only[jd,jc,Ba,show jaV ((aX zs x.2.1).1,((aX zs x.2.1).2.1,(aX zs x.2.1).2.2))=D (zH (tb (aX zs x.2.1)).2) from VN mb,ja,show A x.2.2.length=(x.2.2.length:q) from rfl];by_cases hl:x.2.2.length=0
  .have ec:ga zs x=zH (tb (aX zs x.2.1)).2:=by unfold ga;rw[if_pos hl];omega
   rw[al (show¬(x.2.2.length:q)>0 by omega),ec];cases hh:hO (aX zs L.2.1).2.1 (tb (aX zs L.2.1)).2 L 0 with
   |none=>simp only[show ((10:q)==0)=S from rfl,jd,ve];congr 1;congr 1;simp only[jf,vq];omega
   |some w=>simp only[kv,jc,jd,qf];congr 1;congr 1;simp only[jf,vq];omega
  .obtain⟨l0,l1⟩:=VO hx hl;obtain⟨u,hu⟩:=VJ mb.ztab.2 (s:=lj x) (by unfold lj;omega);have eF:=GI mb.zref.2.1 (d:=x.2.2.getD (x.2.2.length-1) 0+1) (c:=0) aa aa aa;rw[O,show (x.2.2.getD (x.2.2.length-1) 0+1)*86400=lj x from rfl,hu]at eF;have DD:j2V ((aX zs x.2.1).1,((aX zs x.2.1).2.1,(aX zs x.2.1).2.2)) (x.2.2.getD (x.2.2.length-1) 0+1,0)=D (u,0):=eF;have ec:ga zs x=max (zH (tb (aX zs x.2.1)).2) u:=by unfold ga;rw[if_neg hl,hu];rfl
   rw[ai (show (x.2.2.length:q)>0 by omega),ec,au (x:=(x.2.2.length:q)-1),cG (show 0<=(x.2.2.length:q)-1 by omega) aa,show ((x.2.2.length:q)-1).toNat=x.2.2.length-1 by omega,au (x:=x.2.2.getD (x.2.2.length-1) 0+1)];cases hh:hO (aX zs L.2.1).2.1 (tb (aX zs L.2.1)).2 L 0 with
   |none=>simp only[show ((10:q)==0)=S from rfl,jd,jc,ve,DD,ja,kv];congr 1;congr 1;simp only[jf,vq];omega
   |some w=>simp only[kv,jc,qf,DD,ja];congr 1;congr 1;simp only[jf,vq];omega
end
def ot(zs:y bz)(cs:y aT):q->y bh->q
 |n,[]=>n
 |n,L::r=>ot zs cs (max n (fh zs cs L)) r
def nL:q->y cO->q
 |n,[]=>n
 |n,x::r=>nL (max n x.2.2.2.2) r
theorem NX{zs:y bz}{cs:y aT}{t:q}:∀(ls:y bh)(n:q),ot zs cs n ls<=t↔n<=t/\∀L∈ls,fh zs cs L<=t
 |[],n=>by simp[ot]
 |L::r,n=>by
  simp only[ot,NX r,jm,forall_eq_or_imp];constructor
  .rintro⟨a,b⟩;exact⟨aa,aa,b⟩
  .rintro⟨a,b,c⟩;exact⟨aa,c⟩
theorem G0{t:q}:∀(es:y cO)(n:q),nL n es<=t↔n<=t/\∀x∈es,x.2.2.2.2<=t
 |[],n=>by simp[nL]
 |x::r,n=>by
  simp only[nL,G0 r,jm,forall_eq_or_imp];constructor
  .rintro⟨a,b⟩;exact⟨aa,aa,b⟩
  .rintro⟨a,b,c⟩;exact⟨aa,c⟩
def lJ(zs:y bz)(cs:y aT)(s:cL):Int:=nL (ot zs cs 0 s.2.1) s.2.2
theorem NY{zs:y bz}{cs:y aT}{s:cL}{t:q}:lJ zs cs s<=t↔0<=t/\(∀L∈s.2.1,fh zs cs L<=t)/\∀x∈s.2.2,x.2.2.2.2<=t:=by
 unfold lJ;rw[G0,NX,and_assoc]
theorem jvd{zs:y bz}{cs:y aT}{s:cL}:ot zs cs (nL 0 s.2.2) s.2.1=lJ zs cs s:=by
 have key:∀t,ot zs cs (nL 0 s.2.2) s.2.1<=t↔lJ zs cs s<=t:=λt=>by
  rw[NY,NX,G0];constructor
  .rintro⟨⟨a,b⟩,c⟩;exact⟨a,c,b⟩
  .rintro⟨a,c,b⟩;exact⟨⟨a,b⟩,c⟩
 have h1:=(key (lJ zs cs s)).2 (J _);have h2:=(key (ot zs cs (nL 0 s.2.2) s.2.1)).1 (J _);omega
section
variable{zs:y bz}{ps:y cZ}{cs:y aT}(hs:lG zs ps cs)
include hs
theorem jye{L:bh}(hL:ig zs.length ps.length cs.length L):fh zs cs L<=1000000000000:=by
 have hz:fA (aX zs L.2.1):=gZ hs.ok hL.z0 hL.z1;have hb:=iH hz.ztab.2
 have h1:(hO (aX zs L.2.1).2.1 (tb (aX zs L.2.1)).2 L 0).getD 0<=8589934592:=by
  cases h:hO (aX zs L.2.1).2.1 (tb (aX zs L.2.1)).2 L 0 with
  |none=>simp
  |some v=>have:=Dm hz.ztab.2 hL.rt2 (k:=0) aa h;simp;omega
 unfold fh;by_cases hm:L.2.2.2.2.2.2.2.2=0
 .rw[if_pos hm];omega
 .rw[if_neg hm];have hx:oh zs.length (nJ cs L.2.2.2.2.2.2.2.1):=mu hs (hL.cal hm).1 (hL.cal hm).2;generalize nJ cs L.2.2.2.2.2.2.2.1=x at *;have mb:fA (aX zs x.2.1):=gZ hs.ok hx.z0 hx.z1;have DC:=iH mb.ztab.2
  have h2:ga zs x<=1000000000000:=by
   unfold ga;by_cases hl:x.2.2.length=0
   .rw[if_pos hl];omega
   .rw[if_neg hl];cases h:fO (aX zs x.2.1).2.1 (tb (aX zs x.2.1)).2 (lj x) with
    |none=>simp;omega
    |some v=>have:=xc mb.ztab.2 h;simp;omega
  omega
theorem jyJ{s:cL}(hk:SG zs ps cs s):0<=lJ zs cs s/\lJ zs cs s<=1000000000000:=
 ⟨(NY.1 (J _)).1,NY.2 ⟨aa,λL hL=>jye hs (hk.ly L hL),λx hx=>(hk.ed x hx).t1⟩⟩
theorem VP{ls:y bh}(hl:ls.length<=100)(lT:∀L∈ls,ig zs.length ps.length cs.length L){ss:y cL}{nm:M}{es:y cO}:∀(m i:H)(n:q),i+m=ls.length->0<=n->
  Cu n (i:q) zs ps cs ss nm ls es=D (ot zs cs n (ls.drop i),nm,ls,es)
 |0,i,n,hi,_=>by
  rw[Sw];simp only[j2F,show A ls.length=(ls.length:q) from rfl];rw[al aa,jd,bd,jk aa];rfl
 |m+1,i,n,hi,hn=>by
  have cH:i<ls.length:=aa;rw[Sw,jxf hs hl lT cH hn,aZ,jj cH];exact VP hl lT m (i+1) (max n (fh zs cs ls[i])) aa aa
omit hs in
theorem VQ{es:y cO}(hl:es.length<=100){nm:M}{ls:y bh}:∀(m i:H)(n:q),i+m=es.length->
  Cv n (i:q) nm ls es=D (nL n (es.drop i))
 |0,i,n,hi=>by
  rw[Sz];simp only[j3N,show A es.length=(es.length:q) from rfl];rw[al aa,jd,bd,jk aa];rfl
 |m+1,i,n,hi=>by
  have cH:i<es.length:=aa;have bG:es.getD i ((0:q),((0:q),((0:q),((0:q),(0:q)))))=es[i]:=by simp[E,cH]
  rw[Sz];simp only[j3N,show A es.length=(es.length:q) from rfl];rw[ai aa,bR,au (x:=(i:q)+1)];simp only[jc,je,bG,Dy,aZ];rw[jj cH];exact VQ hl m (i+1) _ aa
theorem VR{es:y cO}(hl:es.length<=100){nm:M}{ls:y bh}{ss:y cL}:∀(m i:H)(n:q),i+m=es.length->
  Cl es (es.length:q) (i:q) zs ps cs ss (zs.map tb) nm ls es n=D (zs,ps,cs,ss,zs.map tb,nm,ls,es,nL n (es.drop i))
 |0,i,n,hi=>by
  have _:=hs;rw[RS];simp only[j23];rw[al aa,jd,bd,jk aa];rfl
 |m+1,i,n,hi=>by
  have cH:i<es.length:=aa;have bG:es.getD i ((0:q),((0:q),((0:q),((0:q),(0:q)))))=es[i]:=by simp[E,cH]
  rw[RS];simp only[j23];rw[ai aa,bR,au (x:=(i:q)+1)];simp only[jc,je,bG,Dy,aZ];rw[jj cH];exact VR hl m (i+1) _ aa
theorem VS{ls:y bh}(hl:ls.length<=100)(lT:∀L∈ls,ig zs.length ps.length cs.length L){ss:y cL}:∀(m i:H)(n:q),i+m=ls.length->0<=n->
  Cm ls (ls.length:q) (i:q) zs ps cs ss (zs.map tb) n=D (ot zs cs n (ls.drop i))
 |0,i,n,hi,_=>by
  rw[RT];simp only[j1x];rw[al aa,jd,bd,jk aa];rfl
 |m+1,i,n,hi,hn=>by
  have cH:i<ls.length:=aa;rw[RT,jyd hs rfl aa lT cH hn,aZ,jj cH];exact VS hl lT m (i+1) (max n (fh zs cs ls[i])) aa aa
theorem jxg{ss:y cL}(hc:CG (zs,(ps,(cs,ss)))){i:H}(hi:i<ss.length):jcl (zs,(ps,(cs,ss))) (i:q)=D (lJ zs cs ss[i]):=by
 have fN:=hc.sc _ (jq hi);have oo:=fN.ll;have fq:=fN.el;have qN:ss.getD i (B,(([]:y bh),([]:y cO)))=ss[i]:=by simp[E,hi]
 have e8:=hc.r8;have l0:=VP hs aa fN.ly (ss:=ss) (nm:=ss[i].1) (es:=ss[i].2.2) ss[i].2.1.length 0 0 aa aa;have l2:=VQ (es:=ss[i].2.2) aa (nm:=ss[i].1) (ls:=ss[i].2.1) ss[i].2.2.length 0 (ot zs cs 0 ss[i].2.1) aa;rw[jw]at l0 l2;simp only[jcl,e8,ja,ji,jd,show A ss.length=(ss.length:q) from rfl];rw[al (show¬(i:q)<0 by omega),al (show¬(i:q)>=(ss.length:q) by omega),bR];simp only[jd,jc,je,qN];rw[show Cu 0 0 zs ps cs ss ss[i].1 ss[i].2.1 ss[i].2.2=_ from l0];simp only[ja];rw[show Cv (ot zs cs 0 ss[i].2.1) 0 ss[i].1 ss[i].2.1 ss[i].2.2=_ from l2];rfl
theorem jxh{ss:y cL}(hc:CG (zs,(ps,(cs,ss)))){i:H}(hi:i<ss.length):j6J (zs,(ps,(cs,ss))) (i:q)=D (lJ zs cs ss[i]):=by
 have fN:=hc.sc _ (jq hi);have oo:=fN.ll;have fq:=fN.el;have qN:ss.getD i (B,(([]:y bh),([]:y cO)))=ss[i]:=by simp[E,hi]
 have l0:=VR hs (es:=ss[i].2.2) aa (nm:=ss[i].1) (ls:=ss[i].2.1) (ss:=ss) ss[i].2.2.length 0 0 aa;have h9:=(G0 (t:=nL 0 ss[i].2.2) ss[i].2.2 0).1 (J _);have l2:=VS hs aa fN.ly (ss:=ss) ss[i].2.1.length 0 (nL 0 ss[i].2.2) aa h9.1;rw[jw]at l0 l2;simp only[j6J,hc.of,ja,jl,jd,j5u,show A ss.length=(ss.length:q) from rfl];rw[ai (show (i:q)>=0 by omega),ai (show (i:q)<(ss.length:q) by omega),bR];simp only[jc,jl,jd,je,qN,j98,show A ss[i].2.2.length=(ss[i].2.2.length:q) from rfl];rw[show Cl ss[i].2.2 (ss[i].2.2.length:q) 0 zs ps cs ss (zs.map tb) ss[i].1 ss[i].2.1 ss[i].2.2 0=_ from l0];simp only[ja,show A ss[i].2.1.length=(ss[i].2.1.length:q) from rfl];rw[show Cm ss[i].2.1 (ss[i].2.1.length:q) 0 zs ps cs ss (zs.map tb) (nL 0 ss[i].2.2)=_ from l2,jvd];rfl
end
section
variable{zs:y bz}{ps:y cZ}{cs:y aT}(hs:lG zs ps cs)
include hs
end
theorem G1(L:bh)(h:L.2.2.2.2.2.1.length<=9223372036854775807):∃p e,j2y L=D (p,e)/\j5y L=D (p,e):=by
 have _:=h;have e3:I (L.2.2.2.1>=(3:q))=I (L.2.2.2.1>(2:q)):=decide_eq_decide.2 aa;simp only[j2y,j5y,e3];cases hb:(cond (cond (cond (cond (cond (I (L.2.2.2.1<(0:q))) K (I (L.2.2.2.1>(2:q)))) K (I (L.2.2.2.2.1<(1:q)))) K (I (L.2.2.2.2.1>(400:q)))) K (I (A (U L.2.2.2.2.2.1)<(1:q)))) K (I (A (U L.2.2.2.2.2.1)>(12:q)))) with
 |true=>exact⟨0,1,rfl,rfl⟩
 |false=>
  have h0:¬L.2.2.2.1<0:=λhh=>by rw[ai hh]at hb;simp at hb
  have h1:¬L.2.2.2.1>2:=λhh=>by rw[ai hh]at hb;simp at hb
  simp only[jd,ju,ku];rw[cG (show (0:q)<=L.2.2.2.1 by omega) (show L.2.2.2.1<((3:H):q) by omega)];exact⟨_,_,rfl,rfl⟩
theorem jve:∀(b a:H),FP (a:q) (b:q)=D ((F b a:H):q):=by
 intro b;induction b using Nat.strongRecOn with
 |_ b ih=>
  intro a;rw[_9];simp only[j7y];by_cases hb:b=0
  .subst hb;simp only[Int.natCast_zero,ji,jd,Nat.gcd_zero_left];exact bd ..
  .rw[show ((b:q) != 0)=K by simp;omega,show ((b:q)==0)=S from cN aa,yR aa,<-Int.natCast_emod];simp only[jc,jo,aZ];rw[ih (a%b) (Nat.mod_lt _ aa) b,Nat.gcd_rec b a]
theorem jvf(a b:H):jlA (a:q) (b:q)=D ((F a b:H):q):=by
 simp only[jlA,jve,ja,Nat.gcd_comm]
theorem ju5(L:bh):3600∣bD L:=by
 unfold bD;refine N ?_ (Nat.dvd_mul_left _ _);unfold jP;split
 .exact⟨1,rfl⟩
 .split
  .exact⟨24,rfl⟩
  .exact⟨168,rfl⟩
theorem jpx{nz np nc:H}{L:bh}(h:ig nz np nc L):j5y L=D ((bD L:q),0):=by
 obtain⟨p,e,h1,h2⟩:=G1 L (by have:=h.m1;omega);rw[VC h]at h1;rw[h2,<-h1]
def sA(n:H):(q×q) ⊕ Int:=if n>4294967296 then .inl (0,5) else .inr (n:q)
theorem VT{nz np nc:H}{ls:y bh}(h:∀L∈ls,ig nz np nc L)(hl:ls.length<=100):∀(n i s:H),i+n=ls.length->1<=s->s<=4294967296->3600∣s->
  Ct (s:q) ls (i:q)=D (sA (qT s (ls.drop i)))
 |0,i,s,hi,_,h1,_=>by
  rw[Sv];simp only[j47,show A ls.length=(ls.length:q) from rfl];rw[al aa,jd,bd,jk aa];rw[show qT s []=s from rfl];unfold sA;rw[if_neg aa]
 |n+1,i,s,hi,s0,s1,s3=>by
  have cH:i<ls.length:=aa;have hL:=h _ (jq cH);obtain⟨p0,p1⟩:=zB hL;have bG:ls.getD i (B,((0:q),(((0:q),(0:q)),((0:q),((0:q),(([]:y q),(([]:y (q×q)),((0:q),(0:q)))))))))=ls[i]:=by simp[E,cH]
  have oG:1<=F s (bD ls[i]):=Nat.gcd_pos_of_pos_left _ aa;have AH:3600<=F s (bD ls[i]):=Nat.le_of_dvd aa (Nat.dvd_gcd s3 (ju5 _));have hq:s/F s (bD ls[i])<=4294967296/3600:=qw (Nat.div_le_div_left AH aa) (Nat.div_le_div_right s1);have Df:s/F s (bD ls[i])<=1193046:=hq;have hmul:s/F s (bD ls[i])*bD ls[i]<=1193046*2903040000:=Nat.mul_le_mul Df p1;have mD:s/F s (bD ls[i])*bD ls[i]=G s (bD ls[i]):=by rw[G,R s,R (s/_),Nat.mul_div_assoc _ (Nat.gcd_dvd_left _ _)]
  rw[Sv];simp only[j47,show A ls.length=(ls.length:q) from rfl];rw[ai (show (i:q)<(ls.length:q) by omega),cG (show (0:q)<=(i:q) by omega) aa];simp only[jc,je,bG];rw[show j5y (ls[i].1,(ls[i].2.1,((ls[i].2.2.1.1,ls[i].2.2.1.2),(ls[i].2.2.2.1,(ls[i].2.2.2.2.1,(ls[i].2.2.2.2.2.1,(ls[i].2.2.2.2.2.2.1,(ls[i].2.2.2.2.2.2.2.1,ls[i].2.2.2.2.2.2.2.2))))))))=_ from jpx hL];simp only[ja,jvf];rw[mD]at hmul;rw[show (((F s (bD ls[i]):H):q)==0)=S from cN aa,qS aa,<-Int.natCast_ediv];generalize s/F s (bD ls[i])=Q at Df mD hq;rw[au (x:=(Q:q)),<-Int.natCast_mul,mD,au (x:=((G s (bD ls[i]):H):q)),jj cH,au (x:=(i:q)+1)];simp only[jo,jc,qT];by_cases hb:G s (bD ls[i])>4294967296
  .rw[ai (show ((G s (bD ls[i]):H):q)>4294967296 by omega),jc,bd];have:gz (G s (bD ls[i]))=4294967297:=by unfold gz;rw[if_pos hb]
   rw[this,VG (ls.drop (i+1)) (λL hL=>h L (z5 hL))];rfl
  .rw[al (show¬((G s (bD ls[i]):H):q)>4294967296 by omega),jd,aZ];have:gz (G s (bD ls[i]))=G s (bD ls[i]):=by unfold gz;rw[if_neg hb]
   rw[this];exact VT h hl n (i+1) (G s (bD ls[i])) aa (Nat.lcm_pos s0 p0) aa (N s3 (Nat.dvd_lcm_left _ _))
section
variable{zs:y bz}{ps:y cZ}{cs:y aT}{ss:y cL}
theorem jyK(hv:CV (zs,(ps,(cs,ss)))):∃e,j2g (zs,(ps,(cs,ss)))=D e/\j6s (zs,(ps,(cs,ss)))=D e/\(e=0->CG (zs,(ps,(cs,ss)))):=by
 obtain⟨e,e1,e2,e3⟩:=hv.w.chk;refine⟨e,e1,e2,λhe=>?_⟩;subst he;obtain⟨hC,hg⟩:=e3 rfl;obtain⟨e',v,b,eO,eC,f1,f2⟩:=jy8 hv;have h0:e'=0:=by rw[e2]at eC;simp at eC;exact eC.symm
 obtain⟨rfl,rfl,_,hS⟩:=f2 h0;exact⟨hg,e1,e2,hS,eO⟩
theorem NZ(hv:CV (zs,(ps,(cs,ss))))(i:q):∃p e,j3v (zs,(ps,(cs,ss))) i=D (p,e)/\j5Z (zs,(ps,(cs,ss))) i=D (p,e)/\
  (e=0->CG (zs,(ps,(cs,ss)))/\0<=i/\∃h:i.toNat<ss.length,p=(pN ss[i.toNat]:q)/\pN ss[i.toNat]<=4294967296):=by
 obtain⟨e,e1,e2,e3⟩:=jyK hv;by_cases he:e=0
 case neg=>
  refine⟨0,8,?_,?_,λh=>by simp at h⟩
  .simp only[j3v,e1,ja];rw[show (e != 0)=K by simpa using he];rfl
  .simp only[j5Z,e2,ja];rw[show (e != 0)=K by simpa using he];rfl
 subst he;have hc:=e3 rfl;by_cases hi:0<=i/\i<(ss.length:q)
 case neg=>
  refine⟨0,3,?_,?_,λh=>by simp at h⟩
  .simp only[j3v,e1,ja,ji,jd,j5u,show A ss.length=(ss.length:q) from rfl];by_cases h0:0<=i
   .rw[ai (show i>=0 from h0),al (show¬i<(ss.length:q) by omega)];rfl
   .rw[al (show¬i>=0 from h0)];rfl
  .simp only[j5Z,e2,ja,ji,jd,show A ss.length=(ss.length:q) from rfl];by_cases h0:i<0
   .rw[ai h0];rfl
   .rw[al h0,ai (show i>=(ss.length:q) by omega)];rfl
 have ay:i.toNat<ss.length:=aa;have fN:=hc.sc _ (jq ay);have oo:=fN.ll;have bG:ss.getD i.toNat (B,(([]:y bh),([]:y cO)))=ss[i.toNat]:=by simp[E,ay]
 have eP:=jtZ hc ay;dsimp only at eP;rw[show ((i.toNat:H):q)=i by omega]at eP;have lp:=VT fN.ly aa ss[i.toNat].2.1.length 0 604800 aa aa aa ⟨168,rfl⟩;rw[jw]at lp;have lp:Ct 604800 ss[i.toNat].2.1 0=D (sA (pN ss[i.toNat])):=lp
 have eR:j5Z (zs,(ps,(cs,ss))) i=D (if pN ss[i.toNat]>4294967296 then (0,5) else ((pN ss[i.toNat]:q),0)):=by
  simp only[j5Z,e2,ja,ji,jd,show A ss.length=(ss.length:q) from rfl];rw[al (show¬i<0 by omega),al (show¬i>=(ss.length:q) by omega),cG hi.1 hi.2];simp only[jd,jc,bG,lp,ja,sA];by_cases hb:pN ss[i.toNat]>4294967296
  .rw[if_pos hb,if_pos hb];rfl
  .rw[if_neg hb,if_neg hb];rfl
 by_cases hb:pN ss[i.toNat]>4294967296
 .rw[if_pos hb]at eP eR;exact⟨0,5,eP,eR,λh=>by simp at h⟩
 .rw[if_neg hb]at eP eR;exact⟨_,0,eP,eR,λ_=>⟨hc,hi.1,ay,rfl,aa⟩⟩
theorem jyL{h p t:q}(_h0:0<=t)(hh:0<=h)(hp:0<p)(qD:¬t<h+p):0<=h+(t-h)%p/\h+(t-h)%p<=t:=by
 have m0:=Int.emod_nonneg (t-h) (show p≠0 by omega);have m1:=Int.emod_lt_of_pos (t-h) hp;omega
theorem N0(hv:CV (zs,(ps,(cs,ss))))(i t:q):∃x e,j5w (zs,(ps,(cs,ss))) i t=D (x,e)/\j9L (zs,(ps,(cs,ss))) i t=D (x,e)/\
  (e=0->CG (zs,(ps,(cs,ss)))/\0<=i/\i.toNat<ss.length/\0<=x/\x<=8589934592):=by
 obtain⟨p,e,e1,e2,e3⟩:=NZ hv i;simp only[j5w,j9L,e1,e2,ja];by_cases he:e=0
 case neg=>rw[show (e != 0)=K by simpa using he];exact⟨0,e,rfl,rfl,λh=>absurd h he⟩
 subst he;obtain⟨hc,AB,ay,hp,DR⟩:=e3 rfl;have fN:=hc.sc _ (jq ay);simp only[ji,jd];by_cases ht:0<=t/\t<=8589934592
 case neg=>
  have:(cond (I (t<(0:q))) K (I (t>(8589934592:q))))=true:=by
   by_cases h0:t<0
   .rw[ai h0];rfl
   .rw[al h0,ai (show t>8589934592 by omega)];rfl
  rw[this];exact⟨0,1,rfl,rfl,λh=>by simp at h⟩
 rw[al (show¬t<0 by omega),al (show¬t>8589934592 by omega)];have hb:0<=lJ zs cs ss[i.toNat]/\lJ zs cs ss[i.toNat]<=1000000000000:=jyJ hc.g fN;have hpb:1<=pN ss[i.toNat]:=(VH ss[i.toNat].2.1 604800 fN.ly aa aa).1;have c1:=jxh hc.g hc ay;have c2:=jxg hc.g hc ay;rw[show ((i.toNat:H):q)=i by omega]at c1 c2;simp only[jd,c1,c2,ja];subst hp;rw[au (x:=lJ zs cs ss[i.toNat]+(pN ss[i.toNat]:q))];by_cases hl:t<lJ zs cs ss[i.toNat]+(pN ss[i.toNat]:q)
 .rw[ai hl];exact⟨t,0,rfl,rfl,λ_=>⟨hc,AB,ay,ht⟩⟩
 .obtain⟨r0,r1⟩:=jyL ht.1 hb.1 (show (0:q)<(pN ss[i.toNat]:q) by omega) hl;rw[al hl,au (x:=t-lJ zs cs ss[i.toNat]),cN (show (pN ss[i.toNat]:q)≠0 by omega),yR aa,au (x:=lJ zs cs ss[i.toNat]+(t-lJ zs cs ss[i.toNat])%(pN ss[i.toNat]:q))];exact⟨_,0,rfl,rfl,λ_=>⟨hc,AB,ay,r0,aa⟩⟩
theorem VU(hv:CV (zs,(ps,(cs,ss))))(i t:q):∃x e,jbP (zs,(ps,(cs,ss))) i t=D (x,e)/\jiZ (zs,(ps,(cs,ss))) i t=D (x,e):=by
 obtain⟨x,e,e1,e2,e3⟩:=N0 hv i t;simp only[jbP,jiZ,e1,e2,ja];by_cases he:e=0
 case neg=>rw[show (e != 0)=K by simpa using he];exact⟨0,e,rfl,rfl⟩
 subst he;obtain⟨hc,AB,ay,x0,x1⟩:=e3 rfl;have w1:=jyI hc.g hc ay x0 x1;have w2:=jyc hc.g hc ay x0 x1;rw[show ((i.toNat:H):q)=i by omega]at w1 w2;simp only[ji,jd,w1,w2,ja];exact⟨_,_,rfl,rfl⟩
end
end Go.Proofs.Pw
