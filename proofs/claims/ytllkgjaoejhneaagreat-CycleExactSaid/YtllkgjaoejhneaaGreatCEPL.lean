/- CycleExact. -/
import Derived.Test.YtllkgjaoejhneaaGreatCEPK
import Derived.Test.YtllkgjaoejhneaaGreatCEPJ
import Derived.Test.YtllkgjaoejhneaaGreatCEPA
import Derived.Test.YtllkgjaoejhneaaGreatCELD
open _root_ renaming Int->d,List->j,ByteArray->o,Nat->A
open Option renaming some->r,bind_none->H
open Int renaming ofNat->u
open ByteArray renaming empty->B
open List renaming length->E,getD_cons_zero->F,getD->G
open Go Go.Lft
set_option linter.unusedVariables false
namespace Go.Proofs.Pw
theorem VV{nm Dx:o}{ls:j bh}{es:j cO}(h:SV (nm,(ls,es))){X Y Z:bh}(hX:X.2.2.2.2.2.2.1=(ls.getD 0 (B,((0:d),(((0:d),(0:d)),((0:d),((0:d),(([]:(j d)),(([]:ae),((0:d),(0:d)))))))))).2.2.2.2.2.2.1)(hY:Y.2.2.2.2.2.2.1=((ls.set 0 X).getD 0 (B,((0:d),(((0:d),(0:d)),((0:d),((0:d),(([]:(j d)),(([]:ae),((0:d),(0:d)))))))))).2.2.2.2.2.2.1)
  (hZ:Z.2.2.2.2.2.2.1=(((ls.set 0 X).set 0 Y).getD 1 (B,((0:d),(((0:d),(0:d)),((0:d),((0:d),(([]:(j d)),(([]:ae),((0:d),(0:d)))))))))).2.2.2.2.2.2.1):SV (Dx,(((ls.set 0 X).set 0 Y).set 1 Z,es)):=by
 have h1:lI (ls.set 0 X):=GY h.ly 0 (by rw[hX];exact yZ h.ly 0);have h2:lI ((ls.set 0 X).set 0 Y):=GY h1 0 (by rw[hY];exact yZ h1 0);have h3:lI (((ls.set 0 X).set 0 Y).set 1 Z):=GY h2 1 (by rw[hZ];exact yZ h2 1);exact⟨by simp only[qo];exact h.ll,h3,h.el,h.ed⟩
theorem jvg{zs:j bz}{ps:j cZ}{cs:j aT}(hs:og zs ps cs){nm:o}{ls:j bh}{es:j cO}(hl:ls.length<=3)(fq:es.length<=3):j5Y (zs,(ps,(cs,[(nm,(ls,es))])))=r (zs,ps,cs,nm,ls,es):=by
 have sr:=hs.z1;have pZ:=hs.p1;have eg:=hs.c1;simp only[j5Y,ku,ke,qj,List.length_singleton,z7];rw[ai (show zs.length<=aR by unfold aR;omega),ai (show ps.length<=aR by unfold aR;omega),ai (show cs.length<=aR by unfold aR;omega),ai (show (0:d)<((1:A):d) by omega),cG (show (0:d)<=0 by omega) (show (0:d)<((1:A):d) by omega)];simp only[jc,F];rw[ai (show ls.length<=aR by unfold aR;omega),ai (show es.length<=aR by unfold aR;omega),al (show¬(1:d)<((1:A):d) by omega)];rfl
theorem jvh{zs:j bz}{ps:j cZ}{cs:j aT}(hs:og zs ps cs){nm nm1:o}{ls jN:j bh}{es jO:j cO}(hl:ls.length<=3)(fq:es.length<=3)(kD:jN.length<=3)(nK:jO.length<=3) :
  j8f (zs,(ps,(cs,[(nm,(ls,es)),(nm1,(jN,jO))])))=r (zs,ps,cs,nm,nm1,ls,es,jN,jO):=by
 have sr:=hs.z1;have pZ:=hs.p1;have eg:=hs.c1;simp only[j8f,ku,ke,qj,ju,z7];rw[ai (show zs.length<=aR by unfold aR;omega),ai (show ps.length<=aR by unfold aR;omega),ai (show cs.length<=aR by unfold aR;omega),ai (show (0:d)<((1+1:A):d) by omega),cG (show (0:d)<=0 by omega) (show (0:d)<((1+1:A):d) by omega)];simp only[jc,F,List.getD_cons_succ];rw[ai (show ls.length<=aR by unfold aR;omega),ai (show es.length<=aR by unfold aR;omega),ai (show (1:d)<((1+1:A):d) by omega),cG (show (0:d)<=1 by omega) (show (1:d)<((1+1:A):d) by omega),ai (show jN.length<=aR by unfold aR;omega),ai (show jO.length<=aR by unfold aR;omega),al (show¬(2:d)<((1+1:A):d) by omega)];rfl
theorem ju9{zs:j bz}{ps:j cZ}{cs:j aT}{s s1:cL}:j5Y (zs,(ps,(cs,[s,s1])))=none:=by
 have c2:∀(b:Bool),cond b (none:Option (j bz×j cZ×j aT×o×j bh×j cO)) none=none:=λb=>by cases b<;>rfl
 simp only[j5Y,ju,ku,z7];rw[ai (show (1:d)<((0+1+1:A):d) by omega)];simp only[jc,c2]
theorem sE{a b c:eA}(ha:CV a)(hb:CV b)(hc:CV c):∀k∈[a,b,c],CV k:=λk hk=>by
 simp only[jm,vc,or_false]at hk;rcases hk with rfl|rfl|rfl
 .exact ha
 .exact hb
 .exact hc
theorem VW{s2:d}{s3:d}{s19:d}{s98:bU}{s99:d}{s105:(j d)}{s106:d}{s135:(j d)}{b17:ag}{b17_1:ah}{b17_2:ak}{b17_3:an}{b39:(j d)}{b39_1:d}(hc:CV (b17,(b17_1,(b17_2,b17_3)))):∀(n i:A),i+n=3->FQ s2 s3 s19 s98 s99 s105 s106 s135 (i:d) b17 b17_1 b17_2 b17_3 b39 b39_1=r (.inr (s2,s3,s98,s99,s105,s106,b17,b17_1,b17_2,b17_3,b39,b39_1))
 |0,i,hi=>by
  rw[SI];simp only[j1Q];rw[al aa,jd,bd]
 |n+1,i,hi=>by
  have ih:=VW (s2:=s2) (s3:=s3) (s19:=s19) (s98:=s98) (s99:=s99) (s105:=s105) (s106:=s106) (s135:=s135) (b17:=b17) (b17_1:=b17_1) (b17_2:=b17_2) (b17_3:=b17_3) (b39:=b39) (b39_1:=b39_1) hc n (i+1) aa;obtain⟨x,e,v1,v2,_⟩:=N0 hc s19 (s135.getD i 0);obtain⟨y,f,w1,w2⟩:=VU hc s19 (s135.getD i 0);rw[SI];simp only[j1Q];rw[ai aa,bR,au (x:=(i:d)+1)];simp only[jc,je,v1,v2,w1,w2,ja,ji,jd,aZ];exact ih
theorem VX{s2:d}{s3:d}{s98:bU}{s99:d}{s105:(j d)}{b17:ag}{b17_1:ah}{b17_2:ak}{b17_3:an}{b39:(j d)}(hc:CV (b17,(b17_1,(b17_2,b17_3)))):∀(n i:A)(a:d),i+n=2->cD b39 a->∃a',FT s2 s3 s98 s99 s105 (i:d) b17 b17_1 b17_2 b17_3 b39 a=r (.inr (s2,s3,s98,s99,b39,a'))/\cD b39 a'
 |0,i,a,hi,hd=>by
  rw[SJ];simp only[j1R];rw[al aa,jd,bd];exact⟨a,rfl,hd⟩
 |n+1,i,a,hi,hd=>by
  obtain⟨t,a1,e1,_,_,d1⟩:=M4 hd;obtain⟨a',ih,fL⟩:=VX (s2:=s2) (s3:=s3) (s98:=s98) (s99:=s99) (s105:=s105) (b17:=b17) (b17_1:=b17_1) (b17_2:=b17_2) (b17_3:=b17_3) (b39:=b39) hc n (i+1) a1 aa d1;refine⟨a',?_,fL⟩;obtain⟨p,e,p1,p2,_⟩:=NZ hc (s105.getD i 0);obtain⟨m,em⟩:∃m,jg1 s2 77760000=r m:=⟨_,rfl⟩;rw[SJ];simp only[j1R];rw[ai aa,bR];simp only[jc,je,p1,p2,e1,em,ja,ji,jd];have h4:=VW (s2:=s2) (s3:=s3) (s19:=s105.getD i 0) (s98:=s98) (s99:=s99) (s105:=s105) (s106:=(i:d)) (s135:=[s2,t,w64 (1767225600+m)]) (b17:=b17) (b17_1:=b17_1) (b17_2:=b17_2) (b17_3:=b17_3) (b39:=b39) (b39_1:=a1) hc 3 0 aa;rw[show ((0:A):d)=0 from rfl]at h4;simp only[h4,ja,sumC];rw[au (x:=(i:d)+1),aZ];exact ih
theorem N1{s2:d}{s3:d}{s98:bU}{b39:(j d)}(hc:∀k∈s98,CV k)(hl:s98.length=3):∀(n i:A)(a:d),i+n=3->cD b39 a->CB s2 s3 s98 (i:d) b39 a=r (.inr ())
 |0,i,a,hi,hd=>by
  rw[SK];simp only[j1S];rw[al aa,jd,bd]
 |n+1,i,a,hi,hd=>by
  have hm:s98.getD i (([]:ag),(([]:ah),(([]:ak),([]:an))))∈s98:=by rw[show s98.getD i (([]:ag),(([]:ah),(([]:ak),([]:an))))=s98[i]'aa by simp[G,show i<s98.length by omega]];exact jq _
  have hk:=hc _ hm;generalize N2:s98.getD i (([]:ag),(([]:ah),(([]:ak),([]:an))))=k at hk;obtain⟨q,a2,e2,_,_,d2⟩:=di (n:=3) hd aa aa;obtain⟨a3,e3,d3⟩:=VX (s2:=s2) (s3:=s3) (s98:=s98) (s99:=(i:d)) (s105:=[q,s3]) (b17:=k.1) (b17_1:=k.2.1) (b17_2:=k.2.2.1) (b17_3:=k.2.2.2) (b39:=b39) hk 2 0 a2 aa d2;have ih:=N1 (s2:=s2) (s3:=s3) (s98:=s98) (b39:=b39) hc hl n (i+1) a3 aa d3;rw[show ((0:A):d)=0 from rfl]at e3;rw[SK];simp only[j1S];rw[ai aa,bR];simp only[jc,je,N2,e2,ja,e3,sumC];rw[au (x:=(i:d)+1),aZ];exact ih
theorem jyM{t:j d}{a:d}(ay:(t.length:d)<=500){raw:bh}(gP:raw.2.2.2.2.2.1.length<=9223372036854775807){x sc:d}{zs:j bz}{ps:j cZ}{cs:j aT}{nm:o}{ls:j bh}{es:j cO}(hs:og zs ps cs)(h0:SV (nm,(ls,es)))(fq:es.length<=3)
  (e1:j3a t 0 2=r ((zs,(ps,(cs,[(nm,(ls,es))]))),t,a))(hd:cD t a):j27 t raw x sc=r true:=by
 obtain⟨p,e,r1,r2⟩:=G1 raw gP;have pW:∀z∈zs,ZW z:=λz hz=>(hs.ok z hz).w;have hc:CV (zs,(ps,(cs,[(nm,(ls,es))]))):=⟨pW,uB h0 zA,af⟩;have cp:=jvg hs h0.ll fq (nm:=nm);simp only[j27,j8b,jbQ,ja,show u (E t)=(t.length:d) from rfl];rw[ai ay];simp only[jl,jd,e1,ja];rw[show j2y (raw.1,(raw.2.1,((raw.2.2.1.1,raw.2.2.1.2),(raw.2.2.2.1,(raw.2.2.2.2.1,(raw.2.2.2.2.2.1,(raw.2.2.2.2.2.2.1,(raw.2.2.2.2.2.2.2.1,raw.2.2.2.2.2.2.2.2))))))))=_ from r1,show j5y (raw.1,(raw.2.1,((raw.2.2.1.1,raw.2.2.1.2),(raw.2.2.2.1,(raw.2.2.2.2.1,(raw.2.2.2.2.2.1,(raw.2.2.2.2.2.2.1,(raw.2.2.2.2.2.2.2.1,raw.2.2.2.2.2.2.2.2))))))))=_ from r2];simp only[ja,ji,jd,cp,show u ls.length=(ls.length:d) from rfl];by_cases h2:(ls.length:d)>1
 .rw[ai h2];obtain⟨q,a1,e2,_,d1⟩:=mq hd (xs:=[(399:d),(400:d),(5:d)]) af af;have D:=d1;obtain⟨k,a2,e3,hv,d2⟩:=Vy D hs h0 fq;simp only[jc,qo];rw[cG (show (0:d)<=0 by omega) (show (0:d)<(ls.length:d) by omega),cG (show (0:d)<=1 by omega) (show (1:d)<(ls.length:d) by omega)];simp only[jc,e2,e3,ja];have e4:=λl hl hc=>N1 (s2:=x) (s3:=sc) (s98:=l) (b39:=t) hc hl 3 0 a2 aa d2;simp only[show ((0:A):d)=0 from rfl]at e4;rw[e4 _ ?hl ?hc]
  case hl=>rfl
  case hc=>refine sE hc hv ⟨pW,uB (VV h0 ?_ ?_ ?_) zA,af⟩<;>rfl
  simp only[ja,sumC,Dc]
 .rw[al h2];have D:=hd;obtain⟨k,a2,e3,hv,d2⟩:=Vy D hs h0 fq;simp only[jd,e3,ja];have e4:=λl hl hc=>N1 (s2:=x) (s3:=sc) (s98:=l) (b39:=t) hc hl 3 0 a2 aa d2;simp only[show ((0:A):d)=0 from rfl]at e4;rw[e4 _ rfl (sE hc hv hc)];simp only[ja,sumC,Dc]
theorem VY{s2:d}{s3:d}{s19:d}{s98:bU}{s99:d}{s105:(j d)}{s106:d}{s135:(j d)}{b17:ag}{b17_1:ah}{b17_2:ak}{b17_3:an}{b39:(j d)}{b39_1:d}(hc:CV (b17,(b17_1,(b17_2,b17_3)))):∀(n i:A),i+n=3->FU s2 s3 s19 s98 s99 s105 s106 s135 (i:d) b17 b17_1 b17_2 b17_3 b39 b39_1=r (.inr (s2,s3,s98,s99,s105,s106,b17,b17_1,b17_2,b17_3,b39,b39_1))
 |0,i,hi=>by
  rw[SM];simp only[j1T];rw[al aa,jd,bd]
 |n+1,i,hi=>by
  have ih:=VY (s2:=s2) (s3:=s3) (s19:=s19) (s98:=s98) (s99:=s99) (s105:=s105) (s106:=s106) (s135:=s135) (b17:=b17) (b17_1:=b17_1) (b17_2:=b17_2) (b17_3:=b17_3) (b39:=b39) (b39_1:=b39_1) hc n (i+1) aa;obtain⟨x,e,v1,v2,_⟩:=N0 hc s19 (s135.getD i 0);obtain⟨y,f,w1,w2⟩:=VU hc s19 (s135.getD i 0);rw[SM];simp only[j1T];rw[ai aa,bR,au (x:=(i:d)+1)];simp only[jc,je,v1,v2,w1,w2,ja,ji,jd,aZ];exact ih
theorem VZ{s2:d}{s3:d}{s98:bU}{s99:d}{s105:(j d)}{b17:ag}{b17_1:ah}{b17_2:ak}{b17_3:an}{b39:(j d)}(hc:CV (b17,(b17_1,(b17_2,b17_3)))):∀(n i:A)(a:d),i+n=2->cD b39 a->∃a',FV s2 s3 s98 s99 s105 (i:d) b17 b17_1 b17_2 b17_3 b39 a=r (.inr (s2,s3,s98,s99,b39,a'))/\cD b39 a'
 |0,i,a,hi,hd=>by
  rw[SN];simp only[j1U];rw[al aa,jd,bd];exact⟨a,rfl,hd⟩
 |n+1,i,a,hi,hd=>by
  obtain⟨t,a1,e1,_,_,d1⟩:=M4 hd;obtain⟨a',ih,fL⟩:=VZ (s2:=s2) (s3:=s3) (s98:=s98) (s99:=s99) (s105:=s105) (b17:=b17) (b17_1:=b17_1) (b17_2:=b17_2) (b17_3:=b17_3) (b39:=b39) hc n (i+1) a1 aa d1;refine⟨a',?_,fL⟩;obtain⟨p,e,p1,p2,_⟩:=NZ hc (s105.getD i 0);obtain⟨m,em⟩:∃m,jg1 s2 77760000=r m:=⟨_,rfl⟩;rw[SN];simp only[j1U];rw[ai aa,bR];simp only[jc,je,p1,p2,e1,em,ja,ji,jd];have h4:=VY (s2:=s2) (s3:=s3) (s19:=s105.getD i 0) (s98:=s98) (s99:=s99) (s105:=s105) (s106:=(i:d)) (s135:=[s2,t,w64 (1767225600+m)]) (b17:=b17) (b17_1:=b17_1) (b17_2:=b17_2) (b17_3:=b17_3) (b39:=b39) (b39_1:=a1) hc 3 0 aa;rw[show ((0:A):d)=0 from rfl]at h4;simp only[h4,ja,sumC];rw[au (x:=(i:d)+1),aZ];exact ih
theorem N3{s2:d}{s3:d}{s98:bU}{b39:(j d)}(hc:∀k∈s98,CV k)(hl:s98.length=3):∀(n i:A)(a:d),i+n=3->cD b39 a->CC s2 s3 s98 (i:d) b39 a=r (.inr ())
 |0,i,a,hi,hd=>by
  rw[SO];simp only[j1V];rw[al aa,jd,bd]
 |n+1,i,a,hi,hd=>by
  have hm:s98.getD i (([]:ag),(([]:ah),(([]:ak),([]:an))))∈s98:=by rw[show s98.getD i (([]:ag),(([]:ah),(([]:ak),([]:an))))=s98[i]'aa by simp[G,show i<s98.length by omega]];exact jq _
  have hk:=hc _ hm;generalize N2:s98.getD i (([]:ag),(([]:ah),(([]:ak),([]:an))))=k at hk;obtain⟨q,a2,e2,_,_,d2⟩:=di (n:=3) hd aa aa;obtain⟨a3,e3,d3⟩:=VZ (s2:=s2) (s3:=s3) (s98:=s98) (s99:=(i:d)) (s105:=[q,s3]) (b17:=k.1) (b17_1:=k.2.1) (b17_2:=k.2.2.1) (b17_3:=k.2.2.2) (b39:=b39) hk 2 0 a2 aa d2;have ih:=N3 (s2:=s2) (s3:=s3) (s98:=s98) (b39:=b39) hc hl n (i+1) a3 aa d3;rw[show ((0:A):d)=0 from rfl]at e3;rw[SO];simp only[j1V];rw[ai aa,bR];simp only[jc,je,N2,e2,ja,e3,sumC];rw[au (x:=(i:d)+1),aZ];exact ih
theorem jyN{t:j d}{a:d}(ay:(t.length:d)<=500){raw:bh}(gP:raw.2.2.2.2.2.1.length<=9223372036854775807){x sc:d}{zs:j bz}{ps:j cZ}{cs:j aT}{nm:o}{ls:j bh}{es:j cO}(hs:og zs ps cs)(h0:SV (nm,(ls,es)))(fq:es.length<=3){nm1:o}{jN:j bh}{jO:j cO}(h1:SV (nm1,(jN,jO)))(nK:jO.length<=3)
  (e1:j3a t 0 2=r ((zs,(ps,(cs,[(nm,(ls,es)),(nm1,(jN,jO))]))),t,a))(hd:cD t a):j60 t raw x sc=r true:=by
 obtain⟨p,e,r1,r2⟩:=G1 raw gP;have pW:∀z∈zs,ZW z:=λz hz=>(hs.ok z hz).w;have hc:CV (zs,(ps,(cs,[(nm,(ls,es)),(nm1,(jN,jO))]))):=⟨pW,uB h0 (uB h1 zA),af⟩;have cp:=jvh hs h0.ll fq h1.ll nK (nm:=nm) (nm1:=nm1);simp only[j60,j8b,jbQ,ja,show u (E t)=(t.length:d) from rfl];rw[ai ay];simp only[jl,jd,e1,ja];rw[show j2y (raw.1,(raw.2.1,((raw.2.2.1.1,raw.2.2.1.2),(raw.2.2.2.1,(raw.2.2.2.2.1,(raw.2.2.2.2.2.1,(raw.2.2.2.2.2.2.1,(raw.2.2.2.2.2.2.2.1,raw.2.2.2.2.2.2.2.2))))))))=_ from r1,show j5y (raw.1,(raw.2.1,((raw.2.2.1.1,raw.2.2.1.2),(raw.2.2.2.1,(raw.2.2.2.2.1,(raw.2.2.2.2.2.1,(raw.2.2.2.2.2.2.1,(raw.2.2.2.2.2.2.2.1,raw.2.2.2.2.2.2.2.2))))))))=_ from r2];simp only[ja,ji,jd,cp,show u ls.length=(ls.length:d) from rfl];by_cases h2:(ls.length:d)>1
 .rw[ai h2];obtain⟨q,a1,e2,_,d1⟩:=mq hd (xs:=[(399:d),(400:d),(5:d)]) af af;have D:=d1;obtain⟨k,a2,e3,hv,d2⟩:=Vz D hs h0 fq h1 nK;simp only[jc,qo];rw[cG (show (0:d)<=0 by omega) (show (0:d)<(ls.length:d) by omega),cG (show (0:d)<=1 by omega) (show (1:d)<(ls.length:d) by omega)];simp only[jc,e2,e3,ja];have e4:=λl hl hc=>N3 (s2:=x) (s3:=sc) (s98:=l) (b39:=t) hc hl 3 0 a2 aa d2;simp only[show ((0:A):d)=0 from rfl]at e4;rw[e4 _ ?hl ?hc]
  case hl=>rfl
  case hc=>refine sE hc hv ⟨pW,uB (VV h0 ?_ ?_ ?_) (uB h1 zA),af⟩<;>rfl
  simp only[ja,sumC,Dc]
 .rw[al h2];have D:=hd;obtain⟨k,a2,e3,hv,d2⟩:=Vz D hs h0 fq h1 nK;simp only[jd,e3,ja];have e4:=λl hl hc=>N3 (s2:=x) (s3:=sc) (s98:=l) (b39:=t) hc hl 3 0 a2 aa d2;simp only[show ((0:A):d)=0 from rfl]at e4;rw[e4 _ rfl (sE hc hv hc)];simp only[ja,sumC,Dc]
theorem jjB(t:j d)(_h:Wf (.list (.int .i64)) t)(raw:bh)(h1:Wf (.pair .str (.pair (.int .i64) (.pair (.pair (.int .i64) (.int .i64)) (.pair (.int .i64) (.pair (.int .i64) (.pair (.list (.int .i64)) (.pair (.list (.pair (.int .i64) (.int .i64))) (.pair (.int .i64) (.int .i64))))))))) raw)(x:d)(_h2:Wf (.int .i64) x)(sc:d)(_h3:Wf (.int .i64) sc):j5c t raw x sc=r true:=by
 by_cases ay:(t.length:d)<=500
 case neg=>
  have:j27 t raw x sc=r true:=by simp only[j27,j8b,ja,show u (E t)=(t.length:d) from rfl];rw[al ay];simp[Dc]
  simp only[j5c,this,wz]
 have gP:raw.2.2.2.2.2.1.length<=9223372036854775807:=by have:=h1.2.2.2.2.2.1.1;simp only[maxLen]at this;omega
 obtain⟨zs,ps,cs,ss,a1,e1,hs,g1,g2,g3,d1⟩:=jrw (L:=t) (a:=0) (n:=2) ⟨aa,aa,aa⟩ aa aa;match ss,g1,g2,g3,e1 with
 |[(nm,(ls,es))],_,_,g3,e1=>have:=jyM (x:=x) (sc:=sc) ay gP hs (NR g3 (nm,(ls,es)) af) (g3 (nm,(ls,es)) af).2.1 e1 d1;simp only[j5c,this,wz]
 |[(nm,(ls,es)),(nm1,(jN,jO))],_,_,g3,e1=>
  have h2:=jyN (x:=x) (sc:=sc) ay gP hs (NR g3 (nm,(ls,es)) af) (g3 (nm,(ls,es)) af).2.1 (NR g3 (nm1,(jN,jO)) af) (g3 (nm1,(jN,jO)) af).2.1 e1 d1;obtain⟨p,e,r1,r2⟩:=G1 raw gP;have hn:j27 t raw x sc=none:=by simp only[j27,j8b,jbQ,ja,show u (E t)=(t.length:d) from rfl];rw[ai ay];simp only[jl,jd,e1,ja];rw[show j2y (raw.1,(raw.2.1,((raw.2.2.1.1,raw.2.2.1.2),(raw.2.2.2.1,(raw.2.2.2.2.1,(raw.2.2.2.2.2.1,(raw.2.2.2.2.2.2.1,(raw.2.2.2.2.2.2.2.1,raw.2.2.2.2.2.2.2.2))))))))=_ from r1,show j5y (raw.1,(raw.2.1,((raw.2.2.1.1,raw.2.2.1.2),(raw.2.2.2.1,(raw.2.2.2.2.1,(raw.2.2.2.2.2.1,(raw.2.2.2.2.2.2.1,(raw.2.2.2.2.2.2.2.1,raw.2.2.2.2.2.2.2.2))))))))=_ from r2];simp only[ja,ji,jd,ju9,H]
  simp only[j5c,hn,h2,wz]
end Go.Proofs.Pw
