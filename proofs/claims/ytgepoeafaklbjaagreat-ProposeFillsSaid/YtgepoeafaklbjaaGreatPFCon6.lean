/- Contracts: each given function is its plain function, printed by a program. -/
import Derived.Test.YtgepoeafaklbjaaGreatPFCon5
open Bool renaming false->e,true->m
open Nat renaming le_of_ble_eq_true->i
open And renaming intro->j
open _root_ renaming trivial->l
noncomputable section
open Go Go.Lft
set_option linter.unusedVariables false
set_option maxRecDepth 100000
namespace Go.Proofs.Pk
open Tryz
def j8y:CKt:=
 cQ tb {} [lD 0 [sI,sO 1,sD ty25,sI,sI,.b (.lst 42 ty7 e)] ⟨[1,5,8,9,10],[],[⟨1,42,ty7,[.slot 5],e⟩]⟩ [xD (.exit 0) [sO 2,.b (.lst 42 ty7 e)] ⟨[5],[],[⟨2,42,ty7,[.slot 5],e⟩]⟩] (Pw.unc5 (Pw.j3e))] 67 [.v ty25,.v iT] [.own 42 ty12] [] (Pw.unc2 Pw.j5j) func67 [j8W]
def jie:CKt:=
 cQ tb {} [lD 0 [sI,sD ty12,sI,sI] ⟨[3,6,7,8],[],[]⟩ [xD (.exit 0) [sI] ⟨[3],[],[]⟩] (Pw.unc4 (Pw.jbV))] 65 [.v ty12] [.v iT] [] (λh=>Pw.jkW h) func65
theorem jyd:BwK Tryz.prog 113 (m,(.arr 114 (.arr 3 .bool))):=
 jvC Tryz.keys114 Tryz.sorted113 Tryz.sort172 (by kernel_rfl) (by kernel_rfl) (by kernel_rfl) (by kernel_rfl)
def jif:CKt:=
 cQ tb {bw:=[(113,m,(.arr 114 (.arr 3 .bool)))],ks:=[2]} [lD 0 [sO 0,sO 1,sO 2,sI,sI,.b (.lst 4294967435 ty34 e),.b (.lst 95 ty20 e),.b (.lst 3 iT e)] ⟨[0,3,8,9,10],[0],[⟨1,95,ty20,[.slot 3],e⟩,⟨2,3,iT,[.slot 8],e⟩]⟩ [xD (.exit 0) [sO 3,.b (.lst 4294967435 ty34 e),.b (.lst 95 ty20 e)] ⟨[3],[0],[⟨3,95,ty20,[.slot 3],e⟩]⟩] (Pw.unc5 (Pw.j4G))] 68 [.rl 4294967435 ty38] [.own 95 ty25] [.rl ty38] (λh=>Pw.jee h) func68 (hbw:=(j jyd l))
def jpp:FnD where
 N:=132
 np:=6
 cs:=[jlc.1,jap.1,jbv.1,jag.1,jju.1,j8y.1,jie.1,jif.1]
 ds:=[⟨1,[sI,sI,sD ty26,sO 1001000,sB 1024 0,sO 1001001,sO 1001000,sI,sI,.b (.cell [.d iT,.d ty12] e),.b (.lst 128 ty20 e),.b (.lst 4294967435 ty34 e)],[iT,iT,ty26,iT,iT,iT,ty12,ty25,ty38],[⟨.exit 1,[sI,sI,sD ty26,sO 1501200,sB 1024 0,sO 1501201,.b (.cell [.d iT,.d ty12] e),.b (.lst 128 ty20 e),.b (.lst 4294967435 ty34 e)],[iT,iT,ty26,iT,ty12,ty25,ty38]⟩],Pw.unc9 (Pw.j52)⟩,⟨3,[sI,sI,sO 1003000,sB 1024 0,sO 1003001,sD ty26,sI,sI,.b (.cell [.d iT,.d ty12] e),.b (.lst 128 ty20 e),.b (.lst 4294967435 ty34 e)],[iT,iT,ty26,iT,iT,iT,ty12,ty25,ty38],[⟨.exit 3,[sO 1503400,.b (.lst 4294967435 ty34 e)],[ty38]⟩],Pw.unc9 (Pw.j71)⟩,⟨5,[],[],[],λ_=>none⟩]
 modes:=[(68,[m])]
 keep:=[(1,⟨[2,3,5,14,16,18,63,64,65],[1024],[⟨1001000,128,ty20,[.slot 14,.slot 63],e⟩,⟨1001001,4294967435,ty34,[.slot 18],e⟩]⟩),(3,⟨[2,3,14,16,18,92,93,94],[1024],[⟨1003000,128,ty20,[.slot 14],e⟩,⟨1003001,4294967435,ty34,[.slot 18],e⟩]⟩),(5,⟨[2,3,14,16,18,23,24,92,93,94],[1024,1472],[⟨1005000,128,ty20,[.slot 14],e⟩,⟨1005002,42,ty7,[.slot 24],e⟩,⟨1005001,4294967435,ty34,[.slot 18],e⟩]⟩)]
 keepX:=[(1,.exit 1,⟨[2,3,5,14,16,18],[1024],[⟨1501200,128,ty20,[.slot 14],e⟩,⟨1501201,4294967435,ty34,[.slot 18],e⟩]⟩),(3,.exit 3,⟨[18],[],[⟨1503400,4294967435,ty34,[.slot 18],e⟩]⟩)]
 ro:=[m,e]
 dw:=[(24,[[],[],[],[],[],[],[],[7616],[],[7744],[],[],[],[],[1664]])]
 ms:=[⟨5,18,1005001,[sI,sI,sO 1005000,sB 1024 0,sO 1005001,sB 1472 0,sO 1005002,sD ty26,sI,sI,.b (.cell [.d iT,.d ty12] e),.b (.cell [.d iT,.d iT,.d iT] e),.b (.lst 128 ty20 e),.b (.lst 42 ty7 e),.b (.lst 4294967435 ty34 e)],[iT,iT,ty26,iT,iT,iT,ty12,iT,iT,iT,ty25,ty12,ty38],4294967435,ty20,λh q z R k=>Pw.jhI h.1 h.2.1 h.2.2.1 h.2.2.2.1 h.2.2.2.2.1 h.2.2.2.2.2.1 h.2.2.2.2.2.2.1 h.2.2.2.2.2.2.2.1 h.2.2.2.2.2.2.2.2.1 h.2.2.2.2.2.2.2.2.2.1 h.2.2.2.2.2.2.2.2.2.2.1 h.2.2.2.2.2.2.2.2.2.2.2.1 h.2.2.2.2.2.2.2.2.2.2.2.2 q z k⟩]
def jjv:Con:=⟨33,[.v ty83,.v iT,.v iT,.v iT,.v iT,.v ty26],[ty83,iT,iT,iT,iT,ty26],⟨[.own 95 ty25,.v iT],[]⟩,[ty25,iT],Pw.unc6 Pw.jdJ⟩
def jpq:CKt:=
 ⟨jjv,cOf jh5 j9D jpp jjv func33 (j jlc.2 (j jap.2 (j jbv.2 (j jag.2 (j jju.2 (j j8y.2 (j jie.2 (j jif.2 l)))))))) (j (λh=>by kernel_rfl) (j (λh=>by kernel_rfl) (j (λh=>by kernel_rfl) l))) (hms:=(j ⟨by kernel_rfl,λh zs=>by kernel_rfl,λh zs=>by kernel_rfl,λh zs q z R k=>by kernel_rfl⟩ l))⟩
def j9J:FnD where
 N:=8
 np:=1
 ro:=[m]
def j9K:CKt:=
 ⟨⟨46,[.v ty65],[ty65],⟨[.own 80 ty65],[]⟩,[ty65],λh=>Pw.j29 h⟩,j83 jh5 j9D j9J 46 ty64 80 Tryz.f46 (Tryz.f46.body.getD .skip) func46 (by kernel_rfl) (by kernel_rfl) (i (by kernel_rfl)) (by kernel_rfl) l (by kernel_rfl)
   (λh R k=>by kernel_rfl)⟩
def j8a:FnD where
 N:=8
 np:=1
 ro:=[m]
def j8b:CKt:=
 ⟨⟨47,[.v ty55],[ty55],⟨[.own 83 ty55],[]⟩,[ty55],λh=>Pw.j1C h⟩,j83 jh5 j9D j8a 47 ty52 83 Tryz.f47 (Tryz.f47.body.getD .skip) func47 (by kernel_rfl) (by kernel_rfl) (i (by kernel_rfl)) (by kernel_rfl) l (by kernel_rfl)
   (λh R k=>by kernel_rfl)⟩
def j78:FnD where
 N:=8
 np:=1
 ro:=[m]
def j79:CKt:=
 ⟨⟨48,[.v ty28],[ty28],⟨[.own 111 ty28],[]⟩,[ty28],λh=>Pw.j1a h⟩,j83 jh5 j9D j78 48 ty23 111 Tryz.f48 (Tryz.f48.body.getD .skip) func48 (by kernel_rfl) (by kernel_rfl) (i (by kernel_rfl)) (by kernel_rfl) l (by kernel_rfl)
   (λh R k=>by kernel_rfl)⟩
def j7a:FnD where
 N:=8
 np:=1
 ro:=[m]
def j7b:CKt:=
 ⟨⟨49,[.v ty77],[ty77],⟨[.own 61 ty77],[]⟩,[ty77],λh=>Pw.j1b h⟩,j83 jh5 j9D j7a 49 ty76 61 Tryz.f49 (Tryz.f49.body.getD .skip) func49 (by kernel_rfl) (by kernel_rfl) (i (by kernel_rfl)) (by kernel_rfl) l (by kernel_rfl)
   (λh R k=>by kernel_rfl)⟩
def j7c:FnD where
 N:=8
 np:=1
 ro:=[m]
def j7d:CKt:=
 ⟨⟨50,[.v ty57],[ty57],⟨[.own 118 ty57],[]⟩,[ty57],λh=>Pw.j1c h⟩,j83 jh5 j9D j7c 50 ty54 118 Tryz.f50 (Tryz.f50.body.getD .skip) func50 (by kernel_rfl) (by kernel_rfl) (i (by kernel_rfl)) (by kernel_rfl) l (by kernel_rfl)
   (λh R k=>by kernel_rfl)⟩
def j8c:FnD where
 N:=8
 np:=1
 ro:=[m]
def j8d:CKt:=
 ⟨⟨51,[.v ty12],[ty12],⟨[.own 81 ty12],[]⟩,[ty12],λh=>Pw.j11 h⟩,j83 jh5 j9D j8c 51 ty7 81 Tryz.f51 (Tryz.f51.body.getD .skip) func51 (by kernel_rfl) (by kernel_rfl) (i (by kernel_rfl)) (by kernel_rfl) l (by kernel_rfl)
   (λh R k=>by kernel_rfl)⟩
def j8Y:FnD where
 N:=8
 np:=1
 ro:=[m]
def j8Z:CKt:=
 ⟨⟨53,[.v ty72],[ty72],⟨[.own 66 ty72],[]⟩,[ty72],λh=>Pw.j1e h⟩,j83 jh5 j9D j8Y 53 ty71 66 Tryz.f53 (Tryz.f53.body.getD .skip) func53 (by kernel_rfl) (by kernel_rfl) (i (by kernel_rfl)) (by kernel_rfl) l (by kernel_rfl)
   (λh R k=>by kernel_rfl)⟩
def j9L:FnD where
 N:=8
 np:=1
 ro:=[m]
def j9M:CKt:=
 ⟨⟨54,[.v ty43],[ty43],⟨[.own 70 ty43],[]⟩,[ty43],λh=>Pw.j1t h⟩,j83 jh5 j9D j9L 54 ty41 70 Tryz.f54 (Tryz.f54.body.getD .skip) func54 (by kernel_rfl) (by kernel_rfl) (i (by kernel_rfl)) (by kernel_rfl) l (by kernel_rfl)
   (λh R k=>by kernel_rfl)⟩
def jlk:CKt:=
 cQ tb {dw:=[(1,dz [(2,[704]),(2,[896]),(2,[1088]),(2,[1280]),(1,[64]),(1,[64]),(1,[64]),(1,[64])]),(5,dz [(9,[2560]),(2,[2560,1])]),(10,dz [(9,[3776]),(2,[3776,2])]),(15,dz [(9,[4992]),(2,[4992,3])]),(21,dz [(6,[6272,6288,1508903]),(4,[6592,6608]),(2,[1281]),(2,[1281])]),(25,dz [(18,[8576]),(8,[9152]),(2,[8576,4]),(2,[9152,4])])],un:=[6],unr:=2,pre:=[(17,[.ex 64 3 1281 1])],rw:=m,rn:=[1508900,1508901,1508902,1281,1508903,1508904]} [lD 0 [sB 64 0,sB 128 0,sI,sI,.b (.cell [.ol 1,.ol 5,.ol 6,.ol 7] e),.b (.cell [.nil,.nil,.nil,.nil] e),.b (.lst 80 ty64 e),.b (.lst 83 ty52 e),.b (.lst 111 ty23 e),.b (.lst 61 ty76 e)] ⟨[1,2,27,28],[64,128],[⟨1,80,ty64,[.cell 64 0],e⟩,⟨5,83,ty52,[.cell 64 1],e⟩,⟨6,111,ty23,[.cell 64 2],e⟩,⟨7,61,ty76,[.cell 64 3],e⟩]⟩ [xD (.exit 0) [sB 64 0,sB 128 0,.b (.cell [.ol 8,.ol 9,.ol 10,.ol 11] e),.b (.cell [.nil,.nil,.nil,.nil] e),.b (.lst 80 ty64 e),.b (.lst 83 ty52 e),.b (.lst 111 ty23 e),.b (.lst 61 ty76 e)] ⟨[1,2],[64,128],[⟨8,80,ty64,[.cell 64 0],e⟩,⟨9,83,ty52,[.cell 64 1],e⟩,⟨10,111,ty23,[.cell 64 2],e⟩,⟨11,61,ty76,[.cell 64 3],e⟩]⟩] (Pw.unc6 (Pw.j5J)),lD 2 [sB 64 0,sB 128 0,sI,sI,.b (.cell [.ol 12,.ol 2,.ol 13,.ol 14] e),.b (.cell [.nil,.nil,.nil,.nil] e),.b (.lst 80 ty64 e),.b (.lst 83 ty52 e),.b (.lst 111 ty23 e),.b (.lst 61 ty76 e)] ⟨[1,2,46,47],[64,128],[⟨12,80,ty64,[.cell 64 0],e⟩,⟨2,83,ty52,[.cell 64 1],e⟩,⟨13,111,ty23,[.cell 64 2],e⟩,⟨14,61,ty76,[.cell 64 3],e⟩]⟩ [xD (.exit 2) [sB 64 0,sB 128 0,.b (.cell [.ol 15,.ol 65,.ol 66,.ol 67] e),.b (.cell [.nil,.nil,.nil,.nil] e),.b (.lst 80 ty64 e),.b (.lst 83 ty52 e),.b (.lst 111 ty23 e),.b (.lst 61 ty76 e)] ⟨[1,2],[64,128],[⟨15,80,ty64,[.cell 64 0],e⟩,⟨65,83,ty52,[.cell 64 1],e⟩,⟨66,111,ty23,[.cell 64 2],e⟩,⟨67,61,ty76,[.cell 64 3],e⟩]⟩] (Pw.unc6 (Pw.j5K)),lD 4 [sB 64 0,sB 128 0,sI,sI,.b (.cell [.ol 68,.ol 69,.ol 3,.ol 70] e),.b (.cell [.nil,.nil,.nil,.nil] e),.b (.lst 80 ty64 e),.b (.lst 83 ty52 e),.b (.lst 111 ty23 e),.b (.lst 61 ty76 e)] ⟨[1,2,65,66],[64,128],[⟨68,80,ty64,[.cell 64 0],e⟩,⟨69,83,ty52,[.cell 64 1],e⟩,⟨3,111,ty23,[.cell 64 2],e⟩,⟨70,61,ty76,[.cell 64 3],e⟩]⟩ [xD (.exit 4) [sB 64 0,sB 128 0,.b (.cell [.ol 71,.ol 72,.ol 73,.ol 74] e),.b (.cell [.nil,.nil,.nil,.nil] e),.b (.lst 80 ty64 e),.b (.lst 83 ty52 e),.b (.lst 111 ty23 e),.b (.lst 61 ty76 e)] ⟨[1,2],[64,128],[⟨71,80,ty64,[.cell 64 0],e⟩,⟨72,83,ty52,[.cell 64 1],e⟩,⟨73,111,ty23,[.cell 64 2],e⟩,⟨74,61,ty76,[.cell 64 3],e⟩]⟩] (Pw.unc6 (Pw.j5L)),lD 6 [] ⟨[],[],[]⟩ [] (λ_=>none),lD 8 [sB 64 0,sB 128 0,.s (.one (.ep 1281 0 0)),sI,sI,sI,sI,.b (.cell [.ol 75,.ol 76,.ol 77,.ol 1281] e),.b (.cell [.nil,.nil,.nil,.nil] e),.b (.row 61 ty76 1 [.d .str,.ol 4,.ol 78]),.b (.lst 80 ty64 e),.b (.lst 83 ty52 e),.b (.lst 111 ty23 e),.b (.lst 66 ty71 e),.b (.lst 70 ty41 e)] ⟨[1,2,7,84,85,112,113],[64,128,1281],[⟨75,80,ty64,[.cell 64 0],e⟩,⟨76,83,ty52,[.cell 64 1],e⟩,⟨77,111,ty23,[.cell 64 2],e⟩,⟨4,66,ty71,[.cell 1281 1],e⟩,⟨78,70,ty41,[.cell 1281 2],e⟩]⟩ [xD (.exit 8) [sB 64 0,sB 128 0,sI,sI,.b (.cell [.ol 1508900,.ol 1508901,.ol 1508902,.ol 1281] e),.b (.cell [.nil,.nil,.nil,.nil] e),.b (.row 61 ty76 1 [.d .str,.ol 1508903,.ol 1508904]),.b (.lst 80 ty64 e),.b (.lst 83 ty52 e),.b (.lst 111 ty23 e),.b (.lst 66 ty71 e),.b (.lst 70 ty41 e)] ⟨[1,2,84,85],[64,128,1281],[⟨1508900,80,ty64,[.cell 64 0],e⟩,⟨1508901,83,ty52,[.cell 64 1],e⟩,⟨1508902,111,ty23,[.cell 64 2],e⟩,⟨1508903,66,ty71,[.cell 1281 1],e⟩,⟨1508904,70,ty41,[.cell 1281 2],e⟩]⟩] (Pw.u8 Pw.unc2 (Pw.j5M))] 26 [.v ty83] [.raw [1508900,1508901,1508902,1281,1508903,1508904] [.s (.st [.ol 1508900,.ol 1508901,.ol 1508902,.ol 1281]),.b (.lst 80 ty64 e),.b (.lst 83 ty52 e),.b (.lst 111 ty23 e),.b (.row 61 ty76 1 [.d .str,.ol 1508903,.ol 1508904]),.b (.lst 66 ty71 e),.b (.lst 70 ty41 e)]] [] (λh=>Pw.jfl h) func26 [ja1,j9K,j8b,j79,j7b,j7d,j8d,j8Z,j9M]
def jqM:CKt:=
 cQ tb {rw:=m,rn:=[1508900,1508901,1508902,1281,1508903,1508904]} [] 90 [.v ty83,.v iT] [.raw [1508900,1508901,1508902,1281,1508903,1508904] [.s (.st [.ol 1508900,.ol 1508901,.ol 1508902,.ol 1281]),sI,.b (.lst 80 ty64 e),.b (.lst 83 ty52 e),.b (.lst 111 ty23 e),.b (.row 61 ty76 1 [.d .str,.ol 1508903,.ol 1508904]),.b (.lst 66 ty71 e),.b (.lst 70 ty41 e)]] [] (Pw.unc2 Pw.jhK) func90 [j9E,jeu,jlk]
def jpr:CKt:=
 cQ tb {dw:=[(5,dz [(6,[1984]),(0,[2048,1508904]),(2,[1281])])],pre:=[(6,[.rl 1281])]} [] 58 [.v ty83,.v iT,.v ty41] [.v ty83,.v iT] [] (Pw.unc3 Pw.jbC) func58 [j9E,jqM]
def jfO:CKt:=
 cQ tb {} [] 31 [.v ty83,.v iT,.v iT,.v iT,.v iT] [.v ty83,.v iT] [] (Pw.unc5 Pw.j4m) func31 [jpr]
def jiX:CKt:=
 cQ tb {} [] 72 [.v ty41,.ip [iT],.ip [iT],.ip [iT]] [.v .bool] [] (Pw.unc4 Pw.jbW) func72
def j8e:CKt:=
 cQ tb {} [lD 0 [sD ty43,sC 72 [.p [iT],.p [iT],.p [iT]],sI,sI] ⟨[0,1,7,8],[],[]⟩ [xD .ret [sI] ⟨[4],[],[]⟩,xD (.exit 0) [] ⟨[],[],[]⟩] (Pw.unc6 (Pw.j0A))] 125 [.v ty43,.clo 72 [.p [iT],.p [iT],.p [iT]]] [.v iT] [] (Pw.unc4 Pw.j2B) func125 [jiX]
def j7B:CKt:=
 cQ tb {} [] 71 [.v ty43,.clo 72 [.p [iT],.p [iT],.p [iT]]] [.v .bool] [] (Pw.unc4 Pw.j24) func71 [j8e]
def jm1:CKt:=
 cQ tb {} [] 38 [.v ty76,.v iT,.v iT,.v iT] [.v .bool] [] (Pw.unc4 Pw.jaC) func38 [j7B]
end Go.Proofs.Pk
