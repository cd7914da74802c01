/- awake is walked. -/
import Derived.Test.YtdplggpbgommnaaGreatDoorG30
import Derived.Test.YtdplggpbgommnaaGreatDoorG31
import Derived.Test.YtdplggpbgommnaaGreatDoorG32
open Bool renaming and_eq_true→cy
open Go.Addr.mk renaming injEq→cx
open Go.IntKind renaming i64→ae
open Go.Lib renaming hid→aa
open Go.Proofs.Tryz renaming prog→ai
open Go.Value renaming bool→ay,int→af,slice→ag,string→ah
open Go.Value.slice renaming injEq→bU
open Go.World renaming cell?_alloc_at→cJ
open List renaming length_cons→bF,mem_cons_of_mem→cW,mem_cons_self→eu,mem_map→b6,mem_singleton→eR
open Nat renaming add_mul→gN,le_of_ble_eq_true→qI,le_refl→an,lt_of_lt_of_le→bK,mul_le_mul_right→mq,sub_zero→qv
open Option.some renaming injEq→aC,inj→aU
set_option maxRecDepth 100000
set_option maxHeartbeats 8000000
namespace Go.Proofs.YtdplggpbgommnaaGreatDoor
open Go.RowKit
structure si(ts:List Tree):Prop where
 prog:jc ts=true
 texts:∀t∈ts,t.texts
 jw:e7 ts
 oe:pa ts
theorem vd(m f:ByteArray)(M:m.size=1)(G:f.size=1)(Y:jc [b0 m f]=true)(O:(bX (b0 m f).kids).length≤500000):si [b0 m f]:=by
 refine⟨Y,fun t E=> ?_,⟨qI rfl,fun t E=> ?_,qI rfl,fun d A=> ?_,fun d A=> ?_,fun d A=> ?_,fun t E=> ?_⟩,⟨fun d A=> ?_,?_,fun d A=> ?_⟩⟩;·rw[eR.1 E];simp[b0,Tree.texts,lq,M,G];decide
 ·rw[eR.1 E];exact O
 iterate 3
  ·rw[nh]at A;rw[eR.1 A];exact qI rfl
 ·rw[eR.1 E];exact qI rfl
 ·rw[nh]at A;rw[eR.1 A];simp[dG,Tree.short,kJ,G];decide
 ·rw[nh];exact qI rfl
 ·rw[nh]at A;rw[eR.1 A];exact qI rfl
theorem ni:si [b0 ⟨#[77]⟩ ⟨#[102]⟩]:=vd _ _ rfl rfl (by decide+kernel) (by decide+kernel)
theorem sj:si [b0 ⟨#[78]⟩ ⟨#[103]⟩]:=vd _ _ rfl rfl (by decide+kernel) (by decide+kernel)
theorem sk:si [b0 ⟨#[77]⟩ ⟨#[103]⟩]:=vd _ _ rfl rfl (by decide+kernel) (by decide+kernel)
theorem ve{h:Hp}{v:Value}{m f:ByteArray}(tv:aP h v (b0 m f)):∃E G A ck,v= .agg #[af ae 1,ah m,ag E 3 G,ag A 1 ck]:=by obtain⟨E,G,A,ck,-,e,-,-,-,-,-,-⟩:=tv.open;exact⟨E,G,A,ck,e⟩
theorem AY{h:Hp}{w:World}(A:ao h w){a b c d:Value}{t:Tree}(tv:aP h (.agg #[a,b,c,d]) t):∃h',ao h' (w.alloc (.cells #[a,b,c,d] 26))∧h.le h'∧hQ h' (ag (some ⟨w.heap.size,0,none⟩) 1 1) [t]:=by
 have M:h w.heap.size=none:=bI A _ (an _);have G:bi (w.alloc (.cells #[a,b,c,d] 26)) w.heap.size=some #[a,b,c,d]:=by unfold bi;rw[heap_alloc_new]
 have O:ao (h.add w.heap.size #[a,b,c,d]) (w.alloc (.cells #[a,b,c,d] 26)):=(A.alloc _).add G;have E:h.le (h.add w.heap.size #[a,b,c,d]):=Hp.eG _ M;have e:=dq tv;refine⟨_,O,E,[a,b,c,d],⟨_,_,rfl,(by show 1≤140737488355328;decide),rfl,.inr ⟨w.heap.size,0,_,rfl,by unfold Hp.add;rw[if_pos rfl],fun i A=>by simp⟩⟩,aJ.one (e.mono E)⟩
theorem AZ{h:Hp}{w:World}(G:ao h w){a b c d a' b' c' d':Value}{t u:Tree}(tv:aP h (.agg #[a,b,c,d]) t)(ab:aP h (.agg #[a',b',c',d']) u):∃h',ao h' ((w.alloc (.cells #[a,b,c,d] 26)).alloc (.cells #[a',b',c',d'] 26))∧h.le h'∧hQ h' (ag (some ⟨w.heap.size,0,none⟩) 1 1) [t]∧hQ h' (ag (some ⟨w.heap.size+1,0,none⟩) 1 1) [u]:=by
 obtain⟨h1,M,A,Y⟩:=AY G tv;obtain⟨h2,O,l2,E⟩:=AY M (ab.mono A);have e:(w.alloc (.cells #[a,b,c,d] 26)).heap.size=w.heap.size+1:=by simp
 rw[e]at E;exact⟨h2,O,Hp.le_trans A l2,Y.mono l2,E⟩
theorem Sl.A0{h:Hp}{a:Option Addr}{n m c k:Nat}{cs:List Value}(s:Sl h (ag a m c) n k cs)(ab:0<n):∃b A,a=some ⟨b,A,none⟩∧∀w,ao h w→b<w.heap.size∧∀i v,cs[i]? =some v→w.cell? ⟨b,A+i,none⟩=some v:=by
 have s':=s;obtain⟨a',c',e,h1,h2,G⟩:=s;simp only[bU]at e;obtain⟨rfl,rfl,rfl⟩:=e;rcases G with G|⟨b,A,ac,rfl,ad,aj⟩;·omega
 ·refine⟨b,A,rfl,fun w Y=> ?_⟩;obtain⟨b2,ak,E,M,O⟩:=s'.cells Y ab;simp only[aC,cx,and_true]at E;obtain⟨rfl,rfl⟩:=E;exact⟨M,O⟩
theorem vf{h:Hp}{v:Value}{rs:List (List (Int×Int))}(r:z6 h v rs):∃a O,v=ag a rs.length O∧∀i,i<rs.length→∃b G a' Y,a=some ⟨b,G,none⟩∧(∀w,ao h w→b<w.heap.size∧w.cell? ⟨b,G+i,none⟩=some (ag a' (rs.getD i []).length Y))∧∀j (hj:j<(rs.getD i []).length),∃b' E,a'=some ⟨b',E,none⟩∧∀w,ao h w→b'<w.heap.size∧w.cell? ⟨b',E+j*2,none⟩=some (af ae (rs.getD i [])[j].1)∧w.cell? ⟨b',E+j*2+1,none⟩=some (af ae (rs.getD i [])[j].2):=by
 obtain⟨R,o,aj⟩:=r;have ak:((List.range rs.length).map R).length=rs.length:=by simp
 obtain⟨a,O,rfl,-,-,-⟩:=id o;refine⟨a,O,by rw[ak],fun i ad=> ?_⟩;obtain⟨b,G,rfl,H⟩:=Sl.A0 o (by omega);have ab:=aj i ad;obtain⟨a',Y,ac,-,-,-⟩:=id ab;rw[ac]at ab;refine⟨b,G,a',Y,rfl,fun w A=>⟨(H w A).1,(H w A).2 i _ ?_⟩,fun j hj=> ?_⟩;·rw[List.getElem?_map,List.getElem?_range ad,Option.map_some,ac]
 ·obtain⟨b',E,rfl,M⟩:=Sl.A0 ab (by omega);have q:=mE (rs.getD i []) j hj;refine⟨b',E,rfl,fun w A=>⟨(M w A).1,(M w A).2 _ _ q.1,?_⟩⟩;have:=(M w A).2 _ _ q.2;rwa[←Nat.add_assoc]at this
theorem vg(T:Lib.PrintTabs)(N:Nat)(w:World)(cY:Tb T N w):Calls ai 9 #[] w fun e w'=>e= .returned (ay true)∧Below w.heap.size w w':=by have c9:=aa (Ew w);have aY:=aa cY;clear cY;go_enter Tryz.func9,Tryz.ntmps9;go_wp2_with fail;refine(Ij _ w c9.out).mono ?_;rintro e w1 ⟨d0,rfl,h1,bJ,bL⟩;obtain⟨bd,bg,ba,ck,rfl⟩:=ve bL;have am:=aa bJ.below;have cg:=aa bJ.I;have cq:=aa bL;clear bJ bL;have cz:=aa (Has.new w1 #[af ae 1,ah ⟨#[77]⟩,ag bd 3 bg,ag ba 1 ck] 26);go_wp2_with fail;refine(Ik h1 _ (cg.out.alloc _)).mono ?_;rintro e w2 ⟨d1,rfl,h2,aP,bN⟩;obtain⟨bl,cN,bk,cM,rfl⟩:=ve bN;have ax:Hid (Below w.heap.size w w2):=(am.out.alloc am.out.size _).trans (aP.below.mono (am.out.alloc am.out.size _).size);have ch:=aa aP.I;have ct:=aa (cq.out.mono aP.le);have cu:=aa bN;have cA:=aa (cz.out.below aP.below);have cB:=aa (Has.new w2 #[af ae 1,ah ⟨#[78]⟩,ag bl 3 cN,ag bk 1 cM] 26);clear aP bN am cg cq cz;go_wp2_with fail;refine(Il h2 _ (ch.out.alloc _)).mono ?_;rintro e w3 ⟨d2,rfl,dt,ac,bO⟩;obtain⟨M,Y,G,O,rfl⟩:=ve bO;have a1:Hid (Below w.heap.size w w3):=(ax.out.alloc ax.out.size _).trans (ac.below.mono (ax.out.alloc ax.out.size _).size);have ci:=aa ac.I;have a5:=aa (ct.out.mono ac.le);have cv:=aa (cu.out.mono ac.le);have cw:=aa bO;have cC:=aa ((cA.out.alloc _).below ac.below);have cD:=aa (cB.out.below ac.below);have a8:=aa (Has.new w3 #[af ae 1,ah ⟨#[77]⟩,ag M 3 Y,ag G 1 O] 26);have aB:Hid (Below w.heap.size w (w3.alloc (.cells #[af ae 1,ah ⟨#[77]⟩,ag M 3 Y,ag G 1 O] 26))):=a1.out.alloc a1.out.size _;have cn:Hid (ao dt (w3.alloc (.cells #[af ae 1,ah ⟨#[77]⟩,ag M 3 Y,ag G 1 O] 26))):=ci.out.alloc _;have aZ:Hid (Has (w3.alloc (.cells #[af ae 1,ah ⟨#[77]⟩,ag M 3 Y,ag G 1 O] 26)) w1.heap.size _):=cC.out.alloc _;have cE:Hid (Has (w3.alloc (.cells #[af ae 1,ah ⟨#[77]⟩,ag M 3 Y,ag G 1 O] 26)) w2.heap.size _):=cD.out.alloc _;clear ac bO ax ch ct cu cA cB a1 ci cC cD;go_upto_region 4 with fail;generalize w3.alloc (.cells #[af ae 1,ah ⟨#[77]⟩,ag M 3 Y,ag G 1 O] 26)=dN at*;generalize w1.heap.size=b1 at*;generalize w2.heap.size=b2 at*;generalize w3.heap.size=b3 at*;obtain⟨⟨bR,bS,bT,bV⟩,bm,bp,bq,bv⟩:=aZ.out.four;obtain⟨⟨bX,bY,bZ,b9⟩,bz,g1,bA,bB⟩:=a8.out.four;have bE:=aZ.out.lt;have bG:=a8.out.lt;go_wp2_with fail;obtain⟨du,cj,bC,cV,cZ⟩:=AZ cn.out a5.out cw.out;have aS:Hid (Below w.heap.size w ((dN.alloc (.cells #[af ae 1,ah ⟨#[77]⟩,ag bd 3 bg,ag ba 1 ck] 26)).alloc (.cells #[af ae 1,ah ⟨#[77]⟩,ag M 3 Y,ag G 1 O] 26))):=(aB.out.alloc aB.out.size _).alloc (aB.out.alloc aB.out.size _).size _;refine(u2 T N du _ cj (aY.out.below (aS.out.mono aY.out.1)) _ _ _ _ cV cZ 100 (by unfold aG;omega) ni.prog sk.prog ni.texts sk.texts ni.jw sk.jw ni.oe sk.oe).mono ?_;rintro e ak ⟨dW,dv,rfl,ad,a3⟩;rw[AX.2];rw[AX.1]at a3;obtain⟨dY,ab,rfl,aJ⟩:=vf a3;obtain⟨E,of,na,dC,rfl,aL,aj⟩:=aJ 0 (by decide);obtain⟨bH,bI,rfl,aM⟩:=aj 5 (by decide);clear aJ aj;have ce:=aa aL;have cf:=aa aM;clear aL aM;have cc:Hid (Below w.heap.size w ak):=aS.out.trans (ad.below.mono aS.out.size);have db:=aa ad.I;have de:=aa ((a5.out.mono bC).mono ad.le);have dg:=aa ((cv.out.mono bC).mono ad.le);have dh:=aa (((aZ.out.alloc _).alloc _).below ad.below);have di:=aa (((cE.out.alloc _).alloc _).below ad.below);clear ad a3 cj bC cV cZ aS bR bS bT bV bX bY bZ b9 bm bp bq bv bz g1 bA bB bE bG a5 cv cw aZ cE a8 aB cn;have aT:Hid (Below w.heap.size w (ak.alloc (.cells #[ag (some ⟨E,of,none⟩) 1 ab,af ae 1,af ae (eD (aX T) 100 [b0 ⟨#[77]⟩ ⟨#[102]⟩] [b0 ⟨#[77]⟩ ⟨#[103]⟩]).a7] 31))):=cc.out.alloc cc.out.size _;have co:Hid (ao dv (ak.alloc (.cells #[ag (some ⟨E,of,none⟩) 1 ab,af ae 1,af ae (eD (aX T) 100 [b0 ⟨#[77]⟩ ⟨#[102]⟩] [b0 ⟨#[77]⟩ ⟨#[103]⟩]).a7] 31))):=db.out.alloc _;have cF:=aa (dh.out.alloc (.cells #[ag (some ⟨E,of,none⟩) 1 ab,af ae 1,af ae (eD (aX T) 100 [b0 ⟨#[77]⟩ ⟨#[102]⟩] [b0 ⟨#[77]⟩ ⟨#[103]⟩]).a7] 31));have cG:=aa (di.out.alloc (.cells #[ag (some ⟨E,of,none⟩) 1 ab,af ae 1,af ae (eD (aX T) 100 [b0 ⟨#[77]⟩ ⟨#[102]⟩] [b0 ⟨#[77]⟩ ⟨#[103]⟩]).a7] 31));have cK:=aa (Has.new ak #[ag (some ⟨E,of,none⟩) 1 ab,af ae 1,af ae (eD (aX T) 100 [b0 ⟨#[77]⟩ ⟨#[102]⟩] [b0 ⟨#[77]⟩ ⟨#[103]⟩]).a7] 31);go_upto_region 5 with fail;generalize(eD (aX T) 100 [b0 ⟨#[77]⟩ ⟨#[102]⟩] [b0 ⟨#[77]⟩ ⟨#[103]⟩]).a7=dm at*;generalize ak.alloc (.cells #[ag (some ⟨E,of,none⟩) 1 ab,af ae 1,af ae dm] 31)=dO at*;generalize ak.heap.size=cU at*;obtain⟨⟨bR,bS,bT,bV⟩,bm,bp,bq,bv⟩:=cF.out.four;obtain⟨⟨bX,bY,bZ,b9⟩,bz,g1,bA,bB⟩:=cG.out.four;have bE:=cF.out.lt;have bG:=cG.out.lt;have cS:=cK.out.lt;go_wp2_with fail;obtain⟨dw,cm,dA,cX,c6⟩:=AZ co.out de.out dg.out;have aV:Hid (Below w.heap.size w ((dO.alloc (.cells #[af ae 1,ah ⟨#[77]⟩,ag bd 3 bg,ag ba 1 ck] 26)).alloc (.cells #[af ae 1,ah ⟨#[78]⟩,ag bl 3 cN,ag bk 1 cM] 26))):=(aT.out.alloc aT.out.size _).alloc (aT.out.alloc aT.out.size _).size _;refine(u2 T N dw _ cm (aY.out.below (aV.out.mono aY.out.1)) _ _ _ _ cX c6 100 (by unfold aG;omega) ni.prog sj.prog ni.texts sj.texts ni.jw sj.jw ni.oe sj.oe).mono ?_;rintro e A ⟨dX,h7,rfl,aQ,a4⟩;rw[Ir]at a4;have cd:Hid (Below w.heap.size w A):=aV.out.trans (aQ.below.mono aV.out.size);have c8:Hid (∀o,Below w.heap.size w (A.alloc o)):=fun o=>cd.out.alloc cd.out.size o;have cl:=aa (((co.out.alloc _).alloc _).below aQ.below);have a2:=aa aQ.I;have a9:=aa (((cK.out.alloc _).alloc _).below aQ.below);clear aQ cm dA cX c6 aV bR bS bT bV bX bY bZ b9 bm bp bq bv bz g1 bA bB bE bG cS;obtain⟨rb,dZ,rfl,aJ⟩:=vf a4;obtain⟨dF,dG,dR,dB,rfl,aL,aj⟩:=aJ 0 (by decide);obtain⟨aN,aO,rfl,aM⟩:=aj 0 (by decide);obtain⟨dT,dU,e,cQ⟩:=aj 1 (by decide);simp only[aC,cx,and_true]at e;obtain⟨rfl,rfl⟩:=e;clear aJ aj;obtain⟨dP,dj⟩:=ce.out A cl.out;obtain⟨c1,c2,c3⟩:=cf.out A cl.out;obtain⟨dQ,dk⟩:=aL A a2.out;obtain⟨c4,c5,dn⟩:=aM A a2.out;obtain⟨dp,dq,dr⟩:=cQ A a2.out;clear aL aM cQ a4 ce cf;have dD:=a9.out.cl 0;have dE:=a9.out.cl 1;have cS:=a9.out.lt;change A.cell? ⟨cU,0,none⟩=some (ag (some ⟨E,of,none⟩) 1 ab)at dD;change A.cell? ⟨cU,1,none⟩=some (af ae 1)at dE;change A.cell? ⟨E,of,none⟩=some (ag (some ⟨bH,bI,none⟩) 6 dC)at dj;change A.cell? ⟨bH,bI+10,none⟩=some (af ae 0)at c2;change A.cell? ⟨bH,bI+11,none⟩=some (af ae 5)at c3;change A.cell? ⟨dF,dG,none⟩=some (ag (some ⟨aN,aO,none⟩) 6 dB)at dk;change A.cell? ⟨aN,aO,none⟩=some (af ae (-1))at c5;change A.cell? ⟨aN,aO+1,none⟩=some (af ae 0)at dn;change A.cell? ⟨aN,aO+2,none⟩=some (af ae 0)at dq;change A.cell? ⟨aN,aO+3,none⟩=some (af ae 1)at dr;clear dp;go_wp2_with fail;refine bodyPost_ret (v:=ay true) (by simp[results,Tryz.results9,go_sem]) rfl ⟨rfl,?_⟩;exact c8.out _
theorem IE(l:List Int):∀u∈l.map (af ae),u.oneCell'=true:=by intro u A;obtain⟨z,_,rfl⟩:=b6.1 A;rfl
def A4(h:Hp)(w:World)(L:List Int)(e:Ending)(w':World):Prop:=∃g,e= .returned (.pointer (some ⟨g,0,none⟩))∧w.heap.size≤g∧∃h',St w.heap.size h w h' w'∧cA h' w' g L 0
theorem IF{h:Hp}{w w1:World}{L:List Int}{a:Option Addr}{c:Nat}(st:St w.heap.size h w h w1)(A:Ow w1 h w.heap.size 3 1 (ag a (0+L.length) c) (0+L.length) ([]++L.map (af ae)))(M:∀x∈L,aG x)(aj:L.length≤100000):A4 h w L (.returned (.pointer (some ⟨w1.heap.size,0,none⟩))) (w1.alloc (.cells #[ag a L.length c,af ae 0] 149)):=by
 rw[Nat.zero_add,List.nil_append]at A;have ad:=A.alloc (.cells #[ag a L.length c,af ae 0] 149);obtain⟨h',Y,ab,G,ac⟩:=ad.giveUp (st.I.alloc _) (by omega);refine⟨w1.heap.size,rfl,st.size,h',⟨(st.alloc _).below,Y,Hp.le_trans st.le ab,fun b O=> ?_,st.base⟩,?_,by simp,Nat.zero_le _,⟨a,c,?_,ac,M⟩,?_,?_⟩;·exact(G b (fun g E e=>by have:=(A.lt g E).1;omega)).trans (st.aI b O)
 ·exact(G _ (fun g E e=>by have:=(A.lt g E).2;omega)).trans st.I.iI
 ·exact(cJ _ _ _ _ rfl).trans rfl
 ·exact(cJ _ _ _ _ rfl).trans rfl
 ·exact World.frozen?_alloc_at _ _ _ _ rfl
theorem IG(h:Hp)(w:World)(O:ao h w)(ab:Value)(L:List Int)(A:Ints h ab L)(ax:L.length≤100000):Calls ai 39 #[ab] w (A4 h w L):=by have G:=aa O;have M:=aa A;have ac:=aa (IE L);obtain⟨a,ak,rfl,aG,-⟩:=A.open;clear O A;go_enter Tryz.func39,Tryz.ntmps39;go_wp2_with(at_builtin;refine s9 fP rfl (.tmp 3) (.tmp 4) rfl ((St.refl G.out).alloc _) (ag (some ⟨w.heap.size,0,none⟩) 0 0) 0 [] rfl (oP G.out (an _) [] 0 1 3 (by simp[maxLen]) rfl) (ag a L.length ak) L.length (L.map (af ae)) rfl M.out.1 ac.out (by omega) ?_;intro aJ w1 Y E am aj;obtain⟨aB,c1,rfl⟩:=E.shape;have ad:=aa (IF Y E M.out.2 ax);clear Y E am aj);go_ret;exact ad.out
theorem St.dst{B:Nat}{A h h':Hp}{w0 w w':World}{g:Nat}{L:List Int}(s:St B A w0 h w)(t:aL g L h w h' w')(M:B≤g):St B A w0 h' w':=
 ⟨s.below.trans ⟨t.gr.os,t.gr.tape,t.gr.output,t.gr.size,fun k G=>t.gr.block k (bK G s.size) (fun e=>by have:=aU e;omega)⟩,t.I,Hp.le_trans s.le t.le,fun b E=>(t.aI b (bK E s.size)).trans (s.aI b E),s.base⟩
theorem St.aM{B:Nat}{G h:Hp}{w0 w:World}(s:St B G w0 h w){b:Nat}(A:B≤b)(E:h b=none)(v0 M O Y:Value):St B G w0 h ((((w.setCell ⟨b,0,none⟩ v0).setCell ⟨b,1,none⟩ M).setCell ⟨b,2,none⟩ O).setCell ⟨b,3,none⟩ Y):=
 (((s.setCell (p:=⟨b,0,none⟩) A E v0).setCell (p:=⟨b,1,none⟩) A E M).setCell (p:=⟨b,2,none⟩) A E O).setCell (p:=⟨b,3,none⟩) A E Y
mutual
theorem Am:∀{t:Tree},t.ia→t.texts
 | .node k s l A,h=>by rw[Tree.ia]at h;rw[Tree.texts];exact⟨by omega,An h.2⟩
theorem An:∀{ts:List Tree},ib ts→lq ts
 |[],_=>by rw[lq];trivial
 |t::ts,h=>by rw[ib]at h;rw[lq];exact⟨Am h.1,An h.2⟩
end
mutual
theorem Ao:∀{t:Tree},t.ia→t.short
 | .node k s l A,h=>by rw[Tree.ia]at h;rw[Tree.short];exact⟨by omega,Ap h.2⟩
theorem Ap:∀{ts:List Tree},ib ts→kJ ts
 |[],_=>by rw[kJ];trivial
 |t::ts,h=>by rw[ib]at h;rw[kJ];exact⟨Ao h.1,Ap h.2⟩
end
theorem r8(ts:List Tree):(aN ts).length=ts.length:=by rw[iY,List.length_map]
mutual
theorem Aq:∀(t:Tree),t.bare.ia↔t.ia
 | .node k s l A=>by rw[Tree.bare,Tree.ia,Tree.ia,Ar A]
theorem Ar:∀(ts:List Tree),ib (aN ts)↔ib ts
 |[]=>by rw[aN]
 |t::ts=>by rw[aN,ib,ib,Aq t,Ar ts]
end
mutual
theorem As:∀(t:Tree),ep t.bare=ep t
 | .node k s l A=>by rw[Tree.bare,ep,ep,r8,Au k A.length 0 A]
theorem Au(k:Int)(n:Nat):∀(i:Nat) (ts:List Tree),fZ k n i (aN ts)=fZ k n i ts
 |_,[]=>by rw[aN]
 |i,t::ts=>by rw[aN,fZ,fZ,o8,As t,Au k n (i+1) ts]
end
theorem Av(t:Tree):dw t.bare↔dw t:=by unfold dw;rw[As,Aq]
theorem Aw(t:Tree):MD t.bare↔MD t:=by unfold MD;rw[Av,l3,o8,o9]
def MM(t:Tree):Prop:=t.kind=1∧t.text.size=1∧t.kids.length≤3∧(∀d∈t.kids,MD d)∧dw t
theorem u4(t:Tree):MM t.bare↔MM t:=by
 unfold MM;rw[Av,o8,o9,rT,r8];have:(∀d∈aN t.kids,MD d)↔∀d∈t.kids,MD d:=by rw[iY];refine⟨fun h d A=>(Aw d).1 (h _ (b6.2 ⟨d,A,rfl⟩)),fun h d A=> ?_⟩;obtain⟨e,E,rfl⟩:=b6.1 A;exact(Aw e).2 (h e E)
 rw[this]
theorem MM.same{t u:Tree}(h:MM t)(e:u.bare=t.bare):MM u:=(u4 u).1 (by rw[e];exact(u4 t).2 h)
theorem MM.named{k:Int}{s s':ByteArray}{l l':List ByteArray}{A:List Tree}(h:MM (.node k s l A))(G:fu 1 s'=true)(h1:s'.size=1):MM (.node k s' l' A):=by obtain⟨a,b,c,d,e,f⟩:=h;obtain⟨g1,E⟩:=Af G;rw[Tree.ia]at f;rw[ep,cy,cy]at e;have a':k=1:=a;subst a';exact⟨rfl,h1,c,d,by rw[ep,e.1,g1,e.2.2];rfl,by rw[Tree.ia];exact⟨E,f.2⟩⟩
theorem HN{s:ByteArray}{ts:List Tree}(G:fu 1 s=true)(h1:s.size=1)(E:ts.length≤3)(h:∀d∈ts,MD d):MM (.node 1 s [] ts):=by
 refine⟨rfl,h1,E,h,je (decide_eq_true ?_) G (hK.all fun t A=>⟨fun i _=> ?_,(h t A).2.1⟩)⟩;·show(0:Int)≤3;omega
 ·show(decide (t.kind=2)||decide (t.kind=3))=true;rcases(h t A).1.2 with e|e;·rw[e];rfl
  ·rw[e];rfl
def MP(ts:List Tree):Prop:=ts.length≤3∧∀t∈ts,MM t
section
variable {ts:List Tree}
theorem MP.prog(h:MP ts):jc ts=true:=by unfold jc;rw[List.all_eq_true];intro t A;have:=h.2 t A;rw[this.1,this.2.2.2.2.1];rfl
theorem MP.texts(h:MP ts):∀t∈ts,t.texts:=fun t A=>Am (h.2 t A).2.2.2.2.2
theorem MP.bare(h:MP ts):MP (aN ts):=⟨by rw[r8];exact h.1,fun t A=>by rw[iY]at A;obtain⟨u,E,rfl⟩:=b6.1 A;exact(u4 u).2 (h.2 u E)⟩
theorem Ax(b:Nat):∀(A:List Tree),(∀d∈A,d.size≤b)→ax A≤A.length*b
 |[],_=>by rw[ax];omega
 |k::A,h=>by have G:=h k eu;have h1:=Ax b A fun d E=>h d (cW _ E);rw[gR,bF,gN];omega
theorem MM.size{t:Tree}(h:MM t):t.size≤361:=by have h1:=Ax 120 t.kids fun d A=>(h.2.2.2.1 d A).1.1;have h2:=h.2.2.1;have:t.kids.length*120≤3*120:=mq _ h2;rw[Tree.size_eq];omega
theorem MP.at(h:MP ts){i:Nat}(A:i<ts.length):MM (ts.getD i default):=by rw[getD_at A];exact h.2 _ (List.getElem_mem A)
theorem MP.def(h:MP ts){d:cF}(E:d∈aj 0 ts):MD d.t:=by obtain⟨-,h2,-,-,A⟩:=mT ts 0 d E;rw[qv]at A;exact(h.at (by omega)).2.2.2.1 _ A
theorem Ay:∀(ts:List Tree) (m:Nat),(∀t∈ts,t.kids.length≤3)→(aj m ts).length≤ts.length*3
 |[],m,_=>by rw[aj];simp
 |t::ts,m,h=>by have E:=h t eu;have h1:=Ay ts (m+1) fun u A=>h u (cW _ A);rw[aj,List.length_append,rZ,bF,gN];omega
theorem MP.dS(h:MP ts):(aj 0 ts).length≤9:=by have:=Ay ts 0 fun t A=>(h.2 t A).2.2.1;have:ts.length*3≤3*3:=mq _ h.1;omega
theorem HO{K α:Type}[DecidableEq K](l:List (K×α))(p:K)(v:α):(aY l p v).length≤l.length+1:=by
 unfold aY;split;·rw[List.length_set];omega
 ·simp
theorem HP(A:List Tree):(bX A).length≤A.length:=by
 unfold bX
 have G:∀(A:List Tree) (l:List (lU×Value)),(A.foldl (fun l (d:Tree)=>aY l (d.kind,d.text) (ay true)) l).length≤l.length+A.length:=by
  intro A;induction A with
  |nil=>intro l;simp
  |cons k A E=>intro l;rw[List.foldl_cons,bF];have:=E (aY l (k.kind,k.text) (ay true));have:=HO l (k.kind,k.text) (ay true);omega
 have:=G A [];simpa using this
theorem MP.jw(h:MP ts):e7 ts:=by
 refine⟨by have:=h.1;omega,fun t E=> ?_,by have:=h.dS;omega,fun d A=> ?_,fun d A=> ?_,fun d A=> ?_,fun t E=> ?_⟩;·have:=HP t.kids;have:=(h.2 t E).2.2.1;omega
 ·have:=(h.def A).1.1;omega
 ·have:=mT ts 0 d A;omega
 ·have:=mT ts 0 d A;rw[qv]at this;exact this.2.2.2.1
 ·have:=(h.2 t E).size;omega
theorem Az(b:Nat):∀(ds:List cF),(∀d∈ds,d.t.size≤b)→iX ds≤ds.length*b
 |[],_=>by simp[iX]
 |d::ds,h=>by
  have E:=h d eu;have h1:=Az b ds fun e A=>h e (cW _ A);have:iX (d::ds)=d.t.size+iX ds:=by simp[iX]
  rw[this,bF,gN];omega
theorem MP.oe(h:MP ts):pa ts:=by
 refine⟨fun d A=>Ao (h.def A).2.1.2,?_,fun d A=> ?_⟩;·have:=Az 120 (aj 0 ts) fun d A=>(h.def A).1.1;have:(aj 0 ts).length*120≤9*120:=mq _ h.dS;omega
 ·have h1:=mT ts 0 d A;rw[qv]at h1;have:=(h.at (i:=d.J) (by omega)).size;omega
end
theorem Bd(t:Tree)(hz:t.size≤100000)(aV:VT t)(h:Hp)(w:World)(aT:ao h w)(v:Value)(aM:aP h v t):Calls ai 42 #[v] w fun e w'=>se t e∧Below w.heap.size w w':=by
 have M:=aa aT;have O:=aa aM;have ax:=aa aV;obtain⟨aG,aL,aB,ck,bm,rfl,-,ba,a9,a2,a3,a1⟩:=aM.open;clear aT aM aV a2 a3 a1;have aN:Hid (Has (w.alloc (.cells #[af ae t.kind,ah t.text,ag aG t.leads.length aL,ag aB t.kids.length ck] 26)) w.heap.size #[af ae t.kind,ah t.text,ag aG t.leads.length aL,ag aB t.kids.length ck]):=Has.new _ _ _;have B0:Hid (Below w.heap.size w (w.alloc (.cells #[af ae t.kind,ah t.text,ag aG t.leads.length aL,ag aB t.kids.length ck] 26))):=(Below.refl _ _).alloc (an _) _;go_enter Tryz.func42,Tryz.ntmps42;go_wp2_with fail;refine(Ba t ax.out.pr ax.out.lb h _ (M.out.alloc _) _ O.out).mono ?_;rintro e w2 ⟨⟨b,rfl,aS⟩,b2⟩;have aY:=aa aS;have A:=aa (B0.out.trans (b2.mono B0.out.size));have Y:=aa (aN.out.below b2);obtain⟨⟨ad,aj,ak,am⟩,-⟩:=Y.out.four;have ac:=Y.out.lt;clear b2 aN B0 aS;cases b;·go_wp2_with fail;go_ret;exact⟨ng _,A.out⟩
 ·go_wp2_with fail;refine(Jb _ t (an _) h _ (M.out.below A.out) _ O.out).mono ?_;rintro e w3 ⟨⟨b,rfl⟩,b3⟩;have E:=aa (A.out.trans (b3.mono A.out.size));have ab:=aa (Y.out.below b3);clear b3 ad aj ak am ac Y A;obtain⟨⟨ad,aj,ak,am⟩,-⟩:=ab.out.four;have ac:=ab.out.lt;cases b;·go_wp2_with fail;go_ret;exact⟨ng _,E.out⟩
  ·go_wp2_with fail;refine(Je t.size (by omega) t (an _) h _ (M.out.below E.out) _ O.out).mono ?_;rintro e bd ⟨⟨d,rfl,a8⟩,aJ⟩;have G:=aa (E.out.trans (aJ.mono E.out.size));have aO:=aa (ab.out.below aJ);clear aJ ad aj ak am ac ab E;obtain⟨⟨ad,aj,ak,am⟩,-⟩:=aO.out.four;have ac:=aO.out.lt;by_cases a5:d≤40
   ·have aZ:(d:Int)≤40:=by omega
    go_wp2_with fail;refine(Jg t hz ax.out h _ (M.out.below G.out) _ O.out).mono ?_;rintro e bg ⟨⟨s,rfl⟩,aQ⟩;have aX:=aa (G.out.trans (aQ.mono G.out.size));clear aQ;go_wp2_with fail;go_ret;exact⟨⟨_,rfl,fun _=>aY.out (by trivial)⟩,aX.out⟩
   ·have aZ:decide ((d:Int)≤40)=false:=by simp;omega
    have a4:¬(d:Int)≤40:=by omega
    go_wp2_with fail;go_ret;exact⟨ng _,G.out⟩
end Go.Proofs.YtdplggpbgommnaaGreatDoor
