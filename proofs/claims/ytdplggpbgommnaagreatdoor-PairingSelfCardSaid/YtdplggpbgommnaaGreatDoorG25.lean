/- The parser: a definition is done. -/
import Derived.Test.YtdplggpbgommnaaGreatDoorG20
open Go renaming bodyPost_ret→aF
open Go.IntKind renaming i64→ae
open Go.Lib renaming hid→aa
open Go.Obj renaming cells→au
open Go.Proofs.Tryz renaming prog→ai,results120→j1
open Go.RowKit.Below renaming refl→aD
open Go.Value renaming agg→aq,int→af,ownBlock→bW,slice→ag,string→ah
open Go.Value.agg renaming injEq→oG
open Go.World renaming setCell→ef
open Nat renaming le_refl→an,zero_le→aW
open Option.some renaming inj→aU
set_option maxRecDepth 100000
set_option maxHeartbeats 4000000
namespace Go.Proofs.YtdplggpbgommnaaGreatDoor
open Go.RowKit
theorem u0{h:Hp}{a b c d:Value}{t:Tree}(s:aP h (aq #[a,b,c,d]) t):bg h t [a,b,c,d]:=by
 obtain⟨cs,e,i⟩:=s;have:cs=[a,b,c,d]:=by simp only[oG]at e;have:=congrArg Array.toList e;simpa using this.symm
 rw[this]at i;exact i
theorem Ha{p b1 b2 b3 A M G:Nat}{h E:Hp}{w W:World}{ts:List cU}{k:Int}{name:ByteArray}{leads:List ByteArray}{kids:List Tree}{O:List Value}(D:eb p b1 b2 b3 h w E W ts k name leads.length (leads.map ah).toArray (ag (some ⟨A,0,none⟩) G M))(ak:Ow W E b1 26 4 (ag (some ⟨A,0,none⟩) G M) G O)(aN:aG k)(aQ:kids.length=G)(a3:G≤1000)(a2:leads.length≤1000)(aO:0<leads.length)(ax:aJ (bg E) kids O)(aj:A≠b1∧A≠b2∧A≠b3∧A≠p):∃h',bB p h w h' W∧bJ h' W p ts∧aP h' (aq #[af ae k,ah name,ag (some ⟨b2,0,none⟩) leads.length leads.length,ag (some ⟨A,0,none⟩) G M]) (.node k name leads kids)∧h' b1=none:=by
 have ab:=D.r.qj (by simpa using aO);have ad:E.le (E.add b2 (leads.map ah).toArray):=Hp.eG _ D.n2;have aT:ao (E.add b2 (leads.map ah).toArray) W:=D.st.I.add ab;have am:∀b,b≠b2→(E.add b2 (leads.map ah).toArray) b=E b:=fun b ab=>by unfold Hp.add;rw[if_neg ab]
 have aB:Ow W (E.add b2 (leads.map ah).toArray) b1 26 4 (ag (some ⟨A,0,none⟩) G M) G O:=
  ak.U (fun _ _=>rfl) (fun g ac=>by have e:A=g:=aU ac;subst e;exact am _ aj.2.1)
 obtain⟨h',aS,l2,aL,aV⟩:=aB.giveUp aT (by omega);have Y:∀b,b≠b2→b≠A→h' b=E b:=fun b h1 h2=>(aL b (fun g ac=>by have e:A=g:=aU ac;subst e;exact h2)).trans (am b h1)
 have aZ:=(ak.lt A rfl).1;have aX:=D.g1;have aY:=D.g2;refine⟨h',⟨D.st.gr,aS,Hp.le_trans D.st.le (Hp.le_trans ad l2),fun b aM=>(Y b (by omega) (by omega)).trans (D.st.aI b aM)⟩,D.par.U rfl (an _) (Hp.le_trans ad l2) ((Y p (fun e=>D.p2 e.symm) (fun e=>aj.2.2.2 e.symm)).trans D.par.no),?_,(Y b1 D.d12 (fun e=>aj.1 e.symm)).trans D.n1⟩;refine⟨_,rfl,?_⟩;rw[bg];subst aQ;refine⟨_,_,_,_,O,rfl,aN,⟨_,_,rfl,by omega,by simp,.inr ⟨b2,0,(leads.map ah).toArray,rfl,l2 _ _ (by unfold Hp.add;rw[if_pos rfl]),fun i a1=>by simp⟩⟩,aV,eH.iff.2 (ax.mono fun _ _ r=>r.mono (Hp.le_trans ad l2))⟩
structure PX(h:Hp)(B bx:Nat)(c:Array Value)(w0:World)(v0:Value)(n:Nat)(xs:List Value)(v:Value)(w:World):Prop where
 ps:bN h B w0 v0 n xs v w
 has:Has w bx c
 sq:v0.ownBlock≠some bx
 lt:bx<w0.heap.size
section
variable {h:Hp} {B bx n n':Nat} {c:Array Value} {w0 w w1:World} {v0 v v':Value} {xs fF:List Value}
theorem PX.start(p:bN h B w v n xs v w)(c:Array Value)(T:TypeId):PX h B w.heap.size c (w.alloc (.cells c T)) v n xs v (w.alloc (.cells c T)):=
 ⟨bN.refl (p.I.alloc _) (p.own.alloc _) p.ok (by have:=p.base;simp;omega),Has.new _ _ _,fun e=>by have:=(p.own.lt _ e).2;omega,by simp⟩
theorem PX.below(p:PX h B bx c w0 v0 n xs v w)(b:Below w.heap.size w w1):PX h B bx c w0 v0 n xs v w1:=⟨p.ps.below b,p.has.below b,p.sq,p.lt⟩
theorem PX.drew(p:PX h B bx c w0 v0 n xs v w):PX h B bx c w0 v0 n xs v w.drew:=p.below (aD _ _).drew
theorem PX.alloc(p:PX h B bx c w0 v0 n xs v w)(o:Obj):PX h B bx c w0 v0 n xs v (w.alloc o):=p.below ((aD _ _).alloc (an _) o)
theorem PX.ne(p:PX h B bx c w0 v0 n xs v w):v.ownBlock≠some bx:=p.ps.ne p.sq p.lt
theorem PX.next(p:PX h B bx c w0 v0 n xs v w)(E:ao h w1)(M:Ow w1 h B 199 2 v' n' (xs++fF))(A:w.grownBy w1 v.ownBlock)(bk:v'.ownBlock=v.ownBlock∨v'.ownBlock=some w.heap.size)(G:PcV fF):PX h B bx c w0 v0 n' (xs++fF) v' w1:=
 ⟨p.ps.next E M A bk G,p.has.grown A p.ne,p.sq,p.lt⟩
theorem PX.call(p:PX h B bx c w0 v0 n xs v w)(q:bN h B w v n' fF v' w1):PX h B bx c w0 v0 n' fF v' w1:=
 ⟨p.ps.call q,p.has.grown q.gr p.ne,p.sq,p.lt⟩
theorem PX.fG(p:PX h B bx c w0 v0 n xs v w){ops:Array Oper}{o:Oper}{a:Act}{K:Act→World→Prop}{Q:Exit→Act→World→Prop}{F:Prop}{T:TypeId}{news:List Value}{s x:Operand}(m:Nat)(M:∀g A w',PX h B bx c w0 v0 (n+m) (xs++news) (ag (some ⟨g,0,none⟩) (n+m) A) w'→K (a.put o.dst (ag (some ⟨g,0,none⟩) (n+m) A)) w')(O:o.guard=none:=by rfl)(ac:o.op= .call {callee:= .builtin .append,args:= #[s,x],argTypes:= #[196,196]}:=by rfl)(ad:a.eval s=v:=by rfl)(aj:a.eval x=ag (some ⟨w.heap.size,0,none⟩) m m:=by rfl)(Y:news.length=m*2:=by rfl)(E:PcV news:=by repeat(first|exact PcV.nil|refine PcV.cons (by first|assumption|(unfold Sh1;decide)) ?_))(ab:0<m:=by omega)(am:n+m≤4000100:=by omega):if Region.wanted o (yielded ops a.tmps)=true then Oper.wp ai o a (w.alloc (.cells news.toArray T)) K Q else F:=
 gS AG O s x ac (p.alloc _).ps.st v n xs ad (p.alloc _).ps.own ⟨w.heap.size,0,none⟩ m m news aj Y (cK _ _ _ _ rfl) E.one ab (by omega) fun g A w' st ak G bk=>M g A w' ((p.alloc _).next st.I ak G bk E)
theorem PX.ky(p:PX h B bx c w0 v0 n xs v w){ops:Array Oper}{rest:List Oper}{o:Oper}{a:Act}{Q:Exit→Act→World→Prop}{T:TypeId}{news:List Value}{s x:Operand}(m:Nat)(G:∀v' w',PX h B bx c w0 v0 (n+m) (xs++news) v' w'→wpList ai ops Q rest (a.put o.dst v') w')(M:o.guard=none:=by rfl)(Y:o.op= .call {callee:= .builtin .append,args:= #[s,x],argTypes:= #[196,196]}:=by rfl)(ab:a.eval s=v:=by rfl)(ac:a.eval x=ag (some ⟨w.heap.size,0,none⟩) m m:=by rfl)(O:news.length=m*2:=by rfl)(A:PcV news:=by repeat(first|exact PcV.nil|refine PcV.cons (by first|assumption|(unfold Sh1;decide)) ?_))(aj:n+m≤4000100:=by omega):wpList ai ops Q (o::rest) a (w.alloc (.cells news.toArray T)):=
 ft AG M s x Y (p.alloc _).ps.st v n xs ab (p.alloc _).ps.own ⟨w.heap.size,0,none⟩ m m news ac O (cK _ _ _ _ rfl) A.one (by omega) fun v' w' st ad E bk=>G v' w' ((p.alloc _).next st.I ad E bk A)
theorem PX.ga(p:PX h B bx c w0 v0 n xs v w):bN h B w v n xs v w:=bN.refl p.ps.I p.ps.own p.ps.ok (Nat.le_trans p.ps.base p.ps.size)
theorem PX.fin{T:TypeId}(q:PX h B w.heap.size c (w.alloc (.cells c T)) v n' fF v' w1)(p:bN h B w v n xs v w):bN h B w v n' fF v' w1:=(p.alloc _).call q.ps
end
def A1(e:Ending):Prop:=∃s,e= .returned (ah s)∧Sh1 s
theorem dn(h:Hp)(w:World)(E:ao h w)(v:Value)(t:Tree)(M:aP h v t)(A:t.lb)(z:Int)(hz:0≤z):Calls ai 198 #[v,af ae z] w fun e w'=>A1 e∧Below w.heap.size w w':=by
 obtain⟨k,rfl⟩:∃k:Nat,z=(k:Int):=⟨z.toNat,by omega⟩
 obtain⟨am,ax,ak,ck,aS,rfl,aJ,aM,aL,G,ac,Y⟩:=M.open;have ad:=aa ((Tree.og t).1 A).1.2;have B0:Hid (Below w.heap.size w (w.alloc (.cells #[af ae t.kind,ah t.text,ag am t.leads.length ax,ag ak t.kids.length ck] 26))):=(aD _ _).alloc (an _) _;by_cases ab:k<t.leads.length
 ·obtain⟨b,aN,rfl,aT,O⟩:=G.cells E (by omega);have aG:=O k (ah t.leads[k]) (by simp[ab]);have aj:Hid (Sh1 t.leads[k]):=ad.out _ (List.getElem_mem ab);have aO:(0:Int)≤(k:Int):=by omega
  have aB:(k:Int)<(t.leads.length:Int):=by omega
  clear O G ac Y M E A;go_enter Tryz.func198,Tryz.ntmps198;go_wp2_with fail;go_ret;exact⟨⟨_,rfl,aj.out⟩,B0.out⟩
 ·have aB:decide ((k:Int)<(t.leads.length:Int))=false:=by simp;omega
  have aQ:¬(k:Int)<(t.leads.length:Int):=by omega
  clear G ac Y M E A;go_enter Tryz.func198,Tryz.ntmps198;go_wp2_with fail;go_ret;exact⟨⟨_,rfl,by unfold Sh1;decide⟩,B0.out⟩
def Is(h:Hp)(w:World)(n:Nat)(e:Ending)(w':World):Prop:=∃v xs,e= .returned v∧Ow w' h w.heap.size 9 1 v n xs∧PcV xs∧St w.heap.size h w h w'
theorem It(h:Hp)(w:World)(Y:ao h w)(z:Int)(n:Nat)(hz:z=(n:Int))(aG:n≤1000000):Calls ai 170 #[af ae z] w (Is h w n):=by
 subst hz;have ad:=aa Y;clear Y;go_enter Tryz.func170,Tryz.ntmps170;go_wp2_with fail;go_loopw[3,4,5,6,7,8,9,10,11,12] (fun lv i _ _ _ _ _ _ _ _ wr=>∃(j:Nat) (xs:List Value),j≤n∧i=af ae j∧PcV xs∧St w.heap.size h w h wr∧Ow wr h w.heap.size 9 1 lv j xs) (fun _ i _ _ _ _ _ _ _ _ _=>n-(intOf i).toNat);case atStart=>exact⟨0,[],aW _,rfl,PcV.nil,St.refl ad.out,Ow.nil _ _ _ _ _⟩
 case round=>
  obtain⟨j,xs,aB,rfl,E,S,A⟩:=hrel;by_cases hj:j<n
  ·have aJ:(j:Int)<(n:Int):=by omega
   have G:=aa E;have O:=aa S;have M:=aa A;clear E S A;go_wp2_with(at_builtin;refine ft rW rfl _ _ rfl (O.out.alloc _) _ j xs rfl (M.out.alloc _) ⟨wr.heap.size,0,none⟩ 1 1 [ah ⟨#[32]⟩] rfl (by rfl) (cK _ _ _ _ rfl) (cm _ (by rfl)) (by omega) ?_;intro aL aM ac ab ax am;have ak:=aa ac;have aj:=aa ab;clear ac ab ax am);go_roundw;case rel=>exact⟨j+1,_,by omega,by go_num,G.out.lP (PcV.cons (by unfold Sh1;decide) PcV.nil),ak.out,aj.out⟩
   case measure=>simp[intOf];omega
  ·obtain rfl:j=n:=by omega
   have G:=aa E;have O:=aa S;have M:=aa A;clear E S A;go_wp2_with fail;go_ret;exact⟨_,xs,rfl,M.out,G.out,O.out⟩
theorem Iu(w:World)(k:Int)(s:ByteArray)(G E:Option Addr)(Y A M ck:Nat)(_hn:A≤140737488355328)(i:Int)(f:ByteArray)(O:Sh1 f):Calls ai 171 #[aq #[af ae k,ah s,ag G Y M,ag E A ck],af ae i,ah f] w fun e w'=>A1 e∧Below w.heap.size w w':=by
 have ab:=aa O;clear O;have B0:Hid (Below w.heap.size w (w.alloc (.cells #[af ae k,ah s,ag G Y M,ag E A ck] 26))):=(aD _ _).alloc (an _) _;go_enter Tryz.func171,Tryz.ntmps171;go_wp2_with fail;all_goals go_ret
 all_goals exact⟨⟨_,rfl,by first|exact ab.out|(unfold Sh1;decide)⟩,B0.out⟩
attribute [local go_sem↓] Go.wp_at_zero Go.wp_at_succ
theorem Has.qo{w:World}{b:Nat}{c:Array Value}(x:Has w b c)(i:Nat)(A:i<c.size)(v:Value):Has (w.setCell ⟨b,i,none⟩ v) b (c.setIfInBounds i v):=by
 refine⟨by simpa[ef]using x.lt,fun o=> ?_,fun o=>by have:=x.fz o;simp[this]⟩;by_cases e:o=i;·subst e;rw[World.cell?_setCell_same _ _ _ ((x.cl o).trans (Array.getElem?_eq_getElem A))];simp[A]
 ·rw[World.cell?_setCell_other _ _ _ _ (by simp),x.cl o];rw[Array.getElem?_setIfInBounds_ne (fun h=>e h.symm)]
theorem Bx.aM{h:Hp}{w:World}{b:Nat}{a0 M O Y:Value}(x:Bx h w b #[a0,M,O,Y])(v0 A E G:Value):Bx h ((((w.setCell ⟨b,0,none⟩ v0).setCell ⟨b,1,none⟩ A).setCell ⟨b,2,none⟩ E).setCell ⟨b,3,none⟩ G) b #[v0,A,E,G]:=by have:=(((x.has.qo 0 (by simp) v0).qo 1 (by simp) A).qo 2 (by simp) E).qo 3 (by simp) G;exact⟨by simpa using this,x.no⟩
theorem Bx.IC{h:Hp}{w:World}{b b':Nat}{c:Array Value}(x:Bx h w b c)(A:b'≠b)(v0 E G M:Value):Bx h ((((w.setCell ⟨b',0,none⟩ v0).setCell ⟨b',1,none⟩ E).setCell ⟨b',2,none⟩ G).setCell ⟨b',3,none⟩ M) b c:=
 ⟨(((x.has.ne A 0 v0).ne A 1 E).ne A 2 G).ne A 3 M,x.no⟩
theorem Bx.drew{h:Hp}{w:World}{b:Nat}{c:Array Value}(x:Bx h w b c):Bx h w.drew b c:=⟨x.has.drew,x.no⟩
theorem ID{g:Nat}{L:List Int}{h M:Hp}{w G:World}{b:Nat}{A E:Tree}{ac Y ad ab:Option Addr}{am aj ao ak:Nat}{Z:Array Value}{aS aT aV aX:Value}(aB:aL g L h w M G)(B:Bx M G w.heap.size Z)(ax:Bx M G b #[aS,aT,aV,aX])(aN:bg M A [af ae A.kind,ah A.text,ag ac A.leads.length am,ag Y A.kids.length aj])(aO:bg M E [af ae E.kind,ah E.text,ag ad E.leads.length ao,ag ab E.kids.length ak])(aP:w.heap.size≤b)(aQ:b≠w.heap.size)(O:ByteArray):
  ∃h7,aL g L h w h7 (((((G.setCell ⟨b,0,none⟩ (af ae 21)).setCell ⟨b,1,none⟩ (ah O)).setCell ⟨b,2,none⟩ (ag none 0 0)).setCell ⟨b,3,none⟩ (ag (some ⟨G.heap.size,0,none⟩) 2 2)).alloc (au #[af ae A.kind,ah A.text,ag ac A.leads.length am,ag Y A.kids.length aj,af ae E.kind,ah E.text,ag ad E.leads.length ao,ag ab E.kids.length ak] 26))∧
   Bx h7 (((((G.setCell ⟨b,0,none⟩ (af ae 21)).setCell ⟨b,1,none⟩ (ah O)).setCell ⟨b,2,none⟩ (ag none 0 0)).setCell ⟨b,3,none⟩ (ag (some ⟨G.heap.size,0,none⟩) 2 2)).alloc (au #[af ae A.kind,ah A.text,ag ac A.leads.length am,ag Y A.kids.length aj,af ae E.kind,ah E.text,ag ad E.leads.length ao,ag ab E.kids.length ak] 26)) w.heap.size Z∧
   Bx h7 (((((G.setCell ⟨b,0,none⟩ (af ae 21)).setCell ⟨b,1,none⟩ (ah O)).setCell ⟨b,2,none⟩ (ag none 0 0)).setCell ⟨b,3,none⟩ (ag (some ⟨G.heap.size,0,none⟩) 2 2)).alloc (au #[af ae A.kind,ah A.text,ag ac A.leads.length am,ag Y A.kids.length aj,af ae E.kind,ah E.text,ag ad E.leads.length ao,ag ab E.kids.length ak] 26)) b #[af ae 21,ah O,ag none 0 0,ag (some ⟨G.heap.size,0,none⟩) 2 2]∧
   bg h7 (.node 21 O [] [A,E]) [af ae 21,ah O,ag none 0 0,ag (some ⟨G.heap.size,0,none⟩) 2 2]:=by
 have aM:M.le (M.add G.heap.size ([af ae A.kind,ah A.text,ag ac A.leads.length am,ag Y A.kids.length aj,af ae E.kind,ah E.text,ag ad E.leads.length ao,ag ab E.kids.length ak]:List Value).toArray):=Hp.eG _ aB.I.iI;have aY:=B.has.lt;have l2:=ax.has.lt
 exact⟨_,(aB.aM aP ax.no (af ae 21) (ah O) (ag none 0 0) (ag (some ⟨G.heap.size,0,none⟩) 2 2)).lay [af ae A.kind,ah A.text,ag ac A.leads.length am,ag Y A.kids.length aj,af ae E.kind,ah E.text,ag ad E.leads.length ao,ag ab E.kids.length ak] 26 G.heap.size (by simp[ef]),
  ((B.IC aQ _ _ _ _).alloc _).add _ (by omega),((ax.aM _ _ _ _).alloc _).add _ (by omega),
  dq (jL (jM _ _ _) ((aJ.one (aN.mono aM)).append (aJ.one (aO.mono aM))) 2 rfl (by simp) _ (by unfold aG;omega) _)⟩
theorem CF(m B:Nat)(em:m≤100)(cK:lI m B)(h:Hp)(w:World)(aM:ao h w)(g:Nat)(L:List Int)(n:Nat)(d:cA h w g L n)(dk:a8 L n 14=12):Calls ai 120 #[.pointer (some ⟨g,0,none⟩),af ae ((m+1:Nat):Int)] w (fQ g L h w (ME (3*B+6))):=by
 have cN:=aa aM;have D:=aa d;have dB:=aa dk;have el:=d.lt;clear aM d dk;have ed:((m+1:Nat):Int)-1=(m:Int):=by omega
 have ei:¬((m+1:Nat):Int)<1:=by omega
 have ej:(m:Int)+1-1=(m:Int):=by omega
 have bL:=aa cK;clear cK;go_enter Tryz.func120,Tryz.ntmps120;go_wp2_with fail;have B0:=aa (Bx.new cN.out #[af ae 0,ah ⟨#[]⟩,ag none 0 0,ag none 0 0] 26);have cQ:=aa ((aL.refl cN.out D.out).alloc (au #[af ae 0,ah ⟨#[]⟩,ag none 0 0,ag none 0 0] 26));refine(dW h _ cQ.out.I g L n (D.out.alloc _) 14 (by omega) (by omega)).mono ?_;rintro e w1 ⟨rfl,bO⟩;rw[dB.out];have cC:=aa (B0.out.call bO (by omega));have bV:=aa (cQ.out.call bO);obtain⟨dU,bC⟩:=bV.out.bj;have bC:=aa bC;have ex:w.heap.size<w1.heap.size:=cC.out.has.lt;clear bO;go_wp2_with fail;refine(jn h _ (bV.out.I.alloc _) g L dU (bC.out.alloc _) w1.heap.size 5 5 #[ah ⟨#[43]⟩,ah ⟨#[45]⟩,ah ⟨#[42]⟩,ah ⟨#[60]⟩,ah ⟨#[61,61]⟩] (Has.new w1 _ _) (by omega) (by omega) (by omega) (fun i aM=>ik [ah ⟨#[43]⟩,ah ⟨#[45]⟩,ah ⟨#[42]⟩,ah ⟨#[60]⟩,ah ⟨#[61,61]⟩] (fu 21) (by kernel_rfl) i aM)).mono ?_;rintro e w2 ⟨aN,rfl,bp,bR⟩;have bp:=aa bp;have cD:=aa ((cC.out.alloc _).call bR (by omega));have bX:=aa ((bV.out.alloc _).call bR);obtain⟨dX,bE⟩:=bX.out.bj;have bE:=aa bE;have ey:w.heap.size<w2.heap.size:=cD.out.has.lt;clear bR;go_wp2_with fail;refine(sc bL.out h _ bX.out.I g L dX bE.out).mono ?_;rintro e w3 ⟨dp,rfl,bv,A,bS,bY,cU⟩;obtain⟨a1,a3,aZ,a2,-,rfl,-,-,-,-,-,-⟩:=bY.open;have cE:=aa (cD.out.call bS (by omega));have Y:=aa (bX.out.call bS);obtain⟨cn,bG⟩:=Y.out.bj;have bG:=aa bG;have cM:=aa (dq bY);have ez:w.heap.size<w3.heap.size:=cE.out.has.lt;clear bS bY;go_wp2_with fail;have dt:=aa (Bx.new Y.out.I #[af ae A.kind,ah A.text,ag a1 A.leads.length a3,ag aZ A.kids.length a2] 26);refine(dW bv _ (Y.out.I.alloc _) g L cn (bG.out.alloc _) 3 (by omega) (by omega)).mono ?_;rintro e a9 ⟨rfl,bq⟩;have ec:=jo L cn 3 (by omega);generalize a8 L cn 3=cu at*;have aP:=aa ((cE.out.alloc _).call bq (by omega));have aS:=aa (dt.out.call bq (by have:=Y.out.lt;omega));have ac:=aa ((Y.out.alloc _).call bq);obtain⟨dn,ax⟩:=ac.out.bj;have ax:=aa ax;have eA:w.heap.size<a9.heap.size:=aP.out.has.lt;have en:w3.heap.size<a9.heap.size:=aS.out.has.lt;clear bq;have dQ:cu=0∨cu=1∨cu=2:=by omega
 rcases dQ with rfl|rfl|rfl
 ·have⟨⟨cm,k1,k2,k3⟩,cv,cw,cz,cB⟩:=aP.out.four;have⟨⟨cc,c1,c2,c3⟩,cd,ce,cf,cg⟩:=aS.out.four;have di:w3.heap.size≠g:=by have:=Y.out.lt;omega
  have dj:w.heap.size≠w3.heap.size:=by omega
  have cl:w3.heap.size≠w.heap.size:=by omega
  have eo:w3.heap.size<a9.heap.size+1:=by omega
  go_wp2_with fail;go_region_law(first|(go_simp;go_at_call 118;refine(jn bv _ (by exact(ac.out.I.alloc _).drew) g L dn (by exact(ax.out.alloc _).drew) a9.heap.size 2 2 #[ah ⟨#[43]⟩,ah ⟨#[42]⟩] (by exact(Has.new a9 _ _).drew) (by omega) (by omega) (by omega) (fun i aM=>ik [ah ⟨#[43]⟩,ah ⟨#[42]⟩] (fu 21) (by kernel_rfl) i aM)).mono ?_;rintro e G ⟨aO,rfl,bN,E⟩;have bN:=aa bN;have ak:=aa (((aP.out.alloc _).drew).call E (by omega));have am:=aa (((aS.out.alloc _).drew).call E di);have aB:=aa ((ac.out.alloc _).drew.call E);obtain⟨dY,bH⟩:=aB.out.bj;have bH:=aa bH;have dm:w.heap.size<G.heap.size:=ak.out.has.lt;have dR:w3.heap.size<G.heap.size:=am.out.has.lt;have⟨⟨ba,bd,bg,bm⟩,ch,g1,ci,cj⟩:=am.out.four;clear E)|(go_simp;go_at_call 169;refine(sc wF bv _ aB.out.I g L dY bH.out).mono ?_;rintro e ab ⟨eE,rfl,ek,a5,aX,b0,dE⟩;obtain⟨dN,dP,dG,dO,-,rfl,-,-,-,-,-,-⟩:=b0.open;have cF:=aa (ak.out.call aX (by omega));have bB:=aa (am.out.call aX di);have dC:=aa (aB.out.call aX);have dv:=aa (dq b0);have dA:=aa (cM.out.mono aX.le);have eB:w.heap.size<ab.heap.size:=cF.out.has.lt;have ep:w3.heap.size<ab.heap.size:=bB.out.has.lt;have eq:w3.heap.size<ab.heap.size+1:=(by omega);have⟨⟨d0,d1,d2,d3⟩,v0,d4,d5,dp⟩:=bB.out.four;clear aX b0))
  all_goals
   obtain⟨h7,ad,aQ,aT,bJ⟩:=ID (b:=w3.heap.size) dC.out cF.out bB.out dA.out dv.out (by omega) cl aO;have ad:=aa ad;have aQ:=aa aQ;have aT:=aa aT;have bJ:=aa bJ;generalize dh:(((((ab.setCell ⟨w3.heap.size,0,none⟩ (af ae 21)).setCell ⟨w3.heap.size,1,none⟩ (ah aO)).setCell ⟨w3.heap.size,2,none⟩ (ag none 0 0)).setCell ⟨w3.heap.size,3,none⟩ (ag (some ⟨ab.heap.size,0,none⟩) 2 2)).alloc (au #[af ae A.kind,ah A.text,ag a1 A.leads.length a3,ag aZ A.kids.length a2,af ae a5.kind,ah a5.text,ag dN a5.leads.length dP,ag dG a5.kids.length dO] 26))=dr at*;have eb:=aa dh;clear dh;obtain⟨dZ,aV⟩:=ad.out.bj;have aV:=aa aV;have eC:w.heap.size<dr.heap.size:=aQ.out.has.lt;have er:w3.heap.size<dr.heap.size:=aT.out.has.lt;clear d0 d1 d2 d3 v0 d4 d5 dp ba bd bg bm ch g1 ci cj cm k1 k2 k3 cv cw cz cB cc c1 c2 c3 cd ce cf cg;have⟨⟨cm,k1,k2,k3⟩,cv,cw,cz,cB⟩:=aQ.out.four;have⟨⟨cc,c1,c2,c3⟩,cd,ce,cf,cg⟩:=aT.out.four;go_wp2_with fail;have d6:ae.wrap (m:Int)=m:=bA (by omega);have dj:w.heap.size≠w3.heap.size:=by omega
   have cl:w3.heap.size≠w.heap.size:=by omega
   go_region_held3(fun w'=>w'.cell? ⟨w3.heap.size,0,none⟩=some (af ae 21)∧w'.cell? ⟨w3.heap.size,1,none⟩=some (ah aO)∧w'.cell? ⟨w3.heap.size,2,none⟩=some (ag none 0 0)∧w'.cell? ⟨w3.heap.size,3,none⟩=some (ag (some ⟨ab.heap.size,0,none⟩) 2 2)) (first|go_keep|exact⟨ba,bd,bg,bm⟩) (first|(go_at_call 169;refine(sc bL.out h7 _ (by exact ad.out.I.drew) g L dZ (by exact aV.out.drew)).mono ?_;rintro e aj ⟨eF,rfl,dg,O,aY,b9,dF⟩;obtain⟨cZ,db,cX,c8,-,rfl,-,-,-,-,-,-⟩:=b9.open;have bz:=aa ((aQ.out.call ((aL.refl ad.out.I aV.out).drew.call aY) (by omega)));have cG:=aa ((aT.out.call ((aL.refl ad.out.I aV.out).drew.call aY) (by have:=Y.out.lt;omega)));have cS:=aa (ad.out.drew.call aY);have dw:=aa (dq b9);have bI:=aa (bJ.out.mono aY.le);have dT:w.heap.size<aj.heap.size:=bz.out.has.lt;have es:w3.heap.size<aj.heap.size:=cG.out.has.lt;have⟨⟨co,q1,cq,ct⟩,d7,d8,d9,ea⟩:=bz.out.four;have⟨⟨ba,bd,bg,bm⟩,ch,g1,ci,cj⟩:=cG.out.four;clear aY b9));have hy:w.heap.size<aj.heap.size+1:=by omega
   go_wp2_with fail;refine aF (v:=aq #[af ae 21,ah aN,ag none 0 0,ag (some ⟨aj.heap.size,0,none⟩) 2 2]) (by simp[results,j1,go_sem,co,q1,cq,ct,dT]) rfl ?_;have bT:=(cS.out.aM (an _) bz.out.no (af ae 21) (ah aN) (ag none 0 0) (ag (some ⟨aj.heap.size,0,none⟩) 2 2)).lay [af ae 21,ah aO,ag none 0 0,ag (some ⟨ab.heap.size,0,none⟩) 2 2,af ae O.kind,ah O.text,ag cZ O.leads.length db,ag cX O.kids.length c8] 26 aj.heap.size (by simp[ef]);have a4:dg.le (dg.add aj.heap.size ([af ae 21,ah aO,ag none 0 0,ag (some ⟨ab.heap.size,0,none⟩) 2 2,af ae O.kind,ah O.text,ag cZ O.leads.length db,ag cX O.kids.length c8]:List Value).toArray):=Hp.eG _ cS.out.I.iI;exact⟨_,rfl,_,.node 21 aN [] [(.node 21 aO [] [A,a5]),O],bT,jL (jM _ _ _) ((aJ.one (bI.out.mono a4)).append (aJ.one (dw.out.mono a4))) 2 rfl (by simp) _ (by unfold aG;omega) _,HI bp.out bN.out cU dE dF (by omega)⟩
 iterate 2
  ·have⟨⟨cm,k1,k2,k3⟩,cv,cw,cz,cB⟩:=aP.out.four;have⟨⟨cc,c1,c2,c3⟩,cd,ce,cf,cg⟩:=aS.out.four;go_wp2_with fail;have d6:ae.wrap (m:Int)=m:=bA (by omega);have dj:w.heap.size≠w3.heap.size:=by omega
   have cl:w3.heap.size≠w.heap.size:=by omega
   go_region_held3(fun w'=>w'.cell? ⟨w3.heap.size,0,none⟩=some (af ae A.kind)∧w'.cell? ⟨w3.heap.size,1,none⟩=some (ah A.text)∧w'.cell? ⟨w3.heap.size,2,none⟩=some (ag a1 A.leads.length a3)∧w'.cell? ⟨w3.heap.size,3,none⟩=some (ag aZ A.kids.length a2)) (first|go_keep|exact⟨ba,bd,bg,bm⟩) (first|(go_at_call 169;refine(sc bL.out bv _ (by exact ac.out.I.drew) g L dn (by exact ax.out.drew)).mono ?_;rintro e G ⟨eD,rfl,de,M,E,bZ,dD⟩;obtain⟨cY,c9,cV,c6,-,rfl,-,-,-,-,-,-⟩:=bZ.open;have ak:=aa ((aP.out.call ((aL.refl ac.out.I ax.out).drew.call E) (by omega)));have am:=aa ((aS.out.call ((aL.refl ac.out.I ax.out).drew.call E) (by have:=Y.out.lt;omega)));have aB:=aa (ac.out.drew.call E);have du:=aa (dq bZ);have bI:=aa (cM.out.mono E.le);have dm:w.heap.size<G.heap.size:=ak.out.has.lt;have dR:w3.heap.size<G.heap.size:=am.out.has.lt;have⟨⟨co,q1,cq,ct⟩,d7,d8,d9,ea⟩:=ak.out.four;have⟨⟨ba,bd,bg,bm⟩,ch,g1,ci,cj⟩:=am.out.four;clear E bZ));have hy:w.heap.size<G.heap.size+1:=by omega
   go_wp2_with fail;refine aF (v:=aq #[af ae 21,ah aN,ag none 0 0,ag (some ⟨G.heap.size,0,none⟩) 2 2]) (by simp[results,j1,go_sem,co,q1,cq,ct,dm]) rfl ?_;have bT:=(aB.out.aM (an _) ak.out.no (af ae 21) (ah aN) (ag none 0 0) (ag (some ⟨G.heap.size,0,none⟩) 2 2)).lay [af ae A.kind,ah A.text,ag a1 A.leads.length a3,ag aZ A.kids.length a2,af ae M.kind,ah M.text,ag cY M.leads.length c9,ag cV M.kids.length c6] 26 G.heap.size (by simp[ef]);have a4:de.le (de.add G.heap.size ([af ae A.kind,ah A.text,ag a1 A.leads.length a3,ag aZ A.kids.length a2,af ae M.kind,ah M.text,ag cY M.leads.length c9,ag cV M.kids.length c6]:List Value).toArray):=Hp.eG _ aB.out.I.iI;exact⟨_,rfl,_,.node 21 aN [] [A,M],bT,jL (jM _ _ _) ((aJ.one (bI.out.mono a4)).append (aJ.one (du.out.mono a4))) 2 rfl (by simp) _ (by unfold aG;omega) _,Ak bp.out cU dD (by omega)⟩
structure KL(g:Nat)(L:List Int)(h:Hp)(w:World)(b:Nat)(k:Int)(s:ByteArray)(Z:Array Value)(ts:List Tree)(hj:Hp)(v:Value)(vs:List Value)(wr:World):Prop where
 st:aL g L h w hj wr
 own:Ow wr hj w.heap.size 26 4 v ts.length vs
 enc:aJ (bg hj) ts vs
 bx:Bx hj wr b #[af ae k,ah s,ag none 0 0,v]
 rb:Bx hj wr w.heap.size Z
 ne:v.ownBlock≠some b
 nz:v.ownBlock≠some w.heap.size
 lo:w.heap.size<b
section
variable {g:Nat} {L:List Int} {h hj hz:Hp} {w wr wz w3:World} {b m:Nat} {k:Int} {s:ByteArray} {Z:Array Value} {ts tn:List Tree} {v v':Value} {vs news:List Value}
theorem Ow.dst{B:Nat}{T:TypeId}{q n:Nat}(o:Ow wr hj B T q v n vs)(S:aL g L hj wr hz wz)(E:g<B):Ow wz hz B T q v n vs:=
 o.U (fun x A=>S.gr.block x (o.lt x A).2 (fun e=>by have:=(o.lt x A).1;have:=aU e;omega)) (fun x A=>S.aI x (o.lt x A).2)
theorem KL.pG(K:KL g L h w b k s Z ts hj v vs wr)(S:aL g L hj wr hz wz):Ow wz hz w.heap.size 26 4 v ts.length vs:=K.own.dst S K.st.lt
theorem KL.gb(K:KL g L h w b k s Z ts hj v vs wr):b≠g∧w.heap.size≠g:=by have:=K.lo;have:=K.st.lt;omega
theorem KL.fR(K:KL g L h w b k s Z ts hj v vs wr)(S:aL g L hj wr hz wz):Bx hz wz b #[af ae k,ah s,ag none 0 0,v]:=K.bx.call S K.gb.1
theorem KL.vn(K:KL g L h w b k s Z ts hj v vs wr)(S:aL g L hj wr hz wz):Bx hz wz w.heap.size Z:=K.rb.call S K.gb.2
theorem aL.grown{M:Option Nat}(S:aL g L h w hj wr)(A:wr.grownBy wz M)(G:∀q,M=some q→w.heap.size≤q∧hj q=none):aL g L h w hj wz:=by obtain⟨n,d⟩:=S.bj;have O:=S.lt;refine⟨kc S.gr A (fun q Y=> .inr (G q Y).1),S.I.U fun x c E=>A.block x (cD (S.I x c E)) (fun e=>by rw[(G x e.symm).2]at E;cases E),S.le,S.aI,O,n,?_⟩;exact d.U (A.block g d.lt (fun e=>by have:=(G g e.symm).1;omega)) A.size (Hp.le_refl _) d.free
theorem Bx.grown{G:Option Nat}{c:Array Value}(x:Bx hj wr b c)(A:wr.grownBy w3 G)(E:G≠some b):Bx hj w3 b c:=
 ⟨⟨Nat.lt_of_lt_of_le x.has.lt A.size,fun o=>(A.cellOf x.has.lt E).1.trans (x.has.cl o),fun o=>(A.cellOf x.has.lt E).2.trans (x.has.fz o)⟩,x.no⟩
theorem KL.next(K:KL g L h w b k s Z ts hj v vs wr)(S:aL g L hj wr hz wz)(ao:Ow w3 hz w.heap.size 26 4 v' (ts.length+m) (vs++news))(A:wz.grownBy w3 v.ownBlock)(G:v'.ownBlock=v.ownBlock∨v'.ownBlock=some wz.heap.size)(ad:aJ (bg hz) tn news)(aj:tn.length=m):KL g L h w b k s Z (ts++tn) hz v' (vs++news) (w3.setCell ⟨b,3,none⟩ v'):=by
 subst aj;have ac:=K.st.call S;have ab:aL g L h w hz w3:=ac.grown A (fun q E=>⟨(K.own.lt q E).1,by rw[S.aI q (K.own.lt q E).2];exact K.own.free q E⟩);have M:=(K.fR S).grown A K.ne;have Y:=(K.vn S).grown A K.nz;have ax:=(K.fR S).has.lt;have l2:=(K.vn S).has.lt;have ak:=K.lo
 have O:v'.ownBlock≠some b:=fun e=>by
  rcases G with h1|h1;·exact K.ne (by rw[←h1,e])
  ·rw[h1]at e;have:=aU e;omega
 have am:v'.ownBlock≠some w.heap.size:=fun e=>by
  rcases G with h1|h1;·exact K.nz (by rw[←h1,e])
  ·rw[h1]at e;have:=aU e;omega
 refine⟨ab.setCell (p:=⟨b,3,none⟩) (by show w.heap.size≤b;omega) (K.fR S).no v',?_,(K.enc.mono fun _ _ r=>r.mono S.le).append ad,?_,⟨Y.has.ne (by omega) 3 v',Y.no⟩,O,am,ak⟩;·rw[List.length_append];exact ao.setCell (p:=⟨b,3,none⟩) O v'
 ·have:=M.has.qo 3 (by simp) v';exact⟨by simpa using this,M.no⟩
theorem KL.fin(K:KL g L h w b k s Z ts hj v vs wr)(ad:aG k)(ax:ts.length≤1000)(v0 M O Y:Value):∃h',aL g L h w h' ((((wr.setCell ⟨w.heap.size,0,none⟩ v0).setCell ⟨w.heap.size,1,none⟩ M).setCell ⟨w.heap.size,2,none⟩ O).setCell ⟨w.heap.size,3,none⟩ Y)∧aP h' (aq #[af ae k,ah s,ag none 0 0,v]) (.node k s [] ts):=by
 have A:=K.st.aM (an _) K.rb.no v0 M O Y;have ao:=(((K.own.setCell (p:=⟨w.heap.size,0,none⟩) K.nz v0).setCell (p:=⟨w.heap.size,1,none⟩) K.nz M).setCell (p:=⟨w.heap.size,2,none⟩) K.nz O).setCell (p:=⟨w.heap.size,3,none⟩) K.nz Y;obtain⟨h',ak,G,ab,am⟩:=ao.giveUp A.I (by omega);obtain⟨a,c,rfl⟩:=K.own.shape;obtain⟨n,d⟩:=A.bj;have ac:=A.lt;refine⟨h',⟨A.gr,ak,Hp.le_trans A.le G,fun x aj=> ?_,ac,n,d.U rfl (an _) G ?_⟩,[af ae k,ah s,ag none 0 0,ag a ts.length c],rfl,?_⟩;·rw[ab x (fun q E e=>by have:=(K.own.lt q E).1;omega)];exact A.aI x aj
 ·rw[ab g (fun q E e=>by have:=(K.own.lt q E).1;omega)];exact d.free
 ·rw[bg];exact⟨none,0,a,c,vs,rfl,ad,Sl.nil _ _ _ _,am,eH.iff.2 (K.enc.mono fun _ _ r=>r.mono G)⟩
theorem KL.call(K:KL g L h w b k s Z ts hj v vs wr)(S:aL g L hj wr hz wz):KL g L h w b k s Z ts hz v vs wz:=
 ⟨K.st.call S,K.pG S,K.enc.mono fun _ _ r=>r.mono S.le,K.fR S,K.vn S,K.ne,K.nz,K.lo⟩
theorem KL.start(S:aL g L h w hj wr)(R:Bx hj wr w.heap.size Z)(k:Int)(s:ByteArray):KL g L h w wr.heap.size k s Z [] hj (ag none 0 0) [] (wr.alloc (.cells #[af ae k,ah s,ag none 0 0,ag none 0 0] 26)):=
 ⟨S.alloc _,Ow.nil _ _ _ _ _,rfl,Bx.new S.I _ _,R.alloc _,by simp[bW],by simp[bW],R.has.lt⟩
end
def eP(m:Nat):Prop:=∀(t:Tree) (_:t.size≤m) (_:RT t) (h:Hp) (B:Nat) (w:World) (v:Value) (n:Nat) (xs:List Value) (_:bN h B w v n xs v w) (_:n+9*t.size≤4000000) (tv:Value) (_:aP h tv t),
 Calls ai 173 #[v,tv] w (e9 h B w v n t.size)
theorem vm(m:Nat)(aQ:eP m)(t:Tree)(ba:∀i (ce:i<t.kids.length),t.kids[i].size≤m)(aN:RT t)(h:Hp)(B:Nat)(w:World)(v:Value)(n:Nat)(xs:List Value)(p:bN h B w v n xs v w)(tv:Value)(aJ:aP h tv t)(E:Nat)(cl:E≤t.kids.length)(G:Int)(cc:0≤G)(cd:G≤100)(ci:n+9*ax (t.kids.take E)+1≤4000000):Calls ai 199 #[v,tv,af ae 0,af ae E,af ae G] w (HT h B w v n (ax (t.kids.take E))):=by
 have aT:=aa aQ;have bq:=aa ba;have bz:=aa aN;have bv:=aa aN.2;have bE:=aa p;have bC:=aa aJ;obtain⟨am,ao,ak,ck,cA,rfl,bG,ch,cg,bJ,bd,a8⟩:=aJ.open;have bB:=aa bd;have bp:=aa a8;have aY:=aa (PX.start p #[af ae t.kind,ah t.text,ag am t.leads.length ao,ag ak t.kids.length ck] 26);clear aQ ba aN p aJ bJ bd a8 bG;go_enter Tryz.func199,Tryz.ntmps199;go_wp2_with fail;go_loopw[0,11,13,14,15,16,17,18,19,20,21,22,23,24,25,26,27,28,29,30,31,32,33,34,35,36,37,38,39] (fun lv i _ _ _ _ _ _ _ _ _ _ _ _ _ _ _ _ _ _ _ _ _ _ _ _ _ _ _ wr=>∃(j n':Nat) (fF:List Value),j≤E∧i=af ae j∧PX h B w.heap.size #[af ae t.kind,ah t.text,ag am t.leads.length ao,ag ak t.kids.length ck] (w.alloc (.cells #[af ae t.kind,ah t.text,ag am t.leads.length ao,ag ak t.kids.length ck] 26)) v n' fF lv wr∧n'≤n+9*ax (t.kids.take j)) (fun _ i _ _ _ _ _ _ _ _ _ _ _ _ _ _ _ _ _ _ _ _ _ _ _ _ _ _ _ _=>E-(intOf i).toNat);case atStart=>exact⟨0,n,xs,aW _,rfl,aY.out,by omega⟩
 case round=>
  obtain⟨j,bO,bV,cf,rfl,Y,bH⟩:=hrel;have A:=aa Y;obtain⟨⟨ab,ac,ad,aj⟩,-⟩:=Y.has.four;have O:=Y.has.lt;clear Y aY;by_cases hj:j<E
  ·obtain⟨b,cm,bZ,b9,bY,b0,rfl,bg,aG⟩:=ed bB.out bp.out j (by omega);have aV:=aa bg;have aS:=aa aG;obtain⟨a2,a3,a4,a5⟩:=aG wr A.out.ps.I;have a9:=aa (bq.out j (by omega));have aZ:=aa (bz.out.b4 j (by omega));have aL:=eY t.kids j (by omega);have bL:ax (t.kids.take (j+1))≤ax (t.kids.take E):=by have:=jK (t.kids.take E) (j+1);rwa[List.take_take,Nat.min_eq_left (by omega)]at this
   have aX:=aa aL;rw[aL]at bL;have co:(0:Int)≤(j:Int):=by omega
   have cq:(j:Int)<(t.kids.length:Int):=by omega
   have ct:(j:Int)<(E:Int):=by omega
   clear bg aG aL;rcases Nat.eq_zero_or_pos j with aB|aB
   ·have bR:¬(0:Int)<(j:Int):=by omega
    have cu:decide ((0:Int)<(j:Int))=false:=by simp;omega
    have bX:=aa aB;clear aB
    go_wp2_with(first
     |(go_at_call 173;refine(aT.out t.kids[j] a9.out aZ.out h B _ _ _ _ A.out.ga (by omega) _ aV.out).mono ?_;rintro e bT ⟨bS,aM,aO,rfl,M,bI⟩;replace A:=aa (A.out.call M);have⟨⟨ab,ac,ad,aj⟩,_⟩:=A.out.has.four;have O:=A.out.has.lt;clear M))
    go_roundw;case rel=>exact⟨j+1,aM,aO,by omega,by go_num,A.out,by rw[aX.out];omega⟩
    case measure=>simp[intOf];omega
   ·have bR:(0:Int)<(j:Int):=by omega
    have q1:ae.wrap (G+(j:Int))=G+(j:Int):=bA (by omega)
    go_wp2_with(first
     |(go_at_call 198;refine(dn h _ A.out.ps.I _ t bC.out bv.out _ (by omega)).mono ?_;rintro e cw ⟨⟨cn,rfl,cj⟩,a1⟩;replace A:=aa (A.out.below a1);have⟨⟨ab,ac,ad,aj⟩,_⟩:=A.out.has.four;have O:=A.out.has.lt;have⟨a2,a3,a4,a5⟩:=aS.out _ A.out.ps.I;clear a1)
     |(at_builtin;refine A.out.ky 1 ?_;intro cv cz bm;replace A:=aa bm;have⟨⟨ab,ac,ad,aj⟩,_⟩:=A.out.has.four;have O:=A.out.has.lt;have⟨a2,a3,a4,a5⟩:=aS.out _ A.out.ps.I;clear bm)
     |(go_at_call 173;refine(aT.out t.kids[j] a9.out aZ.out h B _ _ _ _ A.out.ga (by omega) _ aV.out).mono ?_;rintro e bT ⟨bS,aM,aO,rfl,M,bI⟩;replace A:=aa (A.out.call M);have⟨⟨ab,ac,ad,aj⟩,_⟩:=A.out.has.four;have O:=A.out.has.lt;clear M))
    go_roundw;case rel=>exact⟨j+1,aM,aO,by omega,by go_num,A.out,by rw[aX.out];omega⟩
    case measure=>simp[intOf];omega
  ·obtain rfl:j=E:=by omega
   go_wp2_with fail;go_ret;exact⟨_,bO,bV,rfl,A.out.fin bE.out,bH⟩
end Go.Proofs.YtdplggpbgommnaaGreatDoor
