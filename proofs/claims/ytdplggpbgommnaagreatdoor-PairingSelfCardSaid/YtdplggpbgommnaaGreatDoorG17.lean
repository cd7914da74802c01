/- A side of pairing.Pair: its box, its definitions, its maps of names; the closures that read it. -/
import Derived.Test.YtdplggpbgommnaaGreatDoorG16
import Derived.Test.YtdplggpbgommnaaGreatDoorAsg
import Derived.Lib.AppendIntMem
import Derived.Lib.LaidSlice
import Derived.LaidMore
import Derived.Shelf.Unicode.PredsPay
open Array renaming getElem?_eq_none→iF
open Go renaming bodyPost_ret→aF,heap_alloc_old→oi,laidMet→oF,results→aH
open Go.Builtin renaming len_→Kt
open Go.Instr renaming next→vZ
open Go.IntKind renaming i64→ae
open Go.Lib renaming PrintTabs→fq,byteCells→vB,goPrintTabs→fL,hid→aa,itoa→eQ
open Go.Lib.laidMet renaming reads→py
open Go.Proofs.Tryz renaming prog→ai,quoL_ren→dM,quoL→B9,underlying97→qH
open Go.RowKit.Below renaming refl→aD
open Go.Value renaming bool→ay,int→af,pointer→az,slice→ag,string→ah,tuple→bD
open Go.Value.slice renaming injEq→bU
open Go.World renaming drew→dd,iterSeen→KB
open List renaming all_eq_true→j4,ext_getElem?→lF,filter_congr→Ca,filter_cons→qG,getD_eq_getElem?_getD→bb,getElem?_cons_zero→bc,getElem?_eq_getElem→aE,getElem?_mapIdx→px,getElem?_map→jB,getElem?_toArray→bw,mem_iff_getElem→ij,mem_of_getElem?→nw,mem_range→ee,nodup_range→B4,range→aw
open Nat renaming add_assoc→bP,le_refl→an,le_trans→b5,lt_of_lt_of_le→bK
open Option renaming getD_some→fs,map_map→vJ,map_some→fa
open Option.some renaming injEq→aC,inj→aU
set_option maxRecDepth 100000
set_option maxHeartbeats 4000000
namespace Go.Proofs.YtdplggpbgommnaaGreatDoor
open Go.RowKit
def kq(h:Hp)(d:cF)(cs:List Value):Prop:=∃r,cs=[af ae d.J,af ae d.number]++r∧bg h d.t r
theorem kq.len{h:Hp}(d:cF)(cs:List Value)(e:kq h d cs):cs.length=6:=by obtain⟨r,rfl,q⟩:=e;simp[bg.len _ _ q]
theorem kq.mono{h h':Hp}(A:h.le h'){d:cF}{cs:List Value}(e:kq h d cs):kq h' d cs:=by obtain⟨r,e,q⟩:=e;exact⟨r,e,q.mono A⟩
def lZ(h:Hp)(v:Value)(l:List cF):Prop:=∃cs,Sl h v l.length 6 cs∧aJ (kq h) l cs
theorem lZ.mono{h h':Hp}(A:h.le h'){v:Value}{l:List cF}(s:lZ h v l):lZ h' v l:=by obtain⟨cs,h1,h2⟩:=s;exact⟨cs,h1.mono A,h2.mono fun _ _ r=>r.mono A⟩
theorem lZ.open{h:Hp}{v:Value}{l:List cF}(ax:lZ h v l):∃a Y,v=ag a l.length Y∧l.length≤140737488355328∧
  ∀w,ao h w→∀i (ab:i<l.length),∃b A M O G ck,a=some ⟨b,A,none⟩∧b<w.heap.size∧w.cell? ⟨b,A+i*6,none⟩=some (af ae l[i].J)∧w.cell? ⟨b,A+i*6+1,none⟩=some (af ae l[i].number)∧
   w.cell? ⟨b,A+i*6+2,none⟩=some (af ae l[i].t.kind)∧w.cell? ⟨b,A+i*6+3,none⟩=some (ah l[i].t.text)∧w.cell? ⟨b,A+i*6+4,none⟩=some (ag M l[i].t.leads.length O)∧w.cell? ⟨b,A+i*6+5,none⟩=some (ag G l[i].t.kids.length ck)∧
   aP h (.agg #[af ae l[i].t.kind,ah l[i].t.text,ag M l[i].t.leads.length O,ag G l[i].t.kids.length ck]) l[i].t:=by
 obtain⟨cs,s,e⟩:=ax;obtain⟨a,Y,rfl,ak⟩:=s.shape;refine⟨a,Y,rfl,ak,fun w aj i ab=> ?_⟩;obtain⟨b,A,rfl,ad,E⟩:=s.cells aj (by omega);obtain⟨aB,⟨r,rfl,ac⟩,h2⟩:=e.at 6 kq.len i ab;have am:=ac;obtain⟨M,O,G,ck,xs,rfl,aG⟩:=bg.iff.1 am;refine⟨b,A,M,O,G,ck,rfl,ad,?_,?_,?_,?_,?_,?_,⟨_,rfl,ac⟩⟩;·exact E _ _ (h2 0 (by omega))
 ·rw[bP];exact E _ _ (h2 1 (by omega))
 ·rw[bP];exact E _ _ (h2 2 (by omega))
 ·rw[bP];exact E _ _ (h2 3 (by omega))
 ·rw[bP];exact E _ _ (h2 4 (by omega))
 ·rw[bP];exact E _ _ (h2 5 (by omega))
structure cC(h:Hp)(b:Nat)(ts:List Tree)(mr:List Nat)(mv av kv:Value):Prop where
 box:∃tv nv dv,h b=some #[tv,nv,dv,mv,av,kv]∧hQ h tv ts∧lZ h dv (aj 0 ts)∧hV h nv ((aw ts.length).map fun i=>Value.map (some (mr.getD i 0)))
def iz(w:World)(mr:List Nat)(ts:List Tree):Prop:=∀i,i<ts.length→aS dQ w (mr.getD i 0) (bX (ts.getD i default).kids)
theorem iz.tu{S:Nat→Prop}{w w1:World}{mr:List Nat}{ts:List Tree}(m:iz w mr ts)(t:Tu S w w1)(E:∀i,i<ts.length→¬S (mr.getD i 0)):iz w1 mr ts:=fun i A=>(m i A).tu t (E i A)
theorem cC.mono{h h':Hp}(A:h.le h'){b:Nat}{ts:List Tree}{mr:List Nat}{mv av kv:Value}(k:cC h b ts mr mv av kv):cC h' b ts mr mv av kv:=by obtain⟨tv,O,E,h1,h2,G,M⟩:=k.box;exact⟨tv,O,E,A _ _ h1,h2.mono A,G.mono A,M.mono A⟩
theorem aS.qL{K:Type}{enc:K→Value}{w:World}{r:Nat}{l:List (K×Value)}(m:aS enc w r l){T k e:TypeId}(A:ai.underlying T=some (.map k e))(E:TypeId):(Kt #[T] E #[.map (some r)]).run ai w= .ok (af ae l.length) w:=by unfold aS at m;simp[Kt,run_underlying A,getObj,Sem.run,m,cG,ug,goInt]
section
variable {h:Hp} {w:World} {sb cb:Nat} {ts:List Tree} {mr:List Nat} {mv av kv:Value}
theorem cC.lh(Y:ao h w)(K:cC h sb ts mr mv av kv)(i:Nat)(ab:i<(aj 0 ts).length):∃b A n O G M E ck,w.cell? ⟨sb,2,none⟩=some (ag (some ⟨b,A,none⟩) n O)∧i<n∧n≤140737488355328∧b<w.heap.size∧sb<w.heap.size∧w.cell? ⟨b,A+i*6,none⟩=some (af ae ((aj 0 ts).getD i default).J)∧w.cell? ⟨b,A+i*6+1,none⟩=some (af ae ((aj 0 ts).getD i default).number)∧w.cell? ⟨b,A+i*6+2,none⟩=some (af ae ((aj 0 ts).getD i default).t.kind)∧w.cell? ⟨b,A+i*6+3,none⟩=some (ah ((aj 0 ts).getD i default).t.text)∧w.cell? ⟨b,A+i*6+4,none⟩=some (ag G ((aj 0 ts).getD i default).t.leads.length M)∧w.cell? ⟨b,A+i*6+5,none⟩=some (ag E ((aj 0 ts).getD i default).t.kids.length ck)∧aP h (.agg #[af ae ((aj 0 ts).getD i default).t.kind,ah ((aj 0 ts).getD i default).t.text,ag G ((aj 0 ts).getD i default).t.leads.length M,ag E ((aj 0 ts).getD i default).t.kids.length ck]) ((aj 0 ts).getD i default).t:=by
 obtain⟨tv,aJ,aG,ac,-,am,-⟩:=K.box;obtain⟨a,O,rfl,ax,ak⟩:=am.open;obtain⟨b,A,G,M,E,ck,rfl,aB,ad,c1,c2,c3,c4,c5,tv⟩:=ak w Y i ab;have e:(aj 0 ts).getD i default=(aj 0 ts)[i]:=by simp[bb,aE ab]
 rw[e];exact⟨b,A,_,O,G,M,E,ck,cu Y ac 2,ab,ax,aB,cD (Y _ _ ac),ad,c1,c2,c3,c4,c5,tv⟩
theorem yr(E:ao h w)(K:cC h sb ts mr mv av kv)(G:Has w cb #[az (some ⟨sb,0,none⟩)])(i:Nat)(O:i<ts.length):Calls ai 50 #[af ae i,az (some ⟨cb,0,none⟩)] w (oL (eC ts i) w):=by
 obtain⟨tv,aJ,aB,A,⟨cs,st,M⟩,-,-⟩:=K.box;obtain⟨a,ac,rfl,aG⟩:=st.shape;obtain⟨b,ad,am,ax,ak,ck,rfl,aO,-,c1,-⟩:=j9 st M E i O;have aj:=G.cl 0;have aQ:=G.lt;simp only[bw,bc]at aj;have aL:w.cell? ⟨sb,0,none⟩=some (ag (some ⟨b,ad,none⟩) ts.length ac):=cu E A 0;have aP:=cD (E _ _ A);have aM:(0:Int)≤(i:Int):=by omega
 have aN:(i:Int)<(ts.length:Int):=by omega
 have e:(ts.getD i default).text=ts[i].text:=by simp[bb,aE O]
 generalize ts[i].text=Y at c1 e;generalize ts.length=n at*;have ab:=aa e;clear e st M K G A;go_enter Tryz.func50,Tryz.ntmps50;go_wp2_with fail;refine aF (v:=bD #[dA (0,0,Y),ay true]) (by simp[aH,Tryz.results50,go_sem,dA]) rfl ?_;exact⟨(0,0,Y),true,rfl,by rw[eC,ab.out];rfl,(aD _ _).alloc (an _) _⟩
theorem ys(sb:Nat):Calls ai 49 #[az (some ⟨sb,0,none⟩)] w fun e w'=>∃g,e= .returned (.func (.func 50) #[] #[az (some ⟨g,0,none⟩)])∧Has w' g #[az (some ⟨sb,0,none⟩)]∧Below w.heap.size w w'∧w.heap.size≤g:=by go_enter Tryz.func49,Tryz.ntmps49;go_wp2_with fail;go_ret;exact⟨_,rfl,Has.new _ _ _,(aD _ _).alloc (an _) _,an _⟩
theorem yt(sb:Nat):Calls ai 52 #[az (some ⟨sb,0,none⟩)] w fun e w'=>∃g,e= .returned (.func (.func 53) #[] #[az (some ⟨g,0,none⟩)])∧Has w' g #[az (some ⟨sb,0,none⟩)]∧Below w.heap.size w w'∧w.heap.size≤g:=by go_enter Tryz.func52,Tryz.ntmps52;go_wp2_with fail;go_ret;exact⟨_,rfl,Has.new _ _ _,(aD _ _).alloc (an _) _,an _⟩
theorem yu(sb:Nat):Calls ai 59 #[az (some ⟨sb,0,none⟩)] w fun e w'=>∃g,e= .returned (.func (.func 60) #[] #[az (some ⟨g,0,none⟩)])∧Has w' g #[az (some ⟨sb,0,none⟩)]∧Below w.heap.size w w'∧w.heap.size≤g:=by go_enter Tryz.func59,Tryz.ntmps59;go_wp2_with fail;go_ret;exact⟨_,rfl,Has.new _ _ _,(aD _ _).alloc (an _) _,an _⟩
theorem yv(sb:Nat):Calls ai 61 #[az (some ⟨sb,0,none⟩)] w fun e w'=>∃g,e= .returned (.func (.func 62) #[] #[az (some ⟨g,0,none⟩)])∧Has w' g #[az (some ⟨sb,0,none⟩)]∧Below w.heap.size w w'∧w.heap.size≤g:=by go_enter Tryz.func61,Tryz.ntmps61;go_wp2_with fail;go_ret;exact⟨_,rfl,Has.new _ _ _,(aD _ _).alloc (an _) _,an _⟩
theorem yw(O:ao h w)(K:cC h sb ts mr mv av kv)(A:Has w cb #[az (some ⟨sb,0,none⟩)])(i:Nat)(E:i<(aj 0 ts).length):Calls ai 60 #[af ae i,az (some ⟨cb,0,none⟩)] w (oL (iw (aj 0 ts) i) w):=by
 obtain⟨b,aG,n,ak,ad,am,ac,ck,aJ,Y,ax,aN,aO,-,-,c2,c3,-⟩:=K.lh O i E;have ab:=A.cl 0;have aP:=A.lt;simp only[bw,bc]at ab;have aL:(0:Int)≤(i:Int):=by omega
 have aM:(i:Int)<(n:Int):=by omega
 have M:Hid (iw (aj 0 ts) i=some (0,((aj 0 ts).getD i default).t.kind,((aj 0 ts).getD i default).t.text)):=rfl;generalize iw (aj 0 ts) i=aB at*;generalize((aj 0 ts).getD i default).t.kind=k at*;generalize((aj 0 ts).getD i default).t.text=G at*;clear K A E Y;go_enter Tryz.func60,Tryz.ntmps60;go_wp2_with fail;refine wp_region_still_tail 19 (by kernel_rfl) (by kernel_rfl) ?_;simp only[List.take_succ_cons,List.take_zero,List.drop_succ_cons,List.drop_zero];change wpStill _ _ (dd _) (fun a'=>wpList _ _ _ _ a' (dd _)) _ _;repeat still_step
 refine wpStill_nil ?_;go_wp2_with fail;refine aF (v:=bD #[dA (0,k,G),ay true]) (by simp[aH,Tryz.results60,go_sem,dA]) rfl ?_;exact⟨(0,k,G),true,rfl,M.out,((aD _ _).alloc (an _) _).drew⟩
theorem yx(G:ao h w)(K:cC h sb ts mr mv av kv)(A:Has w cb #[az (some ⟨sb,0,none⟩)])(i:Nat)(M:i<(aj 0 ts).length)(aJ:((aj 0 ts).getD i default).t.size≤1000000):Calls ai 62 #[af ae i,az (some ⟨cb,0,none⟩)] w (nB (ix (aj 0 ts) i) w):=by
 obtain⟨b,aL,n,ax,am,aB,ak,ck,aN,ac,aG,aS,aT,-,-,c2,c3,c4,c5,tv⟩:=K.lh G i M;have ad:=A.cl 0;have aV:=A.lt;simp only[bw,bc]at ad;have aO:(0:Int)≤(i:Int):=by omega
 have aP:(i:Int)<(n:Int):=by omega
 have ab:Hid (ix (aj 0 ts) i=((aj 0 ts).getD i default).t.size):=rfl;generalize ix (aj 0 ts) i=aM at*;generalize(aj 0 ts).getD i default=d at*;have Y:=aa (nK d.t.size h w G _ d.t tv (an _) (by omega));clear K A M ac tv;go_enter Tryz.func62,Tryz.ntmps62;go_wp2_with(go_at_call 47;refine Y.out.mono ?_;rintro e aQ ⟨rfl,E⟩;have O:=aa E;clear E);go_ret;exact⟨by rw[ab.out];rfl,O.out⟩
theorem yy(E:ao h w)(K:cC h sb ts mr mv av kv)(ac:iz w mr ts)(G:Has w cb #[az (some ⟨sb,0,none⟩)])(i:Nat)(O:i<ts.length)(_hs:(bX (ts.getD i default).kids).length≤1000000):Calls ai 53 #[af ae i,az (some ⟨cb,0,none⟩)] w (nB (countP ts i) w):=by
 obtain⟨tv,aM,aB,A,-,-,Y⟩:=K.box;obtain⟨a,ad,rfl,aL,M⟩:=Y.at E;obtain⟨bn,aj,rfl,aS,ax,aG⟩:=M i O;have am:=G.cl 0;have aV:=G.lt;simp only[bw,bc]at am;have aO:w.cell? ⟨sb,1,none⟩=some (ag (some ⟨bn,aj,none⟩) ts.length ad):=cu E A 1;have aT:=cD (E _ _ A);have aP:(0:Int)≤(i:Int):=by omega
 have aQ:(i:Int)<(ts.length:Int):=by omega
 have aJ:=fun ak=>(ac i O).qL qH ak;have ab:Hid (countP ts i=((bX (ts.getD i default).kids).length:Int)):=rfl;generalize countP ts i=aN at*;generalize mr.getD i 0=r at*;generalize(bX (ts.getD i default).kids).length=L at*;clear K G A Y M;go_enter Tryz.func53,Tryz.ntmps53;go_wp2_with fail;go_ret;exact⟨by rw[ab.out];rfl,aD _ _⟩
end
structure iU(h:Hp)(w:World)(xb so sn:Nat)(budget:Int):Prop where
 I:ao h w
 lt:xb<w.heap.size
 c0:w.cell? ⟨xb,0,none⟩=some (az (some ⟨so,0,none⟩))
 c1:w.cell? ⟨xb,1,none⟩=some (az (some ⟨sn,0,none⟩))
 c2:w.cell? ⟨xb,2,none⟩=some (af ae budget)
theorem iU.tu{h:Hp}{w w1:World}{xb so sn:Nat}{budget:Int}{S:Nat→Prop}(x:iU h w xb so sn budget)(t:Tu S w w1)(A:∀b,S b→h b=none∧b≠xb):iU h w1 xb so sn budget:=by have k:∀i,w1.cell? ⟨xb,i,none⟩=w.cell? ⟨xb,i,none⟩:=fun i=>World.cell?_of_block (a:=⟨xb,i,none⟩) (t.block xb x.lt fun e=>(A xb e).2 rfl);exact⟨t.I x.I fun b E=>(A b E).1,bK x.lt t.size,(k 0).trans x.c0,(k 1).trans x.c1,(k 2).trans x.c2⟩
theorem iU.below{h:Hp}{w w1:World}{xb so sn:Nat}{budget:Int}(x:iU h w xb so sn budget)(b:Below w.heap.size w w1):iU h w1 xb so sn budget:=x.tu ((Tu.refl (fun _=>False) w).below b) fun _ e=>e.elim
theorem bH.ci{h:Hp}{w:World}{B xb so sn:Nat}{budget:Int}{V:eL→Value}{s:bp}(q:bH h w B xb so sn budget V s):iU h w xb so sn budget:=by obtain⟨A,x,-⟩:=q.box;exact⟨q.I,x.lt,x.cl 0,x.cl 1,x.cl 2⟩
section
variable {h:Hp} {w:World} {xb so sn cb:Nat} {budget:Int} {ts us:List Tree} {mr nr:List Nat} {mv av kv eo eN dR:Value}
theorem FG(x:iU h w xb so sn budget)(K:cC h so ts mr mv av kv)(A:Has w cb #[az (some ⟨xb,0,none⟩)])(i:Nat)(E:i<(aj 0 ts).length):Calls ai 57 #[af ae i,az (some ⟨cb,0,none⟩)] w (oL (la (aj 0 ts) i) w):=by
 obtain⟨b,ax,n,ad,ab,ak,Y,ck,aG,M,am,aM,aO,ac,c1,c2,c3,c4,c5,-⟩:=K.lh x.I i E;have O:=A.cl 0;have aP:=A.lt;simp only[bw,bc]at O;have aB:=x.c0;have aN:=x.lt;have aJ:(0:Int)≤(i:Int):=by omega
 have aL:(i:Int)<(n:Int):=by omega
 have G:Hid (la (aj 0 ts) i=some ((((aj 0 ts).getD i default).J:Int),((aj 0 ts).getD i default).t.kind,((aj 0 ts).getD i default).t.text)):=rfl;generalize la (aj 0 ts) i=ao at*;generalize(aj 0 ts).getD i default=d at*;clear K A E M x;go_enter Tryz.func57,Tryz.ntmps57;go_wp2_with fail;refine aF (v:=bD #[dA (d.J,d.t.kind,d.t.text),ay true]) (by simp[aH,Tryz.results57,go_sem,dA]) rfl ?_;exact⟨(d.J,d.t.kind,d.t.text),true,rfl,G.out,((aD _ _).alloc (an _) _).alloc (by simp) _⟩
theorem FH(x:iU h w xb so sn budget)(K:cC h sn ts mr mv av kv){B:Nat}(nm:List Int)(o:Ow w h B 3 1 mv nm.length (aV nm))(E:Has w cb #[az (some ⟨xb,0,none⟩)])(i:Nat)(Y:i<(aj 0 ts).length)(ab:((aj 0 ts).getD i default).J<nm.length):Calls ai 58 #[af ae i,az (some ⟨cb,0,none⟩)] w (oL (km (aj 0 ts) nm i) w):=by
 have G:=K;obtain⟨b,aS,n,aJ,ax,aL,ao,ck,aX,ak,aN,a4,a9,aG,c1,c2,c3,c4,c5,-⟩:=K.lh x.I i Y;obtain⟨tv,aQ,aM,M,-,-,-⟩:=G.box;obtain⟨aB,ad,rfl⟩:=o.shape;obtain⟨gm,rfl,-,a5,-,O,-⟩:=o.cell (by omega);have aY:w.cell? ⟨sn,3,none⟩=some (ag (some ⟨gm,0,none⟩) nm.length ad):=cu x.I M 3;have am:=E.cl 0;have ba:=E.lt;simp only[bw,bc]at am;have aT:=x.c1;have a8:=x.lt;have aZ:(0:Int)≤(i:Int):=by omega
 have a1:(i:Int)<(n:Int):=by omega
 have ac:Hid (km (aj 0 ts) nm i=if 0≤ge nm ((aj 0 ts).getD i default).J then some (ge nm ((aj 0 ts).getD i default).J,((aj 0 ts).getD i default).t.kind,((aj 0 ts).getD i default).t.text)else none):=rfl;generalize km (aj 0 ts) nm i=aO at*;generalize(aj 0 ts).getD i default=d at*;have aP:w.cell? ⟨gm,d.J,none⟩=some (af ae (ge nm d.J)):=O _ _ (by simp[aV,ge,bb,aE ab]);have a2:(0:Int)≤(d.J:Int):=by omega
 have a3:(d.J:Int)<(nm.length:Int):=by omega
 generalize ge nm d.J=A at*;clear K G E Y ak x M o O ab;go_enter Tryz.func58,Tryz.ntmps58;go_wp2_with fail;go_quiet(fail);go_wp2_with fail;refine aF (v:=bD #[dA (A,d.t.kind,d.t.text),ay (decide (0≤A))]) (by simp[aH,Tryz.results58,go_sem,dA]) rfl ?_;exact⟨(A,d.t.kind,d.t.text),decide (0≤A),rfl,by rw[ac.out];simp,((((((aD _ _).alloc (an _) _).alloc (by simp) _).drewN _).setCell (an _) _).setCell (an _) _).setCell (an _) _⟩
theorem yz(w:World)(c d:Array Value)(t A:TypeId):Has ((w.alloc (.cells c t)).alloc (.cells d A)).drew w.heap.size c∧Has ((w.alloc (.cells c t)).alloc (.cells d A)).drew (w.heap.size+1) d∧Below w.heap.size w ((w.alloc (.cells c t)).alloc (.cells d A)).drew:=
 ⟨((Has.new w c t).alloc _).drew,(Has.kY w _ d A).drew,(((aD _ _).alloc (an _) _).alloc (by simp) _).drew⟩
theorem FI(x:iU h w xb so sn budget)(bG:aG budget)(K:cC h so ts mr mv av kv)(ba:cC h sn us nr eo eN dR)(i j:Nat)(bH:i<(aj 0 ts).length)(hj:j<(aj 0 us).length)(cw:((aj 0 ts).getD i default).t.size≤262144)(sb:((aj 0 us).getD j default).t.size≤262144):Calls ai 63 #[az (some ⟨xb,0,none⟩),af ae i,af ae j] w (nB (hI budget ((aj 0 ts).getD i default).t ((aj 0 us).getD j default).t) w):=by
 obtain⟨b,a1,n,ci,aB,aN,ao,ck,cV,co,cK,db,dg,-,-,c2,c3,c4,c5,bY⟩:=K.lh x.I i bH;obtain⟨b',a2,n',cj,aJ,aP,ax,aM,cX,cq,cM,de,dh,-,-,cB,cD,cE,cF,bZ⟩:=ba.lh x.I j hj;have cQ:=x.c0;have cS:=x.c1;have cu:=x.c2;have b9:=x.lt;have X:=aa x;have cc:=aa bG;generalize((aj 0 ts).getD i default).t=A at*;generalize((aj 0 us).getD j default).t=C at*;have bd:=aa bY;have bg:=aa bZ;have cY:(0:Int)≤(i:Int):=by omega
 have cZ:(i:Int)<(n:Int):=by omega
 have c6:(0:Int)≤(j:Int):=by omega
 have c8:(j:Int)<(n':Int):=by omega
 have ak:Hid (hI budget A C=if A.kind=C.kind then(if(A.size:Int)+C.size<bS (2*(bE (aO A) (aO C) budget).cost)then 1048576 else(bE (aO A) (aO C) budget).cost)else 1048576):=rfl;generalize hI budget A C=cU at*;clear K ba x bG bY bZ bH hj co cq;go_enter Tryz.func63,Tryz.ntmps63;go_wp2_with fail;go_region_held3(fun w'=>w'.cell? ⟨xb,0,none⟩=some (az (some ⟨so,0,none⟩))∧w'.cell? ⟨xb,1,none⟩=some (az (some ⟨sn,0,none⟩))∧w'.cell? ⟨so,2,none⟩=some (ag (some ⟨b,a1,none⟩) n ci)∧w'.cell? ⟨sn,2,none⟩=some (ag (some ⟨b',a2,none⟩) n' cj)∧w'.cell? ⟨b,a1+i*6+2,none⟩=some (af ae A.kind)∧w'.cell? ⟨b,a1+i*6+3,none⟩=some (ah A.text)∧w'.cell? ⟨b,a1+i*6+4,none⟩=some (ag aB A.leads.length aN)∧w'.cell? ⟨b,a1+i*6+5,none⟩=some (ag ao A.kids.length ck)∧w'.cell? ⟨b',a2+j*6+2,none⟩=some (af ae C.kind)∧w'.cell? ⟨b',a2+j*6+3,none⟩=some (ah C.text)∧w'.cell? ⟨b',a2+j*6+4,none⟩=some (ag aJ C.leads.length aP)∧w'.cell? ⟨b',a2+j*6+5,none⟩=some (ag ax C.kids.length aM)) (first|(go_keep;done)) (fail)
 all_goals
  first
   |(obtain⟨W,aQ⟩:∃W,W=((w.alloc (.cells #[af ae A.kind,ah A.text,ag aB A.leads.length aN,ag ao A.kids.length ck] 26)).alloc (.cells #[af ae C.kind,ah C.text,ag aJ C.leads.length aP,ag ax C.kids.length aM] 26)).drew:=⟨_,rfl⟩;rw[←aQ];obtain⟨ab,ac,G⟩:=yz w #[af ae A.kind,ah A.text,ag aB A.leads.length aN,ag ao A.kids.length ck] #[af ae C.kind,ah C.text,ag aJ C.leads.length aP,ag ax C.kids.length aM] 26 26;rw[←aQ]at ab ac G;obtain⟨O,aZ⟩:∃g,g=w.heap.size+1:=⟨_,rfl⟩;rw[←aZ]at ac⊢;obtain⟨M,aY⟩:∃g,g=w.heap.size:=⟨_,rfl⟩;rw[←aY]at ab⊢;clear aQ aY aZ;have aT:=aa ab;have aV:=aa ac;clear ab ac)
   |(obtain⟨W,aQ⟩:∃W,W=((w.alloc (.cells #[af ae C.kind,ah C.text,ag aJ C.leads.length aP,ag ax C.kids.length aM] 26)).alloc (.cells #[af ae A.kind,ah A.text,ag aB A.leads.length aN,ag ao A.kids.length ck] 26)).drew:=⟨_,rfl⟩;rw[←aQ];obtain⟨ab,ac,G⟩:=yz w #[af ae C.kind,ah C.text,ag aJ C.leads.length aP,ag ax C.kids.length aM] #[af ae A.kind,ah A.text,ag aB A.leads.length aN,ag ao A.kids.length ck] 26 26;rw[←aQ]at ab ac G;obtain⟨M,aY⟩:∃g,g=w.heap.size+1:=⟨_,rfl⟩;rw[←aY]at ac⊢;obtain⟨O,aZ⟩:∃g,g=w.heap.size:=⟨_,rfl⟩;rw[←aZ]at ab⊢;clear aQ aY aZ;have aT:=aa ac;have aV:=aa ab;clear ab ac)
  have a0:=aT.out.cl 0;have bm:=aT.out.cl 1;have bp:=aT.out.cl 2;have bq:=aT.out.cl 3;have bv:=aV.out.cl 0;have bz:=aV.out.cl 1;have bB:=aV.out.cl 2;have bC:=aV.out.cl 3;simp only[bw,bc,List.getElem?_cons_succ]at a0 bm bp bq bv bz bB bC;have a3:=aT.out.lt;have a4:=aV.out.lt;have cv:=(G.cell (p:=⟨xb,2,none⟩) b9).trans cu;have cA:=bK b9 G.size;have cd:=aa (X.out.I.below G);have G:=aa G;by_cases aX:A.kind=C.kind
  ·have cz:(A.kind !=C.kind)=false:=by simp[aX]
   rw[if_pos aX]at ak;clear aX;go_wp2_with fail;go_region_held3(fun w'=>w'.cell? ⟨xb,2,none⟩=some (af ae budget)∧w'.cell? ⟨M,0,none⟩=some (af ae A.kind)∧w'.cell? ⟨M,1,none⟩=some (ah A.text)∧w'.cell? ⟨M,2,none⟩=some (ag aB A.leads.length aN)∧w'.cell? ⟨M,3,none⟩=some (ag ao A.kids.length ck)∧w'.cell? ⟨O,0,none⟩=some (af ae C.kind)∧w'.cell? ⟨O,1,none⟩=some (ah C.text)∧w'.cell? ⟨O,2,none⟩=some (ag aJ C.leads.length aP)∧w'.cell? ⟨O,3,none⟩=some (ag ax C.kids.length aM)) (first|(go_keep;done)|exact⟨k2,bJ,bL,bN,bO,bR,bT,bV,bX⟩) (first|(go_at_call 64;refine(ua h _ (by exact cd.out.drew) _ _ A C budget cc.out bd.out bg.out cw sb).mono ?_;rintro e am ⟨v,rfl,cG,Y,ct⟩;have k2:=(Y.below.cell (p:=⟨xb,2,none⟩) cA).trans cv;have bJ:=(Y.below.cell (p:=⟨M,0,none⟩) a3).trans a0;have bL:=(Y.below.cell (p:=⟨M,1,none⟩) a3).trans bm;have bN:=(Y.below.cell (p:=⟨M,2,none⟩) a3).trans bp;have bO:=(Y.below.cell (p:=⟨M,3,none⟩) a3).trans bq;have bR:=(Y.below.cell (p:=⟨O,0,none⟩) a4).trans bv;have bT:=(Y.below.cell (p:=⟨O,1,none⟩) a4).trans bz;have bV:=(Y.below.cell (p:=⟨O,2,none⟩) a4).trans bB;have bX:=(Y.below.cell (p:=⟨O,3,none⟩) a4).trans bC;obtain⟨cg,cl,ch,cm,rfl,cN,-,-,-⟩:=ct;have aS:=aa Y;have a5:=bK a3 Y.below.size;have a8:=bK a4 Y.below.size;clear Y;generalize bE (aO A) (aO C) budget=ad at*;have cn:∀w,(Instr.field 76 (.agg #[ag cg ad.aR.length cl,af ae ad.cost,ay ad.gT,af ae ad.a7,ag ch ad.proof.length cm]) 1).run ai w= .ok (af ae ad.cost) w:=fun w=>by kernel_rfl));have ce:=aa fun W (b:Below am.heap.size am W)=>nK A.size h W (aS.out.gq.below b) _ A bd.out (an _) (by omega);have cf:=aa fun W (b:Below am.heap.size am W)=>nK C.size h W (aS.out.gq.below b) _ C bg.out (an _) (by omega);have c9:ae.wrap ((A.size:Int)+(C.size:Int))=(A.size:Int)+(C.size:Int):=bA (by omega);have b0:bS (2*ad.cost)=ae.wrap (2*ad.cost):=by rw[IntKind.wrap_i64,bS,wrap64]
   rw[b0]at ak;clear cn b0;go_wp2_with fail;go_region_held3(fun w'=>w'.cell? ⟨M,0,none⟩=some (af ae A.kind)∧w'.cell? ⟨M,1,none⟩=some (ah A.text)∧w'.cell? ⟨M,2,none⟩=some (ag aB A.leads.length aN)∧w'.cell? ⟨M,3,none⟩=some (ag ao A.kids.length ck)∧w'.cell? ⟨O,0,none⟩=some (af ae C.kind)∧w'.cell? ⟨O,1,none⟩=some (ah C.text)∧w'.cell? ⟨O,2,none⟩=some (ag aJ C.leads.length aP)∧w'.cell? ⟨O,3,none⟩=some (ag ax C.kids.length aM)) (first|(go_keep;done)|exact⟨(E.out.cell a5).trans bJ,(E.out.cell a5).trans bL,(E.out.cell a5).trans bN,(E.out.cell a5).trans bO,(E.out.cell a8).trans bR,(E.out.cell a8).trans bT,(E.out.cell a8).trans bV,(E.out.cell a8).trans bX⟩) (first|(go_at_call 47;(with_reducible refine(ce.out _ (by first|exact E.out|exact(aD _ _).drew)).mono ?_);rintro e a9 ⟨rfl,aL⟩;have E:Hid (Below am.heap.size am a9):=(by first|exact E.out.trans (aL.mono E.out.size)|exact((aD _ _).drew).trans aL);clear aL)|(go_at_call 47;(with_reducible refine(cf.out _ (by first|exact E.out|exact(aD _ _).drew)).mono ?_);rintro e a9 ⟨rfl,aL⟩;have E:Hid (Below am.heap.size am a9):=(by first|exact E.out.trans (aL.mono E.out.size)|exact((aD _ _).drew).trans aL);clear aL))
   all_goals
    by_cases bI:(A.size:Int)+(C.size:Int)<ae.wrap (2*ad.cost);·rw[if_pos bI]at ak;go_wp2_with fail;go_ret;exact⟨by rw[ak.out];rfl,(G.out.drew).trans ((aS.out.below.trans (E.out.mono aS.out.size)).mono G.out.size)⟩
    ·rw[if_neg bI]at ak;go_wp2_with fail;go_ret;exact⟨by rw[ak.out];rfl,(G.out.drew).trans ((aS.out.below.trans (E.out.mono aS.out.size)).mono G.out.size)⟩
  ·have cz:(A.kind !=C.kind)=true:=by simp[aX]
   rw[if_neg aX]at ak;clear aX;go_wp2_with fail;go_ret;exact⟨by rw[ak.out];rfl,G.out⟩
end
theorem Ow.FJ{w:World}{h:Hp}{B:Nat}{e:TypeId}{k n m A:Nat}{a:Option Addr}{xs:List Value}(o:Ow w h B e k (ag a m A) n xs):n≤A:=by
 rcases o.row with⟨h1,⟨E,rfl⟩|⟨O,G,M,E,Y,ad,aj,ab,ac,ak⟩⟩;·omega
 ·simp only[bU]at E;omega
def o1(x:bq):Value:= .agg #[af ae x.J,af ae x.number,af ae x.size,af ae x.a6]
theorem FK(A:List (List Bool))(x:bq)(O:x.number+x.size≤(A.getD x.J []).length):fX A x=(aw x.size).all fun j=> !((A.getD x.J []).getD (x.number+j) false):=by
 unfold fX;generalize A.getD x.J []=l at*;rw[Bool.eq_iff_iff,j4,j4];constructor
 ·intro h j hj;have M:=ee.1 hj;have G:x.number+j<l.length:=by omega
  rw[bb,aE G];exact h _ (ij.2 ⟨j,by simp;omega,by simp⟩)
 ·intro h b E;obtain⟨j,hj,rfl⟩:=ij.1 E;simp at hj;have:=h j (ee.2 (by omega));rw[bb,aE (by omega)]at this;simpa using this
theorem yA{h:Hp}{w:World}(Y:ao h w){B sb:Nat}{tv aV aO mv av kv:Value}(O:h sb=some #[tv,aV,aO,mv,av,kv])(A:List (List Bool))(F:Nat→Value)(am:hV h kv ((aw A.length).map F))(x:bq)(o:Ow w h B 4 1 (F x.J) (A.getD x.J []).length (dZ (A.getD x.J [])))(aS:x.J<A.length)(aT:x.number+x.size≤(A.getD x.J []).length)(a3:0<x.size)(a2:(A.getD x.J []).length≤1000000000):Calls ai 66 #[az (some ⟨sb,0,none⟩),o1 x] w fun e w'=>e= .returned (ay (fX A x))∧Below w.heap.size w w':=by
 rw[FK A x aT];obtain⟨aZ,aM,rfl,a4,aj⟩:=am.at Y;obtain⟨aL,aX,rfl,bz,aN,-⟩:=aj x.J aS;obtain⟨aY,c1,ad⟩:=o.shape;rw[ad]at o aN;have a1:=o.FJ;obtain⟨g,rfl,-,ax,-,ab,-⟩:=o.cell (by omega)
 have aB:Hid (∀j,j<x.size→w.cell? ⟨g,x.number+j,none⟩=some (ay ((A.getD x.J []).getD (x.number+j) false))):=fun j hj=>ab _ _ (by
  generalize A.getD x.J []=l at*;have:x.number+j<l.length:=by omega
  simp only[dZ,jB,bb,aE this,fa,fs])
 have a5:w.cell? ⟨sb,5,none⟩=some (ag (some ⟨aL,aX,none⟩) A.length aM):=cu Y O 5;have bC:=cD (Y _ _ O);obtain⟨m,n,E,c⟩:=x;simp only[o1]at*;generalize aQ:A.getD m []=l at*;have ba:(0:Int)≤(m:Int):=by omega
 have bd:(m:Int)<(A.length:Int):=by omega
 have bg:(0:Int)≤(n:Int):=by omega
 have bm:ae.wrap ((n:Int)+(E:Int))=((n+E:Nat):Int):=by rw[bA (by omega)];omega
 have bp:n≤n+E:=by omega
 have bv:n+E≤c1:=by omega
 clear o ab am aj O aQ ad;go_enter Tryz.func66,Tryz.ntmps66;go_wp2_with fail;go_quiet(fail);go_wp2_with fail;go_loopw[4,6,24,25,26,27,28,29] (fun _ _ i _ _ _ _ _ wr=>∃(j:Nat),j≤E∧i=af ae j∧(∀k,k<j→l.getD (n+k) false=false)∧Below w.heap.size w wr) (fun _ _ i _ _ _ _ _ _=>E-(intOf i).toNat);case atStart=>exact⟨0,Nat.zero_le _,rfl,fun k G=>by omega,((aD _ _).alloc (an _) _).drewN _⟩
 case round=>
  obtain⟨j,hj,rfl,G,bl⟩:=hrel;by_cases ak:j<E
  ·have ac:=(bl.cell (p:=⟨g,n+j,none⟩) ax).trans (aB.out j ak);have bB:=bK ax bl.size;have a8:(0:Int)≤(j:Int):=by omega
   have a9:(j:Int)<(E:Int):=by omega
   have M:=aa bl;have aG:=aa G;clear bl G;cases hx:l.getD (n+j) false with
   |true=>
    rw[hx]at ac;have R:Hid (((aw E).all fun j=> !(l.getD (n+j) false))=false):=by unfold Hid;rw[List.all_eq_false];exact⟨j,ee.2 ak,by rw[hx];simp⟩
    clear hx;go_wp2_with fail;go_ret;exact⟨by rw[R.out];rfl,M.out⟩
   |false=>
    rw[hx]at ac
    have aJ:Hid (∀k,k<j+1→l.getD (n+k) false=false):=fun k G=>by
     by_cases e:k=j;·subst e;exact hx
     ·exact aG.out k (by omega)
    clear hx;go_wp2_with fail;go_roundw;case rel=>exact⟨j+1,by omega,by go_num,aJ.out,M.out⟩
    case measure=>simp[intOf];omega
  ·obtain rfl:j=E:=by omega
   have R:Hid (((aw j).all fun k=> !(l.getD (n+k) false))=true):=by unfold Hid;rw[j4];exact fun k aP=>by rw[G k (ee.1 aP)];rfl
   have M:=aa bl;clear bl G;go_wp2_with fail;go_ret;exact⟨by rw[R.out];rfl,M.out⟩
def cX(x:bq):List Value:=[af ae x.J,af ae x.number,af ae x.size,af ae x.a6]
def hB(kn:List ByteArray):List (ByteArray×Value):=kn.mapIdx fun i k=>(k,af ae (i:Nat))
def j8(s:ByteArray):Value:=ah s
def mB(T:fq)(s:ByteArray):List UInt8:=(Lib.quoteZ T s).map fun n=>UInt8.ofNat n.toNat
def pE(T:fq)(k:Int)(s:ByteArray)(cs:List Nat):List UInt8:=eQ k++([32]++(mB T s++cs.flatMap fun(c:Nat)=>32::eQ c))
def aX(T:fq)(k:Int)(s:ByteArray)(cs:List Nat):ByteArray:=⟨(pE T k s cs).toArray⟩
theorem Cx(kn:List ByteArray):(hB kn).length=kn.length:=by simp[hB]
theorem yE(kn:List ByteArray)(A:ByteArray):bm (hB kn) A=kn.findIdx? fun k=>decide (k=A):=by rw[uh];congr 1;apply lF;intro i;simp only[hB,jB,px,vJ];cases kn[i]? <;>rfl
theorem Cw(kn:List ByteArray)(A:ByteArray):aT (hB kn) A=(kn.findIdx? fun k=>decide (k=A)).map fun i=>af ae (i:Nat):=by
 unfold aT;rw[yE];cases h:kn.findIdx? fun k=>decide (k=A)with
 |none=>rfl
 |some i=>have E:=(List.findIdx?_eq_some_iff_getElem.1 h).1;simp[hB,px,E]
theorem Cs(kn:List ByteArray)(A:ByteArray)(h:(kn.findIdx? fun k=>decide (k=A))=none):aY (hB kn) A (af ae (kn.length:Nat))=hB (kn++[A]):=by unfold aY;rw[yE,h];simp[hB,List.mapIdx_append]
structure yF(T:fq)(w:World):Prop where
 FN:Lib.TabIs ai w "internal/strconv.uint64pow10" .u64 Lib.pow10Tab
 print:Lib.PrintTabsAt (dM.g 20) (dM.g 21) (dM.g 22) (dM.g 23) T w
 FO:Lib.Utf8Tabs (dM.g 3) (dM.g 4) w
def Tb(T:fq)(N:Nat)(w:World):Prop:=N≤w.heap.size∧∀w',Below N w w'→yF T w'
theorem Tb.below{T:fq}{N:Nat}{w w':World}(t:Tb T N w)(b:Below N w w'):Tb T N w':=⟨b5 t.1 b.size,fun v c=>t.2 v (b.trans c)⟩
theorem Tb.uC{T:fq}{N:Nat}{w:World}(t:Tb T N w):yF T w:=t.2 w (aD _ _)
theorem wA{T:fq}{N:Nat}{w:World}(t:Tb T N w)(n:Int)(h:aG n):Calls ai 153 #[af ae n] w fun e w'=>e= .returned (ah ⟨(eQ n).toArray⟩)∧Below w.heap.size w w':=by refine(Any.strconv_Itoa Tryz.itoaL n h.1 h.2 w t.uC.FN).mono ?_;rintro e w' ⟨rfl,k,os,rfl⟩;exact⟨rfl,Lib.below_grow _ w (an _) k os⟩
theorem Cv{T:fq}{N:Nat}{w:World}(t:Tb T N w)(s:ByteArray)(h:s.size≤1000000):Calls ai 155 #[ah s] w fun e w'=>e= .returned (ah ⟨(mB T s).toArray⟩)∧Below w.heap.size w w':=
 Any.strconv_Quote B9 (by kernel_rfl) T s w (by omega) t.uC.print t.uC.FO
theorem wC(B b:Nat)(l:List UInt8)(w:World)(h:hP B b (vB l) w)(A:l≠[]):Calls ai 156 #[az (some ⟨b,0,none⟩)] w fun e w'=>e= .returned (ah ⟨l.toArray⟩)∧hP B b (vB l) w'∧jJ B b w w':=
 Any.Builder_String_k Tryz.bstL {sizeBuilder:=by kernel_rfl,liesBuilder:=by kernel_rfl,t5:=Tryz.underlying5,a5:=Tryz.isAgg5,z5:=Tryz.sizeOf5,v5:=Tryz.zeroValue5,infoByte:=by kernel_rfl,cellsByte:=by kernel_rfl,sizeByte:=by kernel_rfl,neB5:=by decide} B b l w h A
open Go.ChangeMaps (setBlock)
theorem filter_or(f p:Nat→Bool)(b:Nat)(A:f b=false):∀(L:List Nat),L.Nodup→b∈L→(L.filter fun i=>(f i||i==b)&&p i).length=(L.filter fun i=>f i&&p i).length+if p b=true then 1 else 0
 |[],_,h=>by cases h
 |a::L,M,G=>by
  have E:=List.nodup_cons.1 M;by_cases e:a=b
  ·subst e
   have:(L.filter fun i=>(f i||i==a)&&p i)=L.filter fun i=>f i&&p i:=by
    apply Ca;intro x O;have:(x==a)=false:=by simpa using fun(e:x=a)=>E.1 (e▸O)
    rw[this,Bool.or_false]
   cases hp:p a<;>simp[A,hp,this]
  ·have h1:=filter_or f p b A L E.2 ((List.mem_cons.1 G).resolve_left fun x=>e x.symm);have:(a==b)=false:=by simpa using e
   simp only[qG,this,Bool.or_false];split<;>simp[h1]<;>omega
def iV(n:Nat)(p:Nat→Bool)(seen:Array Nat):Nat:=((aw n).filter fun i=>seen.contains i&&p i).length
theorem FQ{n:Nat}{p:Nat→Bool}{seen:Array Nat}{b:Nat}(A:seen.contains b=false)(E:b<n):iV n p (seen.push b)=iV n p seen+if p b=true then 1 else 0:=by
 unfold iV;have:(fun i=>(seen.push b).contains i&&p i)=fun i=>((fun i=>seen.contains i) i||i==b)&&p i:=by funext i;rw[contains_push]
 rw[this];exact filter_or (fun i=>seen.contains i) p b A _ B4 (ee.2 E)
theorem FR{n:Nat}{p:Nat→Bool}{seen:Array Nat}(h:∀i,i<n→seen.contains i=true):iV n p seen=((aw n).filter p).length:=by unfold iV;congr 1;apply Ca;intro x A;rw[h x (ee.1 A),Bool.true_and]
theorem FT{α:Type}(l:List α)(p:α→Bool):((aw l.length).filter fun i=>((l[i]?).map p).getD false).length=(l.filter p).length:=by
 induction l with
 |nil=>rfl
 |cons a l A=>
  rw[List.length_cons,List.range_succ_eq_map,qG,qG,List.filter_map];have:((fun i=>(((a::l)[i]?).map p).getD false)∘Nat.succ)=fun i=>((l[i]?).map p).getD false:=by funext i;simp
  rw[this];simp only[bc,fa,fs];split<;>simp[A]
theorem yG(n:Nat)(p:Nat→Bool):iV n p #[]=0:=by unfold iV;rw[List.length_eq_zero_iff,List.filter_eq_nil_iff];intro i _;simp
theorem FU:∀(E:List Tree),∀q∈bX E,q.2=ay true:=by
 intro E;unfold bX;refine hX (P:=fun(l:List (lU×Value))=>∀q∈l,q.2=ay true) _ _ (fun q A=>by cases A) fun l d _ h q A=> ?_;rcases oM A with h1|rfl;·exact h q h1
 ·rfl
theorem yH{K α:Type}[DecidableEq K]{l:List (K×α)}{p:K}{v:α}(h:aT l p=some v):∃q∈l,q.2=v:=by
 unfold aT at h;cases hp:bm l p with
 |none=>rw[hp]at h;cases h
 |some k=>rw[hp]at h;have A:=fv hp;simp only[Option.bind_some,aE A,fa,aC]at h;exact⟨l[k],List.getElem_mem A,h⟩
theorem FV{K:Type}(enc:K→Value)(l:List (K×Value)):(bR enc l).map (·.born)=aw l.length:=by
 apply lF;intro i;simp only[bR,jB,px,vJ];by_cases h:i<l.length;·simp[h]
 ·simp[h]
theorem yI{K:Type}{enc:K→Value}{l:List (K×Value)}{e:MapEntry}(h:e∈bR enc l):∃k,∃A:k<l.length,e={key:=enc (l[k]).1,val:=(l[k]).2,born:=k}:=by obtain⟨k,A,rfl⟩:=ij.1 h;rw[ug]at A;exact⟨k,A,by simp[bR]⟩
theorem yJ{K:Type}{enc:K→Value}{l:List (K×Value)}{w wr:World}{A:Nat}{seen:Array Nat}(M:wr.heap[w.heap.size]? =some (.mapIter (some A) l.length seen l.length))(bl:Below w.heap.size w wr)(m:aS enc wr A l)(aJ:A<w.heap.size)(Y:TypeId):((∀i,i<l.length→seen.contains i=true)∧(vZ (az (some ⟨w.heap.size,0,none⟩)) false Y).run ai wr= .ok (bD #[ay false]) wr)∨
  ∃k,∃E:k<l.length,seen.contains k=false∧∃W,(vZ (az (some ⟨w.heap.size,0,none⟩)) false Y).run ai wr= .ok (bD #[ay true,enc (l[k]).1,(l[k]).2]) W∧W.heap[w.heap.size]? =some (.mapIter (some A) l.length (seen.push k) l.length)∧Below w.heap.size w W∧W.heap.size=wr.heap.size∧
   (Instr.entry (az (some ⟨w.heap.size,0,none⟩))).run ai W= .ok (bD #[enc (l[k]).1,(l[k]).2]) W∧(leftOf (bR enc l).toArray (seen.push k)).size<(leftOf (bR enc l).toArray seen).size:=by
 have am:∀x∈(bR enc l).toArray.toList,x.born<l.length:=fun x aG=>by obtain⟨k,E,rfl⟩:=yI (by simpa using aG);exact E
 have ak:((bR enc l).toArray.toList.map (·.born)).Nodup:=by show((bR enc l).map (·.born)).Nodup;rw[FV];exact B4
 rcases run_next_at (P:=ai) wr Y w.heap.size A l.length l.length seen (bR enc l).toArray l.length M m am (an _)with⟨ad,O⟩|⟨e,ab,w1,aB,O⟩;·refine .inl ⟨fun i aj=> ?_,O⟩;exact all_seen _ _ ad {key:=enc (l[i]).1,val:=(l[i]).2,born:=i} (by show _∈bR enc l;exact ij.2 ⟨i,by rw[ug];exact aj,by simp[bR]⟩)
 ·have G:=mem_left ab;have ax:=left_shrinks _ _ _ ab;obtain⟨k,E,rfl⟩:=yI (e:=e) (by simpa using G.1);have h1:w1.heap=wr.heap∧w1.os=wr.os∧w1.tape=wr.tape∧w1.output=wr.output:=by rcases aB with rfl|rfl<;>exact⟨rfl,rfl,rfl,rfl⟩
  have ac:w.heap.size<wr.heap.size:=by
   rcases Nat.lt_or_ge w.heap.size wr.heap.size with q|q;·exact q
   ·rw[iF q]at M;cases M
  refine .inr ⟨k,E,G.2,_,O,?_,?_,?_,?_,ax⟩;·simp[setBlock,h1.1,ac]
  ·refine⟨h1.2.1.trans bl.os,h1.2.2.1.trans bl.tape,h1.2.2.2.trans bl.output,by simp[setBlock,h1.1];omega,fun q ao=> ?_⟩;rw[←bl.block q ao];have:¬w.heap.size=q:=by omega
   simp[setBlock,h1.1,this]
  ·simp[setBlock,h1.1]
  ·refine run_entry_at _ _ A l.length seen (bR enc l).toArray l.length _ (by simp[setBlock,h1.1,ac]) ?_ G.1 ak;have:¬w.heap.size=A:=by omega
   unfold aS at m;simp only[setBlock,h1.1,Array.getElem?_setIfInBounds,this,if_false];exact m
section
variable {h:Hp} {w:World} {xb so sn:Nat} {budget:Int} {ts us:List Tree} {mr nr:List Nat} {mv av kv eo eN dR:Value}
theorem FX(x:iU h w xb so sn budget)(K:cC h so ts mr mv av kv)(a2:cC h sn us nr eo eN dR)(a3:iz w mr ts)(a4:iz w nr us)(i j:Nat)(bd:i<ts.length)(hj:j<us.length)(ce:(bX (ts.getD i default).kids).length≤1000000)(cf:(bX (us.getD j default).kids).length≤1000000):Calls ai 55 #[az (some ⟨xb,0,none⟩),af ae i,af ae j] w (nB (iT (bX (ts.getD i default).kids) (bX (us.getD j default).kids)) w):=by
 obtain⟨tv,ci,b9,aL,-,-,bC⟩:=K.box;obtain⟨ct,cj,cc,aM,-,-,bE⟩:=a2.box;obtain⟨a,bL,rfl,cg,a9⟩:=bC.at x.I;obtain⟨a',bN,rfl,ch,ba⟩:=bE.at x.I;obtain⟨bI,oa,rfl,cF,bZ,-⟩:=a9 i bd;obtain⟨bJ,bV,rfl,cG,b0,-⟩:=ba j hj;have co:w.cell? ⟨so,1,none⟩=some (ag (some ⟨bI,oa,none⟩) ts.length bL):=cu x.I aL 1;have cq:w.cell? ⟨sn,1,none⟩=some (ag (some ⟨bJ,bV,none⟩) us.length bN):=cu x.I aM 1;have cM:=cD (x.I _ _ aL);have cN:=cD (x.I _ _ aM);have cl:=x.c0;have cm:=x.c1;have cK:=x.lt;have cz:(0:Int)≤(i:Int):=by omega
 have cA:(i:Int)<(ts.length:Int):=by omega
 have cB:(0:Int)≤(j:Int):=by omega
 have cE:(j:Int)<(us.length:Int):=by omega
 have bz:=a3 i bd;have bB:=a4 j hj;have bH:Hid (∀q∈bX (us.getD j default).kids,q.2=ay true):=FU _;generalize bX (ts.getD i default).kids=A at*;generalize bX (us.getD j default).kids=C at*;generalize mr.getD i 0=aV at*;generalize nr.getD j 0=rb at*;have M:=aa bz;have ak:=aa bB;have R:Hid (iT A C=if hW A C=0 then 1048576 else(A.length:Int)+C.length-2*hW A C):=rfl;generalize iT A C=cn at*;clear bz bB K a2 a3 a4 aL aM bC bE a9 ba x;go_enter Tryz.func55,Tryz.ntmps55;go_wp2_with fail;go_quiet(fail);have bT:(Instr.range 97 (.map (some aV))).run ai (w.drewN nq)=_:=run_range_map (w.drewN nq) 97 99 4 aV _ A.length qH M.out;go_wp2_with fail;have aB:Hid (hW A C=((aw A.length).filter fun i=>((A[i]?).map fun q=>(aT C q.1).isSome).getD false).length):=by unfold Hid hW;rw[FT A fun q=>(aT C q.1).isSome]
 generalize bp:(fun i:Nat=>((A[i]?).map fun q=>(aT C q.1).isSome).getD false)=p at aB;have bG:Hid (∀k (ab:k<A.length),p k=(aT C (A[k]).1).isSome):=fun k ab=>by rw[←bp];simp only[aE ab,fa,fs]
 clear bp bT;go_loopw[9,10,33,34,35,36,37,38,39,40,41] (fun s _ _ _ _ _ _ _ _ _ _ wr=>∃seen:Array Nat,s=af ae (iV A.length p seen:Nat)∧wr.heap[w.heap.size]? =some (.mapIter (some aV) A.length seen A.length)∧Below w.heap.size w wr∧iV A.length p seen≤A.length) (fun s _ _ _ _ _ _ _ _ _ _ wr=>(leftOf (bR dQ A).toArray (wr.iterSeen w.heap.size)).size);case atStart=>exact⟨#[],by simp[yG],heap_alloc_new _ _,((aD _ _).drewN _).alloc (an _) _,by simp[yG]⟩
 case round=>
  obtain⟨seen,rfl,G,bl,bg⟩:=hrel;rcases yJ G bl (M.out.U (bl.block _ M.out.lt)) M.out.lt 0 with⟨aJ,ad⟩|⟨k,ab,ao,W,ad,am,Y,bv,bO,aN⟩
  ·have ax:Hid (iV A.length p seen=hW A C):=by unfold Hid;rw[aB.out];exact FR aJ
   have bm:∀O,(vZ (az (some ⟨w.heap.size,0,none⟩)) false O).run ai wr=_:=fun O=>(by
    rcases yJ G bl (M.out.U (bl.block _ M.out.lt)) M.out.lt O with⟨-,q⟩|⟨k,ab,ao,-⟩;·exact q
    ·rw[aJ k ab]at ao;cases ao)
   have aj:=aa bl;have cd:=fun O=>(M.out.U (aj.out.block _ M.out.lt)).qL qH O;have l2:=fun O=>(ak.out.U (aj.out.block _ ak.out.lt)).qL qH O;rw[ax.out]at bg;simp only[ax.out];have w1:ae.wrap ((A.length:Int)+(C.length:Int))=(A.length:Int)+C.length:=bA (by omega);have w2:ae.wrap (2*(hW A C:Int))=2*(hW A C:Int):=bA (by omega);have w3:ae.wrap ((A.length:Int)+C.length-2*(hW A C:Int))=(A.length:Int)+C.length-2*(hW A C:Int):=bA (by omega);generalize hW A C=S at*;clear G bl aJ ad ax aB;by_cases aG:S=0;·rw[if_pos aG]at R;subst aG;go_wp2_with fail;go_ret;exact⟨by rw[R.out];rfl,aj.out⟩
   ·rw[if_neg aG]at R;have cv:((S:Int)==0)=false:=by simp;omega
    have cw:¬(S:Int)=0:=by omega
    go_wp2_with fail;go_ret;exact⟨by rw[R.out];rfl,aj.out⟩
  ·have bm:∀O,(vZ (az (some ⟨w.heap.size,0,none⟩)) false O).run ai wr= .ok (bD #[ay true,dQ (A[k]).1,(A[k]).2]) W:=fun _=>ad;have E:=FQ (p:=p) ao ab;rw[bG.out k ab]at E;have aQ:aS dQ (W.alloc (.cells #[af ae (A[k]).1.1,ah (A[k]).1.2] 99)) rb C:=ak.out.U ((((Y.alloc Y.size _).block _ ak.out.lt)));have ac:=(aQ.look x4 (A[k]).1 97 4 (ay false) qH (fun W=>by kernel_rfl)).1;have aY:=aa am;have aX:=aa (Y.alloc Y.size (.cells #[af ae (A[k]).1.1,ah (A[k]).1.2] 99));have aP:((W.alloc (.cells #[af ae (A[k]).1.1,ah (A[k]).1.2] 99)).iterSeen w.heap.size)=seen.push k:=by unfold KB;rw[oi _ _ (by rw[bv];exact Nat.lt_of_le_of_ne bl.size (fun e=>by rw[e,iF (an _)]at G;cases G)),am]
   have aO:wr.iterSeen w.heap.size=seen:=by unfold KB;rw[G]
   have a5:=aa aN;have a1:=aa aP;have aZ:=aa aO;have bY:W.heap.size≠w.heap.size:=fun e=>by rw[←e,bv,iF (an _)]at G;cases G
   have a8:w.heap.size<W.heap.size:=by have:=Y.size;omega
   simp only[dQ]at bm ac bO;cases hg:aT C (A[k]).1 with
   |none=>
    rw[hg]at E ac;simp only[Option.isSome_none,Bool.false_eq_true,if_false,Nat.add_zero,Option.getD_none]at E ac;have E:=aa E;clear G bl ad am Y aN aO aP aQ hg;go_wp2_with fail;go_roundw;case rel=>exact⟨seen.push k,by rw[E.out],by rw[oi _ _ a8];exact aY.out,aX.out,by rw[E.out];exact bg⟩
    case measure=>rw[aZ.out,a1.out];exact a5.out
   |some v=>
    obtain⟨q,bq,rfl⟩:=yH hg;rw[hg,bH.out q bq]at ac;rw[hg]at E;simp only[Option.isSome_some,if_true,fs]at E ac;have E:=aa E;have bS:iV A.length p seen+1≤A.length:=by rw[←E.out];unfold iV;exact b5 (List.length_filter_le _ _) (by simp)
    have w1:ae.wrap ((iV A.length p seen:Int)+1)=((iV A.length p seen+1:Nat):Int):=by rw[bA (by omega)];omega
    clear G bl ad am Y aN aO aP aQ hg bq;go_wp2_with fail;go_roundw;case rel=>exact⟨seen.push k,by rw[E.out,Int.natCast_add];rfl,by rw[oi _ _ a8];exact aY.out,aX.out,by rw[E.out];exact bS⟩
    case measure=>rw[aZ.out,a1.out];exact a5.out
end
open Go.RowKit Go.Lib
theorem FZ{W:World}(A:oF ai Rows.pairingSelfRow.laid W):Lib.PrintTabsAt (dM.g 20) (dM.g 21) (dM.g 22) (dM.g 23) fL W:=
 printTabs_of_reads (ρ:=dM) {B9 with} ⟨by kernel_rfl,by kernel_rfl,by kernel_rfl,by kernel_rfl,by kernel_rfl,by kernel_rfl,by kernel_rfl,by kernel_rfl,by kernel_rfl,by kernel_rfl⟩ (py A (nw (i:=7) (by kernel_rfl))) (py A (nw (i:=5) (by kernel_rfl))) (py A (nw (i:=8) (by kernel_rfl))) (py A (nw (i:=6) (by kernel_rfl)))
theorem F0{W:World}(A:oF ai Rows.pairingSelfRow.laid W):Lib.Utf8Tabs (dM.g 3) (dM.g 4) W:=
 utf8Tabs_of_reads (ρ:=dM) {B9 with} ⟨by kernel_rfl,by kernel_rfl,by kernel_rfl,by kernel_rfl,by kernel_rfl,by kernel_rfl,by kernel_rfl⟩ (py A (nw (i:=9) (by kernel_rfl))) (py A (nw (i:=3) (by kernel_rfl)))
theorem F1{P:Program}{W:World}{name:String}{k:IntKind}{A:List Int}{g:Nat}{t e:TypeId}{n:Nat}(Y:P.globalNamed name=some g)(aj:(P.globals[g]?).map (·.type)=some t)(ac:P.underlying t=some (.array n e))(O:P.underlying e=some (.int k))(E:P.cellsOf e=1)(G:P.cellsOf t=n)(h:Lib.VarReads P W name (tabData k A)):TabIs P W name k A:=by obtain⟨ao,ax,cs,am,p,ab,ad,ak,M⟩:=h;obtain rfl:=aU (Y.symm.trans ab);obtain rfl:=aU (aj.symm.trans ad);unfold TabIs;rw[ak,←cells_of_tab ac O E G M]
theorem F2{W:World}(A:oF ai Rows.pairingSelfRow.laid W):Lib.TabIs ai W "internal/strconv.uint64pow10" .u64 Lib.pow10Tab:=
 F1 (n:=20) (g:=(ai.globalNamed "internal/strconv.uint64pow10").getD 0) (t:=290) (e:=166) (by kernel_rfl) (by kernel_rfl) (by kernel_rfl) (by kernel_rfl) (by kernel_rfl) (by kernel_rfl) (py A (nw (i:=2) (by kernel_rfl)))
theorem F3{W:World}(A:oF ai Rows.pairingSelfRow.laid W):Tb fL W.heap.size W:=
 ⟨an _,fun w' b=>⟨TabIs_below (g:=(ai.globalNamed "internal/strconv.uint64pow10").getD 0) (by kernel_rfl) (F2 A) b,printTabs_below (FZ A) b,Utf8Tabs_below (F0 A) b⟩⟩
end Go.Proofs.YtdplggpbgommnaaGreatDoor
