/- A side of pairing.Pair: its box, its definitions, its maps of names; the closures that read it. -/
import Derived.Test.YtdplggpbgommnaaGreatDoorG14
import Derived.Test.YtdplggpbgommnaaGreatDoorAsg
import Derived.Lib.AppendIntMem
import Derived.Lib.LaidSlice
import Derived.LaidMore
import Derived.Shelf.Unicode.PredsPay
open Array renaming getElem?_eq_none->iF
open Go renaming bodyPost_ret->aF,heap_alloc_old->oi,laidMet->oF,results->aH
open Go.Builtin renaming len_->Kt
open Go.Instr renaming next->vZ
open Go.IntKind renaming i64->ae
open Go.Lib renaming PrintTabs->fq,byteCells->vB,goPrintTabs->fL,hid->aa,itoa->eQ
open Go.Lib.laidMet renaming reads->py
open Go.Proofs.Tryz renaming prog->ai,quoL_ren->dM,quoL->B9,underlying97->qH
open Go.RowKit.Below renaming refl->aD
open Go.Value renaming bool->ay,int->af,pointer->az,slice->ag,string->ah,tuple->bD
open Go.Value.slice renaming injEq->bU
open Go.World renaming drew->q1,iterSeen->KB
open List renaming all_eq_true->j4,ext_getElem?->lF,filter_congr->Ca,filter_cons->qG,getD_eq_getElem?_getD->bb,getElem?_cons_zero->bc,getElem?_eq_getElem->aE,getElem?_mapIdx->px,getElem?_map->jB,getElem?_toArray->bw,mem_iff_getElem->ij,mem_of_getElem?->nw,mem_range->ee,nodup_range->B4,range->aw
open Nat renaming add_assoc->bP,le_refl->kI,le_trans->b5,lt_of_lt_of_le->bK
open Option renaming getD_some->BW,map_map->vJ,map_some->fa
open Option.some renaming injEq->aC,inj->aU
set_option maxRecDepth 100000
set_option maxHeartbeats 4000000
namespace Go.Proofs.YtdplggpbgommnaaGreatDoor
open Go.RowKit
def kq(h:Hp)(d:cF)(cs:List Value):Prop:=∃r,cs=[af ae d.module,af ae d.number]++r/\bg h d.t r
theorem kq.len{h:Hp}(d:cF)(cs:List Value)(e:kq h d cs):cs.length=6:=by obtain⟨r,rfl,q⟩:=e;simp[bg.len _ _ q]
theorem kq.mono{h h':Hp}(G:h.le h'){d:cF}{cs:List Value}(e:kq h d cs):kq h' d cs:=by obtain⟨r,e,q⟩:=e;exact⟨r,e,q.mono G⟩
def lZ(h:Hp)(v:Value)(l:List cF):Prop:=∃cs,Sl h v l.length 6 cs/\aJ (kq h) l cs
theorem lZ.mono{h h':Hp}(G:h.le h'){v:Value}{l:List cF}(s:lZ h v l):lZ h' v l:=by obtain⟨cs,h1,h2⟩:=s;exact⟨cs,h1.mono G,h2.mono fun _ _ r=>r.mono G⟩
theorem lZ.open{h:Hp}{v:Value}{l:List cF}(hv:lZ h v l):∃a O,v=ag a l.length O/\l.length<=140737488355328/\
  ∀w,ao h w->∀i (Y:i<l.length),∃b off al J G ck,a=some ⟨b,off,none⟩/\b<w.heap.size/\w.cell? ⟨b,off+i*6,none⟩=some (af ae l[i].module)/\w.cell? ⟨b,off+i*6+1,none⟩=some (af ae l[i].number)/\
   w.cell? ⟨b,off+i*6+2,none⟩=some (af ae l[i].t.kind)/\w.cell? ⟨b,off+i*6+3,none⟩=some (ah l[i].t.text)/\w.cell? ⟨b,off+i*6+4,none⟩=some (ag al l[i].t.leads.length J)/\w.cell? ⟨b,off+i*6+5,none⟩=some (ag G l[i].t.kids.length ck)/\
   aP h (.agg #[af ae l[i].t.kind,ah l[i].t.text,ag al l[i].t.leads.length J,ag G l[i].t.kids.length ck]) l[i].t:=by
 obtain⟨cs,s,e⟩:=hv;obtain⟨a,O,rfl,hn⟩:=s.shape;refine⟨a,O,rfl,hn,fun w ak i Y=> ?_⟩;obtain⟨b,off,rfl,aj,hc⟩:=s.cells ak (by omega);obtain⟨ax,⟨r,rfl,ab⟩,h2⟩:=e.at 6 kq.len i Y;have am:=ab;obtain⟨al,J,G,ck,xs,rfl,aB⟩:=bg.iff.1 am;refine⟨b,off,al,J,G,ck,rfl,aj,?_,?_,?_,?_,?_,?_,⟨_,rfl,ab⟩⟩;·exact hc _ _ (h2 0 (by omega))
 ·rw[bP];exact hc _ _ (h2 1 (by omega))
 ·rw[bP];exact hc _ _ (h2 2 (by omega))
 ·rw[bP];exact hc _ _ (h2 3 (by omega))
 ·rw[bP];exact hc _ _ (h2 4 (by omega))
 ·rw[bP];exact hc _ _ (h2 5 (by omega))
structure cC(h:Hp)(b:Nat)(ts:List Tree)(mr:List Nat)(mv av kv:Value):Prop where
 box:∃tv nv dv,h b=some #[tv,nv,dv,mv,av,kv]/\hQ h tv ts/\lZ h dv (aj 0 ts)/\hV h nv ((aw ts.length).map fun i=>Value.map (some (mr.getD i 0)))
def iz(w:World)(mr:List Nat)(ts:List Tree):Prop:=∀i,i<ts.length->aS dQ w (mr.getD i 0) (bX (ts.getD i default).kids)
theorem iz.tu{S:Nat->Prop}{w w1:World}{mr:List Nat}{ts:List Tree}(m:iz w mr ts)(t:Tu S w w1)(hS:∀i,i<ts.length->¬S (mr.getD i 0)):iz w1 mr ts:=fun i G=>(m i G).tu t (hS i G)
theorem cC.mono{h h':Hp}(G:h.le h'){b:Nat}{ts:List Tree}{mr:List Nat}{mv av kv:Value}(k:cC h b ts mr mv av kv):cC h' b ts mr mv av kv:=by obtain⟨tv,ab,J,h1,h2,O,Y⟩:=k.box;exact⟨tv,ab,J,G _ _ h1,h2.mono G,O.mono G,Y.mono G⟩
theorem aS.qL{K:Type}{enc:K->Value}{w:World}{r:Nat}{l:List (K×Value)}(m:aS enc w r l){T k e:TypeId}(G:ai.underlying T=some (.map k e))(ty:TypeId):(Kt #[T] ty #[.map (some r)]).run ai w= .ok (af ae l.length) w:=by unfold aS at m;simp[Kt,run_underlying G,getObj,Sem.run,m,cG,ug,goInt]
section
variable {h:Hp} {w:World} {sb cb:Nat} {ts:List Tree} {mr:List Nat} {mv av kv:Value}
theorem cC.lh(Y:ao h w)(K:cC h sb ts mr mv av kv)(i:Nat)(ab:i<(aj 0 ts).length):∃b off n O al J G ck,w.cell? ⟨sb,2,none⟩=some (ag (some ⟨b,off,none⟩) n O)/\i<n/\n<=140737488355328/\b<w.heap.size/\sb<w.heap.size/\w.cell? ⟨b,off+i*6,none⟩=some (af ae ((aj 0 ts).getD i default).module)/\w.cell? ⟨b,off+i*6+1,none⟩=some (af ae ((aj 0 ts).getD i default).number)/\w.cell? ⟨b,off+i*6+2,none⟩=some (af ae ((aj 0 ts).getD i default).t.kind)/\w.cell? ⟨b,off+i*6+3,none⟩=some (ah ((aj 0 ts).getD i default).t.text)/\w.cell? ⟨b,off+i*6+4,none⟩=some (ag al ((aj 0 ts).getD i default).t.leads.length J)/\w.cell? ⟨b,off+i*6+5,none⟩=some (ag G ((aj 0 ts).getD i default).t.kids.length ck)/\aP h (.agg #[af ae ((aj 0 ts).getD i default).t.kind,ah ((aj 0 ts).getD i default).t.text,ag al ((aj 0 ts).getD i default).t.leads.length J,ag G ((aj 0 ts).getD i default).t.kids.length ck]) ((aj 0 ts).getD i default).t:=by
 obtain⟨tv,aG,aB,ak,-,hd,-⟩:=K.box;obtain⟨a,O,rfl,hn,hc⟩:=hd.open;obtain⟨b,off,al,J,G,ck,rfl,ax,am,c1,c2,c3,c4,c5,tv⟩:=hc w Y i ab;have e:(aj 0 ts).getD i default=(aj 0 ts)[i]:=by simp[bb,aE ab]
 rw[e];exact⟨b,off,_,O,al,J,G,ck,cu Y ak 2,ab,hn,ax,cD (Y _ _ ak),am,c1,c2,c3,c4,c5,tv⟩
theorem yr(J:ao h w)(K:cC h sb ts mr mv av kv)(O:Has w cb #[az (some ⟨sb,0,none⟩)])(i:Nat)(ab:i<ts.length):Calls ai 50 #[af ae i,az (some ⟨cb,0,none⟩)] w (oL (eC ts i) w):=by
 obtain⟨tv,aJ,aG,G,⟨cs,st,Y⟩,-,-⟩:=K.box;obtain⟨a,ak,rfl,hn⟩:=st.shape;obtain⟨b,off,al,aB,ax,ck,rfl,aN,-,c1,-⟩:=j9 st Y J i ab;have am:=O.cl 0;have aO:=O.lt;simp only[bw,bc]at am;have s0:w.cell? ⟨sb,0,none⟩=some (ag (some ⟨b,off,none⟩) ts.length ak):=cu J G 0;have zs:=cD (J _ _ G);have aL:(0:Int)<=(i:Int):=by omega
 have aM:(i:Int)<(ts.length:Int):=by omega
 have e:(ts.getD i default).text=ts[i].text:=by simp[bb,aE ab]
 generalize ts[i].text=aj at c1 e;generalize ts.length=n at*;have E:=aa e;clear e st Y K O G;go_in;go_wp2_with fail;refine aF (v:=bD #[dA (0,0,aj),ay true]) (by simp[aH,Tryz.results50,go_sem,dA]) rfl ?_;exact⟨(0,0,aj),true,rfl,by rw[eC,E.out];rfl,(aD _ _).alloc (kI _) _⟩
theorem LB(sb:Nat):Calls ai 49 #[az (some ⟨sb,0,none⟩)] w fun e w'=>∃g,e= .returned (.func (.func 50) #[] #[az (some ⟨g,0,none⟩)])/\Has w' g #[az (some ⟨sb,0,none⟩)]/\Below w.heap.size w w'/\w.heap.size<=g:=by go_in;go_wp2_with fail;go_ret;exact⟨_,rfl,Has.new _ _ _,(aD _ _).alloc (kI _) _,kI _⟩
theorem yt(sb:Nat):Calls ai 52 #[az (some ⟨sb,0,none⟩)] w fun e w'=>∃g,e= .returned (.func (.func 53) #[] #[az (some ⟨g,0,none⟩)])/\Has w' g #[az (some ⟨sb,0,none⟩)]/\Below w.heap.size w w'/\w.heap.size<=g:=by go_in;go_wp2_with fail;go_ret;exact⟨_,rfl,Has.new _ _ _,(aD _ _).alloc (kI _) _,kI _⟩
theorem yu(sb:Nat):Calls ai 59 #[az (some ⟨sb,0,none⟩)] w fun e w'=>∃g,e= .returned (.func (.func 60) #[] #[az (some ⟨g,0,none⟩)])/\Has w' g #[az (some ⟨sb,0,none⟩)]/\Below w.heap.size w w'/\w.heap.size<=g:=by go_in;go_wp2_with fail;go_ret;exact⟨_,rfl,Has.new _ _ _,(aD _ _).alloc (kI _) _,kI _⟩
theorem yv(sb:Nat):Calls ai 61 #[az (some ⟨sb,0,none⟩)] w fun e w'=>∃g,e= .returned (.func (.func 62) #[] #[az (some ⟨g,0,none⟩)])/\Has w' g #[az (some ⟨sb,0,none⟩)]/\Below w.heap.size w w'/\w.heap.size<=g:=by go_in;go_wp2_with fail;go_ret;exact⟨_,rfl,Has.new _ _ _,(aD _ _).alloc (kI _) _,kI _⟩
theorem yw(Y:ao h w)(K:cC h sb ts mr mv av kv)(G:Has w cb #[az (some ⟨sb,0,none⟩)])(i:Nat)(J:i<(aj 0 ts).length):Calls ai 60 #[af ae i,az (some ⟨cb,0,none⟩)] w (oL (iw (aj 0 ts) i) w):=by
 obtain⟨b,off,n,ax,al,aB,am,ck,aG,ab,hn,aM,zs,-,-,c2,c3,-⟩:=K.lh Y i J;have ak:=G.cl 0;have aN:=G.lt;simp only[bw,bc]at ak;have aJ:(0:Int)<=(i:Int):=by omega
 have aL:(i:Int)<(n:Int):=by omega
 have E:Hid (iw (aj 0 ts) i=some (0,((aj 0 ts).getD i default).t.kind,((aj 0 ts).getD i default).t.text)):=rfl;generalize iw (aj 0 ts) i=key at*;generalize((aj 0 ts).getD i default).t.kind=k at*;generalize((aj 0 ts).getD i default).t.text=O at*;clear K G J ab;go_in;go_wp2_with fail;refine wp_region_still_tail 19 (by kernel_rfl) (by kernel_rfl) ?_;simp only[List.take_succ_cons,List.take_zero,List.drop_succ_cons,List.drop_zero];change wpStill _ _ (q1 _) (fun a'=>wpList _ _ _ _ a' (q1 _)) _ _;repeat still_step
 refine wpStill_nil ?_;go_wp2_with fail;refine aF (v:=bD #[dA (0,k,O),ay true]) (by simp[aH,Tryz.results60,go_sem,dA]) rfl ?_;exact⟨(0,k,O),true,rfl,E.out,((aD _ _).alloc (kI _) _).drew⟩
theorem yx(O:ao h w)(K:cC h sb ts mr mv av kv)(G:Has w cb #[az (some ⟨sb,0,none⟩)])(i:Nat)(Y:i<(aj 0 ts).length)(hs:((aj 0 ts).getD i default).t.size<=1000000):Calls ai 62 #[af ae i,az (some ⟨cb,0,none⟩)] w (nB (ix (aj 0 ts) i) w):=by
 obtain⟨b,off,n,aG,al,aJ,aB,ck,aM,am,hn,aQ,zs,-,-,c2,c3,c4,c5,tv⟩:=K.lh O i Y;have ax:=G.cl 0;have aS:=G.lt;simp only[bw,bc]at ax;have aN:(0:Int)<=(i:Int):=by omega
 have aO:(i:Int)<(n:Int):=by omega
 have E:Hid (ix (aj 0 ts) i=((aj 0 ts).getD i default).t.size):=rfl;generalize ix (aj 0 ts) i=aL at*;generalize(aj 0 ts).getD i default=d at*;have ak:=aa (nK d.t.size h w O _ d.t tv (kI _) (by omega));clear K G Y am tv;go_in;go_wp2_with(go_at_call 47;refine ak.out.mono ?_;rintro e aP ⟨rfl,J⟩;have ab:=aa J;clear J);go_ret;exact⟨by rw[E.out];rfl,ab.out⟩
theorem yy(J:ao h w)(K:cC h sb ts mr mv av kv)(M:iz w mr ts)(O:Has w cb #[az (some ⟨sb,0,none⟩)])(i:Nat)(Y:i<ts.length)(_hs:(bX (ts.getD i default).kids).length<=1000000):Calls ai 53 #[af ae i,az (some ⟨cb,0,none⟩)] w (nB (countP ts i) w):=by
 obtain⟨tv,aL,ax,G,-,-,on⟩:=K.box;obtain⟨a,ab,rfl,aJ,fn⟩:=on.at J;obtain⟨bn,aj,rfl,aQ,am,aB⟩:=fn i Y;have ak:=O.cl 0;have aS:=O.lt;simp only[bw,bc]at ak;have aN:w.cell? ⟨sb,1,none⟩=some (ag (some ⟨bn,aj,none⟩) ts.length ab):=cu J G 1;have zs:=cD (J _ _ G);have aO:(0:Int)<=(i:Int):=by omega
 have aP:(i:Int)<(ts.length:Int):=by omega
 have aG:=fun ty=>(M i Y).qL qH ty;have E:Hid (countP ts i=((bX (ts.getD i default).kids).length:Int)):=rfl;generalize countP ts i=aM at*;generalize mr.getD i 0=r at*;generalize(bX (ts.getD i default).kids).length=L at*;clear K O G on fn;go_in;go_wp2_with fail;go_ret;exact⟨by rw[E.out];rfl,aD _ _⟩
end
structure iU(h:Hp)(w:World)(xb so sn:Nat)(budget:Int):Prop where
 I:ao h w
 lt:xb<w.heap.size
 c0:w.cell? ⟨xb,0,none⟩=some (az (some ⟨so,0,none⟩))
 c1:w.cell? ⟨xb,1,none⟩=some (az (some ⟨sn,0,none⟩))
 c2:w.cell? ⟨xb,2,none⟩=some (af ae budget)
theorem iU.tu{h:Hp}{w w1:World}{xb so sn:Nat}{budget:Int}{S:Nat->Prop}(x:iU h w xb so sn budget)(t:Tu S w w1)(hS:∀b,S b->h b=none/\b≠xb):iU h w1 xb so sn budget:=by have k:∀i,w1.cell? ⟨xb,i,none⟩=w.cell? ⟨xb,i,none⟩:=fun i=>World.cell?_of_block (a:=⟨xb,i,none⟩) (t.block xb x.lt fun e=>(hS xb e).2 rfl);exact⟨t.I x.I fun b G=>(hS b G).1,bK x.lt t.size,(k 0).trans x.c0,(k 1).trans x.c1,(k 2).trans x.c2⟩
theorem iU.below{h:Hp}{w w1:World}{xb so sn:Nat}{budget:Int}(x:iU h w xb so sn budget)(b:Below w.heap.size w w1):iU h w1 xb so sn budget:=x.tu ((Tu.refl (fun _=>False) w).below b) fun _ e=>e.elim
theorem bH.ci{h:Hp}{w:World}{B xb so sn:Nat}{budget:Int}{V:eL->Value}{s:bp}(q:bH h w B xb so sn budget V s):iU h w xb so sn budget:=by obtain⟨G,x,-⟩:=q.box;exact⟨q.I,x.lt,x.cl 0,x.cl 1,x.cl 2⟩
section
variable {h:Hp} {w:World} {xb so sn cb:Nat} {budget:Int} {ts us:List Tree} {mr nr:List Nat} {mv av kv eo eN dR:Value}
theorem FG(x:iU h w xb so sn budget)(K:cC h so ts mr mv av kv)(G:Has w cb #[az (some ⟨xb,0,none⟩)])(i:Nat)(J:i<(aj 0 ts).length):Calls ai 57 #[af ae i,az (some ⟨cb,0,none⟩)] w (oL (la (aj 0 ts) i) w):=by
 obtain⟨b,off,n,am,al,ao,ab,ck,aB,O,hn,aL,zs,ak,c1,c2,c3,c4,c5,-⟩:=K.lh x.I i J;have Y:=G.cl 0;have aN:=G.lt;simp only[bw,bc]at Y;have ax:=x.c0;have aM:=x.lt;have aG:(0:Int)<=(i:Int):=by omega
 have aJ:(i:Int)<(n:Int):=by omega
 have E:Hid (la (aj 0 ts) i=some ((((aj 0 ts).getD i default).module:Int),((aj 0 ts).getD i default).t.kind,((aj 0 ts).getD i default).t.text)):=rfl;generalize la (aj 0 ts) i=key at*;generalize(aj 0 ts).getD i default=d at*;clear K G J O x;go_in;go_wp2_with fail;refine aF (v:=bD #[dA (d.module,d.t.kind,d.t.text),ay true]) (by simp[aH,Tryz.results57,go_sem,dA]) rfl ?_;exact⟨(d.module,d.t.kind,d.t.text),true,rfl,E.out,((aD _ _).alloc (kI _) _).alloc (by simp) _⟩
theorem FH(x:iU h w xb so sn budget)(K:cC h sn ts mr mv av kv){B:Nat}(nm:List Int)(o:Ow w h B 3 1 mv nm.length (aV nm))(J:Has w cb #[az (some ⟨xb,0,none⟩)])(i:Nat)(ak:i<(aj 0 ts).length)(hm:((aj 0 ts).getD i default).module<nm.length):Calls ai 58 #[af ae i,az (some ⟨cb,0,none⟩)] w (oL (km (aj 0 ts) nm i) w):=by
 have O:=K;obtain⟨b,off,n,aL,al,aM,aB,ck,aS,ao,hn,a2,zs,aJ,c1,c2,c3,c4,c5,-⟩:=K.lh x.I i ak;obtain⟨tv,aP,aN,Y,-,-,-⟩:=O.box;obtain⟨aG,am,rfl⟩:=o.shape;obtain⟨gm,rfl,-,a3,-,ab,-⟩:=o.cell (by omega);have aT:w.cell? ⟨sn,3,none⟩=some (ag (some ⟨gm,0,none⟩) nm.length am):=cu x.I Y 3;have ax:=J.cl 0;have a5:=J.lt;simp only[bw,bc]at ax;have aQ:=x.c1;have a4:=x.lt;have aX:(0:Int)<=(i:Int):=by omega
 have aY:(i:Int)<(n:Int):=by omega
 have E:Hid (km (aj 0 ts) nm i=if 0<=ge nm ((aj 0 ts).getD i default).module then some (ge nm ((aj 0 ts).getD i default).module,((aj 0 ts).getD i default).t.kind,((aj 0 ts).getD i default).t.text)else none):=rfl;generalize km (aj 0 ts) nm i=key at*;generalize(aj 0 ts).getD i default=d at*;have aO:w.cell? ⟨gm,d.module,none⟩=some (af ae (ge nm d.module)):=ab _ _ (by simp[aV,ge,bb,aE hm]);have aZ:(0:Int)<=(d.module:Int):=by omega
 have a1:(d.module:Int)<(nm.length:Int):=by omega
 generalize ge nm d.module=G at*;clear K O J ak ao x Y o ab hm;go_in;go_wp2_with fail;go_quiet(fail);go_wp2_with fail;refine aF (v:=bD #[dA (G,d.t.kind,d.t.text),ay (decide (0<=G))]) (by simp[aH,Tryz.results58,go_sem,dA]) rfl ?_;exact⟨(G,d.t.kind,d.t.text),decide (0<=G),rfl,by rw[E.out];simp,((((((aD _ _).alloc (kI _) _).alloc (by simp) _).drewN _).setCell (kI _) _).setCell (kI _) _).setCell (kI _) _⟩
theorem yz(w:World)(c d:Array Value)(t t':TypeId):Has ((w.alloc (.cells c t)).alloc (.cells d t')).drew w.heap.size c/\Has ((w.alloc (.cells c t)).alloc (.cells d t')).drew (w.heap.size+1) d/\Below w.heap.size w ((w.alloc (.cells c t)).alloc (.cells d t')).drew:=
 ⟨((Has.new w c t).alloc _).drew,(Has.kY w _ d t').drew,(((aD _ _).alloc (kI _) _).alloc (by simp) _).drew⟩
theorem FI(x:iU h w xb so sn budget)(bC:aG budget)(K:cC h so ts mr mv av kv)(a9:cC h sn us nr eo eN dR)(i j:Nat)(bG:i<(aj 0 ts).length)(hj:j<(aj 0 us).length)(co:((aj 0 ts).getD i default).t.size<=262144)(sb:((aj 0 us).getD j default).t.size<=262144):Calls ai 63 #[az (some ⟨xb,0,none⟩),af ae i,af ae j] w (nB (hI budget ((aj 0 ts).getD i default).t ((aj 0 us).getD j default).t) w):=by
 obtain⟨b,off,n,cd,al,aN,ax,ck,cK,ci,hn,cX,zs,-,-,c2,c3,c4,c5,ta⟩:=K.lh x.I i bG;obtain⟨b',a1,n',ce,aJ,aP,aB,aM,cM,cj,cB,cY,cZ,-,-,cu,cv,cw,cz,tb⟩:=a9.lh x.I j hj;have cE:=x.c0;have cF:=x.c1;have cm:=x.c2;have bV:=x.lt;have X:=aa x;have bX:=aa bC;generalize((aj 0 ts).getD i default).t=A at*;generalize((aj 0 us).getD j default).t=C at*;have ba:=aa ta;have bd:=aa tb;have cN:(0:Int)<=(i:Int):=by omega
 have cQ:(i:Int)<(n:Int):=by omega
 have cS:(0:Int)<=(j:Int):=by omega
 have cU:(j:Int)<(n':Int):=by omega
 have E:Hid (hI budget A C=if A.kind=C.kind then(if(A.size:Int)+C.size<bS (2*(bE (aO A) (aO C) budget).cost)then 1048576 else(bE (aO A) (aO C) budget).cost)else 1048576):=rfl;generalize hI budget A C=cG at*;clear K a9 x bC ta tb bG hj ci cj;go_in;go_wp2_with fail;go_region_held3(fun w'=>w'.cell? ⟨xb,0,none⟩=some (az (some ⟨so,0,none⟩))/\w'.cell? ⟨xb,1,none⟩=some (az (some ⟨sn,0,none⟩))/\w'.cell? ⟨so,2,none⟩=some (ag (some ⟨b,off,none⟩) n cd)/\w'.cell? ⟨sn,2,none⟩=some (ag (some ⟨b',a1,none⟩) n' ce)/\w'.cell? ⟨b,off+i*6+2,none⟩=some (af ae A.kind)/\w'.cell? ⟨b,off+i*6+3,none⟩=some (ah A.text)/\w'.cell? ⟨b,off+i*6+4,none⟩=some (ag al A.leads.length aN)/\w'.cell? ⟨b,off+i*6+5,none⟩=some (ag ax A.kids.length ck)/\w'.cell? ⟨b',a1+j*6+2,none⟩=some (af ae C.kind)/\w'.cell? ⟨b',a1+j*6+3,none⟩=some (ah C.text)/\w'.cell? ⟨b',a1+j*6+4,none⟩=some (ag aJ C.leads.length aP)/\w'.cell? ⟨b',a1+j*6+5,none⟩=some (ag aB C.kids.length aM)) (first|(go_keep;done)) (fail)
 all_goals
  first
   |(obtain⟨W,aQ⟩:∃W,W=((w.alloc (.cells #[af ae A.kind,ah A.text,ag al A.leads.length aN,ag ax A.kids.length ck] 26)).alloc (.cells #[af ae C.kind,ah C.text,ag aJ C.leads.length aP,ag aB C.kids.length aM] 26)).drew:=⟨_,rfl⟩;rw[<-aQ];obtain⟨ab,ak,J⟩:=yz w #[af ae A.kind,ah A.text,ag al A.leads.length aN,ag ax A.kids.length ck] #[af ae C.kind,ah C.text,ag aJ C.leads.length aP,ag aB C.kids.length aM] 26 26;rw[<-aQ]at ab ak J;obtain⟨O,aZ⟩:∃g,g=w.heap.size+1:=⟨_,rfl⟩;rw[<-aZ]at ak⊢;obtain⟨ga,aY⟩:∃g,g=w.heap.size:=⟨_,rfl⟩;rw[<-aY]at ab⊢;clear aQ aY aZ;have aT:=aa ab;have aV:=aa ak;clear ab ak)
   |(obtain⟨W,aQ⟩:∃W,W=((w.alloc (.cells #[af ae C.kind,ah C.text,ag aJ C.leads.length aP,ag aB C.kids.length aM] 26)).alloc (.cells #[af ae A.kind,ah A.text,ag al A.leads.length aN,ag ax A.kids.length ck] 26)).drew:=⟨_,rfl⟩;rw[<-aQ];obtain⟨ab,ak,J⟩:=yz w #[af ae C.kind,ah C.text,ag aJ C.leads.length aP,ag aB C.kids.length aM] #[af ae A.kind,ah A.text,ag al A.leads.length aN,ag ax A.kids.length ck] 26 26;rw[<-aQ]at ab ak J;obtain⟨ga,aY⟩:∃g,g=w.heap.size+1:=⟨_,rfl⟩;rw[<-aY]at ak⊢;obtain⟨O,aZ⟩:∃g,g=w.heap.size:=⟨_,rfl⟩;rw[<-aZ]at ab⊢;clear aQ aY aZ;have aT:=aa ak;have aV:=aa ab;clear ab ak)
  have a0:=aT.out.cl 0;have bg:=aT.out.cl 1;have bm:=aT.out.cl 2;have bp:=aT.out.cl 3;have bq:=aV.out.cl 0;have bv:=aV.out.cl 1;have bz:=aV.out.cl 2;have bB:=aV.out.cl 3;simp only[bw,bc,List.getElem?_cons_succ]at a0 bg bm bp bq bv bz bB;have a2:=aT.out.lt;have a3:=aV.out.lt;have cn:=(J.cell (p:=⟨xb,2,none⟩) bV).trans cm;have ct:=bK bV J.size;have bY:=aa (X.out.I.below J);have J:=aa J;by_cases aX:A.kind=C.kind
  ·have cq:(A.kind !=C.kind)=false:=by simp[aX]
   rw[if_pos aX]at E;clear aX;go_wp2_with fail;go_region_held3(fun w'=>w'.cell? ⟨xb,2,none⟩=some (af ae budget)/\w'.cell? ⟨ga,0,none⟩=some (af ae A.kind)/\w'.cell? ⟨ga,1,none⟩=some (ah A.text)/\w'.cell? ⟨ga,2,none⟩=some (ag al A.leads.length aN)/\w'.cell? ⟨ga,3,none⟩=some (ag ax A.kids.length ck)/\w'.cell? ⟨O,0,none⟩=some (af ae C.kind)/\w'.cell? ⟨O,1,none⟩=some (ah C.text)/\w'.cell? ⟨O,2,none⟩=some (ag aJ C.leads.length aP)/\w'.cell? ⟨O,3,none⟩=some (ag aB C.kids.length aM)) (first|(go_keep;done)|exact⟨k2,bH,bI,bJ,bL,n0,bN,bO,bR⟩) (first|(go_at_call 64;refine(ua h _ (by exact bY.out.drew) _ _ A C budget bX.out ba.out bd.out co sb).mono ?_;rintro e ao ⟨v,rfl,cA,Y,cl⟩;have k2:=(Y.below.cell (p:=⟨xb,2,none⟩) ct).trans cn;have bH:=(Y.below.cell (p:=⟨ga,0,none⟩) a2).trans a0;have bI:=(Y.below.cell (p:=⟨ga,1,none⟩) a2).trans bg;have bJ:=(Y.below.cell (p:=⟨ga,2,none⟩) a2).trans bm;have bL:=(Y.below.cell (p:=⟨ga,3,none⟩) a2).trans bp;have n0:=(Y.below.cell (p:=⟨O,0,none⟩) a3).trans bq;have bN:=(Y.below.cell (p:=⟨O,1,none⟩) a3).trans bv;have bO:=(Y.below.cell (p:=⟨O,2,none⟩) a3).trans bz;have bR:=(Y.below.cell (p:=⟨O,3,none⟩) a3).trans bB;obtain⟨b9,cf,cc,cg,rfl,cD,-,-,-⟩:=cl;have aS:=aa Y;have a4:=bK a2 Y.below.size;have a5:=bK a3 Y.below.size;clear Y;generalize bE (aO A) (aO C) budget=am at*;have ch:∀w,(Instr.field 76 (.agg #[ag b9 am.aR.length cf,af ae am.cost,ay am.gT,af ae am.a7,ag cc am.proof.length cg]) 1).run ai w= .ok (af ae am.cost) w:=fun w=>by kernel_rfl));have bZ:=aa fun W (b:Below ao.heap.size ao W)=>nK A.size h W (aS.out.gq.below b) _ A ba.out (kI _) (by omega);have b0:=aa fun W (b:Below ao.heap.size ao W)=>nK C.size h W (aS.out.gq.below b) _ C bd.out (kI _) (by omega);have cV:ae.wrap ((A.size:Int)+(C.size:Int))=(A.size:Int)+(C.size:Int):=bA (by omega);have bT:bS (2*am.cost)=ae.wrap (2*am.cost):=by rw[IntKind.wrap_i64,bS,wrap64]
   rw[bT]at E;clear ch bT;go_wp2_with fail;go_region_held3(fun w'=>w'.cell? ⟨ga,0,none⟩=some (af ae A.kind)/\w'.cell? ⟨ga,1,none⟩=some (ah A.text)/\w'.cell? ⟨ga,2,none⟩=some (ag al A.leads.length aN)/\w'.cell? ⟨ga,3,none⟩=some (ag ax A.kids.length ck)/\w'.cell? ⟨O,0,none⟩=some (af ae C.kind)/\w'.cell? ⟨O,1,none⟩=some (ah C.text)/\w'.cell? ⟨O,2,none⟩=some (ag aJ C.leads.length aP)/\w'.cell? ⟨O,3,none⟩=some (ag aB C.kids.length aM)) (first|(go_keep;done)|exact⟨(G.out.cell a4).trans bH,(G.out.cell a4).trans bI,(G.out.cell a4).trans bJ,(G.out.cell a4).trans bL,(G.out.cell a5).trans n0,(G.out.cell a5).trans bN,(G.out.cell a5).trans bO,(G.out.cell a5).trans bR⟩) (first|(go_at_call 47;(with_reducible refine(bZ.out _ (by first|exact G.out|exact(aD _ _).drew)).mono ?_);rintro e a8 ⟨rfl,aL⟩;have G:Hid (Below ao.heap.size ao a8):=(by first|exact G.out.trans (aL.mono G.out.size)|exact((aD _ _).drew).trans aL);clear aL)|(go_at_call 47;(with_reducible refine(b0.out _ (by first|exact G.out|exact(aD _ _).drew)).mono ?_);rintro e a8 ⟨rfl,aL⟩;have G:Hid (Below ao.heap.size ao a8):=(by first|exact G.out.trans (aL.mono G.out.size)|exact((aD _ _).drew).trans aL);clear aL))
   all_goals
    by_cases hx:(A.size:Int)+(C.size:Int)<ae.wrap (2*am.cost);·rw[if_pos hx]at E;go_wp2_with fail;go_ret;exact⟨by rw[E.out];rfl,(J.out.drew).trans ((aS.out.below.trans (G.out.mono aS.out.size)).mono J.out.size)⟩
    ·rw[if_neg hx]at E;go_wp2_with fail;go_ret;exact⟨by rw[E.out];rfl,(J.out.drew).trans ((aS.out.below.trans (G.out.mono aS.out.size)).mono J.out.size)⟩
  ·have cq:(A.kind !=C.kind)=true:=by simp[aX]
   rw[if_neg aX]at E;clear aX;go_wp2_with fail;go_ret;exact⟨by rw[E.out];rfl,J.out⟩
end
theorem Ow.FJ{w:World}{h:Hp}{B:Nat}{e:TypeId}{k n m G:Nat}{a:Option Addr}{xs:List Value}(o:Ow w h B e k (ag a m G) n xs):n<=G:=by
 rcases o.row with⟨h1,⟨hv,rfl⟩|⟨g',J,O,hv,Y,ak,am,ab,aj,ao⟩⟩;·omega
 ·simp only[bU]at hv;omega
def o1(x:bq):Value:= .agg #[af ae x.module,af ae x.number,af ae x.size,af ae x.a6]
theorem FK(G:List (List Bool))(x:bq)(hn:x.number+x.size<=(G.getD x.module []).length):fX G x=(aw x.size).all fun j=> !((G.getD x.module []).getD (x.number+j) false):=by
 unfold fX;generalize G.getD x.module []=l at*;rw[Bool.eq_iff_iff,j4,j4];constructor
 ·intro h j hj;have Y:=ee.1 hj;have O:x.number+j<l.length:=by omega
  rw[bb,aE O];exact h _ (ij.2 ⟨j,by simp;omega,by simp⟩)
 ·intro h b J;obtain⟨j,hj,rfl⟩:=ij.1 J;simp at hj;have:=h j (ee.2 (by omega));rw[bb,aE (by omega)]at this;simpa using this
theorem yA{h:Hp}{w:World}(ab:ao h w){B sb:Nat}{tv aT aP mv av kv:Value}(Y:h sb=some #[tv,aT,aP,mv,av,kv])(G:List (List Bool))(F:Nat->Value)(on:hV h kv ((aw G.length).map F))(x:bq)(o:Ow w h B 4 1 (F x.module) (G.getD x.module []).length (dZ (G.getD x.module [])))(hm:x.module<G.length)(hn:x.number+x.size<=(G.getD x.module []).length)(hp:0<x.size)(a1:(G.getD x.module []).length<=1000000000):Calls ai 66 #[az (some ⟨sb,0,none⟩),o1 x] w fun e w'=>e= .returned (ay (fX G x))/\Below w.heap.size w w':=by
 rw[FK G x hn];obtain⟨aY,aN,rfl,a2,am⟩:=on.at ab;obtain⟨aM,aV,rfl,bp,aO,-⟩:=am x.module hm;obtain⟨aX,c1,ak⟩:=o.shape;rw[ak]at o aO;have aZ:=o.FJ;obtain⟨g,rfl,-,aB,-,aj,-⟩:=o.cell (by omega)
 have aG:Hid (∀j,j<x.size->w.cell? ⟨g,x.number+j,none⟩=some (ay ((G.getD x.module []).getD (x.number+j) false))):=fun j hj=>aj _ _ (by
  generalize G.getD x.module []=l at*;have:x.number+j<l.length:=by omega
  simp only[dZ,jB,bb,aE this,fa,BW])
 have a3:w.cell? ⟨sb,5,none⟩=some (ag (some ⟨aM,aV,none⟩) G.length aN):=cu ab Y 5;have zs:=cD (ab _ _ Y);obtain⟨m,n,sz,c⟩:=x;simp only[o1]at*;generalize aS:G.getD m []=l at*;have a8:(0:Int)<=(m:Int):=by omega
 have a9:(m:Int)<(G.length:Int):=by omega
 have ba:(0:Int)<=(n:Int):=by omega
 have bd:ae.wrap ((n:Int)+(sz:Int))=((n+sz:Nat):Int):=by rw[bA (by omega)];omega
 have bg:n<=n+sz:=by omega
 have bm:n+sz<=c1:=by omega
 clear o aj on am Y aS ak;go_in;go_wp2_with fail;go_quiet(fail);go_wp2_with fail;go_loopw[24] (fun i wr=>∃(j:Nat),j<=sz/\i=af ae j/\(∀k,k<j->l.getD (n+k) false=false)/\Below w.heap.size w wr) (fun i _=>sz-(intOf i).toNat);case atStart=>exact⟨0,Nat.zero_le _,rfl,fun k J=>by omega,((aD _ _).alloc (kI _) _).drewN _⟩
 case round=>
  obtain⟨j,hj,rfl,J,bl⟩:=hrel;by_cases ax:j<sz
  ·have d0:=(bl.cell (p:=⟨g,n+j,none⟩) aB).trans (aG.out j ax);have bv:=bK aB bl.size;have a4:(0:Int)<=(j:Int):=by omega
   have a5:(j:Int)<(sz:Int):=by omega
   have O:=aa bl;have aJ:=aa J;clear bl J;cases hx:l.getD (n+j) false with
   |true=>
    rw[hx]at d0;have R:Hid (((aw sz).all fun j=> !(l.getD (n+j) false))=false):=by unfold Hid;rw[List.all_eq_false];exact⟨j,ee.2 ax,by rw[hx];simp⟩
    clear hx;go_wp2_with fail;go_ret;exact⟨by rw[R.out];rfl,O.out⟩
   |false=>
    rw[hx]at d0
    have aL:Hid (∀k,k<j+1->l.getD (n+k) false=false):=fun k J=>by
     by_cases e:k=j;·subst e;exact hx
     ·exact aJ.out k (by omega)
    clear hx;go_wp2_with fail;go_roundw;case rel=>exact⟨j+1,by omega,by go_num,aL.out,O.out⟩
    case measure=>simp[intOf];omega
  ·obtain rfl:j=sz:=by omega
   have R:Hid (((aw j).all fun k=> !(l.getD (n+k) false))=true):=by unfold Hid;rw[j4];exact fun k aQ=>by rw[J k (ee.1 aQ)];rfl
   have O:=aa bl;clear bl J;go_wp2_with fail;go_ret;exact⟨by rw[R.out];rfl,O.out⟩
def cX(x:bq):List Value:=[af ae x.module,af ae x.number,af ae x.size,af ae x.a6]
def hB(kn:List ByteArray):List (ByteArray×Value):=kn.mapIdx fun i k=>(k,af ae (i:Nat))
def j8(s:ByteArray):Value:=ah s
def mB(T:fq)(s:ByteArray):List UInt8:=(Lib.quoteZ T s).map fun n=>UInt8.ofNat n.toNat
def pE(T:fq)(k:Int)(s:ByteArray)(cs:List Nat):List UInt8:=eQ k++([32]++(mB T s++cs.flatMap fun(c:Nat)=>32::eQ c))
def aX(T:fq)(k:Int)(s:ByteArray)(cs:List Nat):ByteArray:=⟨(pE T k s cs).toArray⟩
theorem Cx(kn:List ByteArray):(hB kn).length=kn.length:=by simp[hB]
theorem yE(kn:List ByteArray)(key:ByteArray):bm (hB kn) key=kn.findIdx? fun k=>decide (k=key):=by rw[uh];congr 1;apply lF;intro i;simp only[hB,jB,px,vJ];cases kn[i]? <;>rfl
theorem Cw(kn:List ByteArray)(key:ByteArray):aT (hB kn) key=(kn.findIdx? fun k=>decide (k=key)).map fun i=>af ae (i:Nat):=by
 unfold aT;rw[yE];cases h:kn.findIdx? fun k=>decide (k=key)with
 |none=>rfl
 |some i=>have G:=(List.findIdx?_eq_some_iff_getElem.1 h).1;simp[hB,px,G]
theorem Cs(kn:List ByteArray)(key:ByteArray)(h:(kn.findIdx? fun k=>decide (k=key))=none):aY (hB kn) key (af ae (kn.length:Nat))=hB (kn++[key]):=by unfold aY;rw[yE,h];simp[hB,List.mapIdx_append]
structure yF(T:fq)(w:World):Prop where
 FN:Lib.TabIs ai w "internal/strconv.uint64pow10" .u64 Lib.pow10Tab
 print:Lib.PrintTabsAt (dM.g 20) (dM.g 21) (dM.g 22) (dM.g 23) T w
 FO:Lib.Utf8Tabs (dM.g 3) (dM.g 4) w
def Tb(T:fq)(N:Nat)(w:World):Prop:=N<=w.heap.size/\∀w',Below N w w'->yF T w'
theorem Tb.below{T:fq}{N:Nat}{w w':World}(t:Tb T N w)(b:Below N w w'):Tb T N w':=⟨b5 t.1 b.size,fun v c=>t.2 v (b.trans c)⟩
theorem Tb.tabs{T:fq}{N:Nat}{w:World}(t:Tb T N w):yF T w:=t.2 w (aD _ _)
theorem wA{T:fq}{N:Nat}{w:World}(t:Tb T N w)(n:Int)(h:aG n):Calls ai 153 #[af ae n] w fun e w'=>e= .returned (ah ⟨(eQ n).toArray⟩)/\Below w.heap.size w w':=by refine(Any.strconv_Itoa Tryz.itoaL n h.1 h.2 w t.tabs.FN).mono ?_;rintro e w' ⟨rfl,k,os,rfl⟩;exact⟨rfl,Lib.below_grow _ w (kI _) k os⟩
theorem Cv{T:fq}{N:Nat}{w:World}(t:Tb T N w)(s:ByteArray)(h:s.size<=1000000):Calls ai 155 #[ah s] w fun e w'=>e= .returned (ah ⟨(mB T s).toArray⟩)/\Below w.heap.size w w':=
 Any.strconv_Quote B9 (by kernel_rfl) T s w (by omega) t.tabs.print t.tabs.FO
theorem wC(B b:Nat)(l:List UInt8)(w:World)(h:hP B b (vB l) w)(G:l≠[]):Calls ai 156 #[az (some ⟨b,0,none⟩)] w fun e w'=>e= .returned (ah ⟨l.toArray⟩)/\hP B b (vB l) w'/\jJ B b w w':=
 Any.Builder_String_k Tryz.bstL {sizeBuilder:=by kernel_rfl,liesBuilder:=by kernel_rfl,t5:=Tryz.underlying5,a5:=Tryz.isAgg5,z5:=Tryz.sizeOf5,v5:=Tryz.zeroValue5,infoByte:=by kernel_rfl,cellsByte:=by kernel_rfl,sizeByte:=by kernel_rfl,neB5:=by decide} B b l w h G
open Go.ChangeMaps (setBlock)
theorem filter_or(f p:Nat->Bool)(b:Nat)(G:f b=false):∀(L:List Nat),L.Nodup->b∈L->(L.filter fun i=>(f i||i==b)&&p i).length=(L.filter fun i=>f i&&p i).length+if p b=true then 1 else 0
 |[],_,h=>by cases h
 |a::L,hn,hm=>by
  have J:=List.nodup_cons.1 hn;by_cases e:a=b
  ·subst e
   have:(L.filter fun i=>(f i||i==a)&&p i)=L.filter fun i=>f i&&p i:=by
    apply Ca;intro x hx;have:(x==a)=false:=by simpa using fun(e:x=a)=>J.1 (e▸hx)
    rw[this,Bool.or_false]
   cases hp:p a<;>simp[G,hp,this]
  ·have h1:=filter_or f p b G L J.2 ((List.mem_cons.1 hm).resolve_left fun x=>e x.symm);have:(a==b)=false:=by simpa using e
   simp only[qG,this,Bool.or_false];split<;>simp[h1]<;>omega
def iV(n:Nat)(p:Nat->Bool)(seen:Array Nat):Nat:=((aw n).filter fun i=>seen.contains i&&p i).length
theorem FQ{n:Nat}{p:Nat->Bool}{seen:Array Nat}{b:Nat}(G:seen.contains b=false)(J:b<n):iV n p (seen.push b)=iV n p seen+if p b=true then 1 else 0:=by
 unfold iV;have:(fun i=>(seen.push b).contains i&&p i)=fun i=>((fun i=>seen.contains i) i||i==b)&&p i:=by funext i;rw[contains_push]
 rw[this];exact filter_or (fun i=>seen.contains i) p b G _ B4 (ee.2 J)
theorem FR{n:Nat}{p:Nat->Bool}{seen:Array Nat}(h:∀i,i<n->seen.contains i=true):iV n p seen=((aw n).filter p).length:=by unfold iV;congr 1;apply Ca;intro x hx;rw[h x (ee.1 hx),Bool.true_and]
theorem FT{α:Type}(l:List α)(p:α->Bool):((aw l.length).filter fun i=>((l[i]?).map p).getD false).length=(l.filter p).length:=by
 induction l with
 |nil=>rfl
 |cons a l G=>
  rw[List.length_cons,List.range_succ_eq_map,qG,qG,List.filter_map];have:((fun i=>(((a::l)[i]?).map p).getD false)∘Nat.succ)=fun i=>((l[i]?).map p).getD false:=by funext i;simp
  rw[this];simp only[bc,fa,BW];split<;>simp[G]
theorem yG(n:Nat)(p:Nat->Bool):iV n p #[]=0:=by unfold iV;rw[List.length_eq_zero_iff,List.filter_eq_nil_iff];intro i _;simp
theorem FU:∀(J:List Tree),∀q∈bX J,q.2=ay true:=by
 intro J;unfold bX;refine hX (P:=fun(l:List (lU×Value))=>∀q∈l,q.2=ay true) _ _ (fun q G=>by cases G) fun l d _ h q G=> ?_;rcases oM G with h1|rfl;·exact h q h1
 ·rfl
theorem yH{K α:Type}[DecidableEq K]{l:List (K×α)}{p:K}{v:α}(h:aT l p=some v):∃q∈l,q.2=v:=by
 unfold aT at h;cases hp:bm l p with
 |none=>rw[hp]at h;cases h
 |some k=>rw[hp]at h;have G:=fv hp;simp only[Option.bind_some,aE G,fa,aC]at h;exact⟨l[k],List.getElem_mem G,h⟩
theorem FV{K:Type}(enc:K->Value)(l:List (K×Value)):(bR enc l).map (·.born)=aw l.length:=by
 apply lF;intro i;simp only[bR,jB,px,vJ];by_cases h:i<l.length;·simp[h]
 ·simp[h]
theorem yI{K:Type}{enc:K->Value}{l:List (K×Value)}{e:MapEntry}(h:e∈bR enc l):∃k,∃G:k<l.length,e={key:=enc (l[k]).1,val:=(l[k]).2,born:=k}:=by obtain⟨k,G,rfl⟩:=ij.1 h;rw[ug]at G;exact⟨k,G,by simp[bR]⟩
theorem yJ{K:Type}{enc:K->Value}{l:List (K×Value)}{w wr:World}{G:Nat}{seen:Array Nat}(hr:wr.heap[w.heap.size]? =some (.mapIter (some G) l.length seen l.length))(bl:Below w.heap.size w wr)(m:aS enc wr G l)(ax:G<w.heap.size)(ty:TypeId):((∀i,i<l.length->seen.contains i=true)/\(vZ (az (some ⟨w.heap.size,0,none⟩)) false ty).run ai wr= .ok (bD #[ay false]) wr)\/
  ∃k,∃J:k<l.length,seen.contains k=false/\∃W,(vZ (az (some ⟨w.heap.size,0,none⟩)) false ty).run ai wr= .ok (bD #[ay true,enc (l[k]).1,(l[k]).2]) W/\W.heap[w.heap.size]? =some (.mapIter (some G) l.length (seen.push k) l.length)/\Below w.heap.size w W/\W.heap.size=wr.heap.size/\
   (Instr.entry (az (some ⟨w.heap.size,0,none⟩))).run ai W= .ok (bD #[enc (l[k]).1,(l[k]).2]) W/\(leftOf (bR enc l).toArray (seen.push k)).size<(leftOf (bR enc l).toArray seen).size:=by
 have hold:∀x∈(bR enc l).toArray.toList,x.born<l.length:=fun x hx=>by obtain⟨k,J,rfl⟩:=yI (by simpa using hx);exact J
 have hn:((bR enc l).toArray.toList.map (·.born)).Nodup:=by show((bR enc l).map (·.born)).Nodup;rw[FV];exact B4
 rcases run_next_at (P:=ai) wr ty w.heap.size G l.length l.length seen (bR enc l).toArray l.length hr m hold (kI _)with⟨ab,O⟩|⟨e,he,w1,ao,O⟩;·refine .inl ⟨fun i aj=> ?_,O⟩;exact all_seen _ _ ab {key:=enc (l[i]).1,val:=(l[i]).2,born:=i} (by show _∈bR enc l;exact ij.2 ⟨i,by rw[ug];exact aj,by simp[bR]⟩)
 ·have hm:=mem_left he;have am:=left_shrinks _ _ _ he;obtain⟨k,J,rfl⟩:=yI (e:=e) (by simpa using hm.1);have h1:w1.heap=wr.heap/\w1.os=wr.os/\w1.tape=wr.tape/\w1.output=wr.output:=by rcases ao with rfl|rfl<;>exact⟨rfl,rfl,rfl,rfl⟩
  have Y:w.heap.size<wr.heap.size:=by
   rcases Nat.lt_or_ge w.heap.size wr.heap.size with q|q;·exact q
   ·rw[iF q]at hr;cases hr
  refine .inr ⟨k,J,hm.2,_,O,?_,?_,?_,?_,am⟩;·simp[setBlock,h1.1,Y]
  ·refine⟨h1.2.1.trans bl.os,h1.2.2.1.trans bl.tape,h1.2.2.2.trans bl.output,by simp[setBlock,h1.1];omega,fun q ak=> ?_⟩;rw[<-bl.block q ak];have:¬w.heap.size=q:=by omega
   simp[setBlock,h1.1,this]
  ·simp[setBlock,h1.1]
  ·refine run_entry_at _ _ G l.length seen (bR enc l).toArray l.length _ (by simp[setBlock,h1.1,Y]) ?_ hm.1 hn;have:¬w.heap.size=G:=by omega
   unfold aS at m;simp only[setBlock,h1.1,Array.getElem?_setIfInBounds,this,if_false];exact m
section
variable {h:Hp} {w:World} {xb so sn:Nat} {budget:Int} {ts us:List Tree} {mr nr:List Nat} {mv av kv eo eN dR:Value}
theorem FX(x:iU h w xb so sn budget)(K:cC h so ts mr mv av kv)(a2:cC h sn us nr eo eN dR)(M:iz w mr ts)(M':iz w nr us)(i j:Nat)(a8:i<ts.length)(hj:j<us.length)(bV:(bX (ts.getD i default).kids).length<=1000000)(bY:(bX (us.getD j default).kids).length<=1000000):Calls ai 55 #[az (some ⟨xb,0,none⟩),af ae i,af ae j] w (nB (iT (bX (ts.getD i default).kids) (bX (us.getD j default).kids)) w):=by
 obtain⟨tv,b9,bO,aL,-,-,on⟩:=K.box;obtain⟨ci,cc,bS,aM,-,-,bq⟩:=a2.box;obtain⟨a,bE,rfl,bZ,fn⟩:=on.at x.I;obtain⟨a',bG,rfl,b0,a5⟩:=bq.at x.I;obtain⟨bB,oa,rfl,ct,da,-⟩:=fn i a8;obtain⟨bC,bL,rfl,cv,db,-⟩:=a5 j hj;have cg:w.cell? ⟨so,1,none⟩=some (ag (some ⟨bB,oa,none⟩) ts.length bE):=cu x.I aL 1;have ch:w.cell? ⟨sn,1,none⟩=some (ag (some ⟨bC,bL,none⟩) us.length bG):=cu x.I aM 1;have zs:=cD (x.I _ _ aL);have cz:=cD (x.I _ _ aM);have cd:=x.c0;have ce:=x.c1;have cw:=x.lt;have cm:(0:Int)<=(i:Int):=by omega
 have cn:(i:Int)<(ts.length:Int):=by omega
 have co:(0:Int)<=(j:Int):=by omega
 have cq:(j:Int)<(us.length:Int):=by omega
 have bm:=M i a8;have bp:=M' j hj;have bz:Hid (∀q∈bX (us.getD j default).kids,q.2=ay true):=FU _;generalize bX (ts.getD i default).kids=A at*;generalize bX (us.getD j default).kids=C at*;generalize mr.getD i 0=aV at*;generalize nr.getD j 0=rb at*;have J:=aa bm;have am:=aa bp;have R:Hid (iT A C=if hW A C=0 then 1048576 else(A.length:Int)+C.length-2*hW A C):=rfl;generalize iT A C=cf at*;clear bm bp K a2 M M' aL aM on bq fn a5 x;go_in;go_wp2_with fail;go_quiet(fail);have bJ:(Instr.range 97 (.map (some aV))).run ai (w.drewN nq)=_:=run_range_map (w.drewN nq) 97 99 4 aV _ A.length qH J.out;go_wp2_with fail;have aG:Hid (hW A C=((aw A.length).filter fun i=>((A[i]?).map fun q=>(aT C q.1).isSome).getD false).length):=by unfold Hid hW;rw[FT A fun q=>(aT C q.1).isSome]
 generalize hp:(fun i:Nat=>((A[i]?).map fun q=>(aT C q.1).isSome).getD false)=p at aG;have bv:Hid (∀k (Y:k<A.length),p k=(aT C (A[k]).1).isSome):=fun k Y=>by rw[<-hp];simp only[aE Y,fa,BW]
 clear hp bJ;go_loopw[9] (fun s wr=>∃seen:Array Nat,s=af ae (iV A.length p seen:Nat)/\wr.heap[w.heap.size]? =some (.mapIter (some aV) A.length seen A.length)/\Below w.heap.size w wr/\iV A.length p seen<=A.length) (fun s wr=>(leftOf (bR dQ A).toArray (wr.iterSeen w.heap.size)).size);case atStart=>exact⟨#[],by simp[yG],heap_alloc_new _ _,((aD _ _).drewN _).alloc (kI _) _,by simp[yG]⟩
 case round=>
  obtain⟨seen,rfl,hr,bl,a9⟩:=hrel;rcases yJ hr bl (J.out.keep (bl.block _ J.out.lt)) J.out.lt 0 with⟨aJ,aj⟩|⟨k,Y,ax,W,aj,ao,O,bg,bH,aN⟩
  ·have aB:Hid (iV A.length p seen=hW A C):=by unfold Hid;rw[aG.out];exact FR aJ
   have ba:∀ty,(vZ (az (some ⟨w.heap.size,0,none⟩)) false ty).run ai wr=_:=fun ty=>(by
    rcases yJ hr bl (J.out.keep (bl.block _ J.out.lt)) J.out.lt ty with⟨-,q⟩|⟨k,Y,ax,-⟩;·exact q
    ·rw[aJ k Y]at ax;cases ax)
   have ak:=aa bl;have bT:=fun ty=>(J.out.keep (ak.out.block _ J.out.lt)).qL qH ty;have l2:=fun ty=>(am.out.keep (ak.out.block _ am.out.lt)).qL qH ty;rw[aB.out]at a9;simp only[aB.out];have w1:ae.wrap ((A.length:Int)+(C.length:Int))=(A.length:Int)+C.length:=bA (by omega);have w2:ae.wrap (2*(hW A C:Int))=2*(hW A C:Int):=bA (by omega);have w3:ae.wrap ((A.length:Int)+C.length-2*(hW A C:Int))=(A.length:Int)+C.length-2*(hW A C:Int):=bA (by omega);generalize hW A C=S at*;clear hr bl aJ aj aB aG;by_cases hS:S=0;·rw[if_pos hS]at R;subst hS;go_wp2_with fail;go_ret;exact⟨by rw[R.out];rfl,ak.out⟩
   ·rw[if_neg hS]at R;have cj:((S:Int)==0)=false:=by simp;omega
    have cl:¬(S:Int)=0:=by omega
    go_wp2_with fail;go_ret;exact⟨by rw[R.out];rfl,ak.out⟩
  ·have ba:∀ty,(vZ (az (some ⟨w.heap.size,0,none⟩)) false ty).run ai wr= .ok (bD #[ay true,dQ (A[k]).1,(A[k]).2]) W:=fun _=>aj;have G:=FQ (p:=p) ax Y;rw[bv.out k Y]at G;have aQ:aS dQ (W.alloc (.cells #[af ae (A[k]).1.1,ah (A[k]).1.2] 99)) rb C:=am.out.keep ((((O.alloc O.size _).block _ am.out.lt)));have ab:=(aQ.look x4 (A[k]).1 97 4 (ay false) qH (fun W=>by kernel_rfl)).1;have aY:=aa ao;have aX:=aa (O.alloc O.size (.cells #[af ae (A[k]).1.1,ah (A[k]).1.2] 99));have aP:((W.alloc (.cells #[af ae (A[k]).1.1,ah (A[k]).1.2] 99)).iterSeen w.heap.size)=seen.push k:=by unfold KB;rw[oi _ _ (by rw[bg];exact Nat.lt_of_le_of_ne bl.size (fun e=>by rw[e,iF (kI _)]at hr;cases hr)),ao]
   have aO:wr.iterSeen w.heap.size=seen:=by unfold KB;rw[hr]
   have a3:=aa aN;have a1:=aa aP;have aZ:=aa aO;have bN:W.heap.size≠w.heap.size:=fun e=>by rw[<-e,bg,iF (kI _)]at hr;cases hr
   have a4:w.heap.size<W.heap.size:=by have:=O.size;omega
   simp only[dQ]at ba ab bH;cases hg:aT C (A[k]).1 with
   |none=>
    rw[hg]at G ab;simp only[Option.isSome_none,Bool.false_eq_true,if_false,Nat.add_zero,Option.getD_none]at G ab;have G:=aa G;clear hr bl aj ao O aN aO aP aQ hg;go_wp2_with fail;go_roundw;case rel=>exact⟨seen.push k,by rw[G.out],by rw[oi _ _ a4];exact aY.out,aX.out,by rw[G.out];exact a9⟩
    case measure=>rw[aZ.out,a1.out];exact a3.out
   |some v=>
    obtain⟨q,bd,rfl⟩:=yH hg;rw[hg,bz.out q bd]at ab;rw[hg]at G;simp only[Option.isSome_some,if_true,BW]at G ab;have G:=aa G;have bI:iV A.length p seen+1<=A.length:=by rw[<-G.out];unfold iV;exact b5 (List.length_filter_le _ _) (by simp)
    have w1:ae.wrap ((iV A.length p seen:Int)+1)=((iV A.length p seen+1:Nat):Int):=by rw[bA (by omega)];omega
    clear hr bl aj ao O aN aO aP aQ hg bd;go_wp2_with fail;go_roundw;case rel=>exact⟨seen.push k,by rw[G.out,Int.natCast_add];rfl,by rw[oi _ _ a4];exact aY.out,aX.out,by rw[G.out];exact bI⟩
    case measure=>rw[aZ.out,a1.out];exact a3.out
end
open Go.RowKit Go.Lib
theorem FZ{W:World}(G:oF ai Rows.pairingSelfRow.laid W):Lib.PrintTabsAt (dM.g 20) (dM.g 21) (dM.g 22) (dM.g 23) fL W:=
 printTabs_of_reads (ρ:=dM) {B9 with} ⟨by kernel_rfl,by kernel_rfl,by kernel_rfl,by kernel_rfl,by kernel_rfl,by kernel_rfl,by kernel_rfl,by kernel_rfl,by kernel_rfl,by kernel_rfl⟩ (py G (nw (i:=7) (by kernel_rfl))) (py G (nw (i:=5) (by kernel_rfl))) (py G (nw (i:=8) (by kernel_rfl))) (py G (nw (i:=6) (by kernel_rfl)))
theorem F0{W:World}(G:oF ai Rows.pairingSelfRow.laid W):Lib.Utf8Tabs (dM.g 3) (dM.g 4) W:=
 utf8Tabs_of_reads (ρ:=dM) {B9 with} ⟨by kernel_rfl,by kernel_rfl,by kernel_rfl,by kernel_rfl,by kernel_rfl,by kernel_rfl,by kernel_rfl⟩ (py G (nw (i:=9) (by kernel_rfl))) (py G (nw (i:=3) (by kernel_rfl)))
theorem F1{P:Program}{W:World}{name:String}{k:IntKind}{zs:List Int}{g:Nat}{t e:TypeId}{n:Nat}(J:P.globalNamed name=some g)(aj:(P.globals[g]?).map (·.type)=some t)(Y:P.underlying t=some (.array n e))(he:P.underlying e=some (.int k))(hce:P.cellsOf e=1)(G:P.cellsOf t=n)(h:Lib.VarReads P W name (tabData k zs)):TabIs P W name k zs:=by obtain⟨g',t',cs,am,p,O,ab,ak,hd⟩:=h;obtain rfl:=aU (J.symm.trans O);obtain rfl:=aU (aj.symm.trans ab);unfold TabIs;rw[ak,<-cells_of_tab Y he hce G hd]
theorem F2{W:World}(G:oF ai Rows.pairingSelfRow.laid W):Lib.TabIs ai W "internal/strconv.uint64pow10" .u64 Lib.pow10Tab:=
 F1 (n:=20) (g:=(ai.globalNamed "internal/strconv.uint64pow10").getD 0) (t:=290) (e:=166) (by kernel_rfl) (by kernel_rfl) (by kernel_rfl) (by kernel_rfl) (by kernel_rfl) (by kernel_rfl) (py G (nw (i:=2) (by kernel_rfl)))
theorem F3{W:World}(G:oF ai Rows.pairingSelfRow.laid W):Tb fL W.heap.size W:=
 ⟨kI _,fun w' b=>⟨TabIs_below (g:=(ai.globalNamed "internal/strconv.uint64pow10").getD 0) (by kernel_rfl) (F2 G) b,printTabs_below (FZ G) b,Utf8Tabs_below (F0 G) b⟩⟩
end Go.Proofs.YtdplggpbgommnaaGreatDoor
