/- Sizes of trees; comparisons of pairs; small functions. -/
import Derived.Test.YtdplggpbgommnaaGreatDoorG02
import Derived.Test.YtdplggpbgommnaaGreatDoorSh
open Array renaming getElem?_append_left→Kf,getElem?_eq_getElem→pn,getElem?_modify→Bu,getElem?_toList→vO
open Go renaming getObj→kE,run_underlying→gl,wpList→dI
open Go.Addr.mk renaming injEq→cx
open Go.ByteArray renaming toList_eq→eT
open Go.Calls renaming mono→vP
open Go.Instr renaming entryStore→Kk,mapEntry→Km,sameBits→lE
open Go.IntKind renaming i64→ae
open Go.Lib renaming hid→aa
open Go.Op renaming equalIn→nn,equal→pf
open Go.Oper renaming wp→jC
open Go.Proofs.Tryz renaming func187→BG,ntmps187→BH,prog→ai,underlying3→sA,underlying9→vW
open Go.Result renaming andThen_ok→mh,andThen→nj
open Go.RowKit.Below renaming heap_setCell→cH,refl→aD
open Go.Sem renaming run_bind→lD,run→kF
open Go.Sort renaming ahead→vN,alloc_eq_grow→BI
open Go.Value renaming agg→aq,int→af,ownBlock→bW,slice→ag,string→ah,tuple→bD
open Go.Value.slice renaming injEq→bU
open Go.World renaming cell?_alloc_at→cJ,cell?_alloc_past→eg,cell?_of_block→dc,drew→dd,setCell→ef
open Go.World.grownBy renaming refl→kC
open List renaming ext_getElem?→lF,findIdx?_toArray→Kl,getElem?_append_right→ih,getElem?_eq_getElem→aE,getElem?_eq_none→gM,getElem?_mapIdx→px,getElem?_modify→BX,length_eq_zero_iff→BL,set_append_right→ma,size_toArray→j6,take_of_length_le→iG
open Nat renaming eq_zero_or_pos→et,le_refl→an,lt_or_ge→b7,zero_add→cO,zero_le→aW
open Option renaming map_some→fa
open Option.some renaming injEq→aC,inj→aU
set_option maxHeartbeats 2000000
set_option maxRecDepth 100000
namespace Go.Proofs.YtdplggpbgommnaaGreatDoor
open Go.RowKit
theorem nK(n:Nat):∀(h:Hp) (w:World) (_:ao h w) (v:Value) (t:Tree) (_:aP h v t) (_:t.size≤n) (_:t.size≤1000000000),Calls ai 47 #[v] w fun e w'=>e= .returned (af ae t.size)∧Below w.heap.size w w':=by
 induction n with
 |zero=>intro h w O v t E G;cases t;simp[Tree.size]at G
 |succ n ad=>
  intro h w O v t E G aG;obtain⟨aN,aS,aL,ck,xs,rfl,a1,a3,a2,aJ,M,aB⟩:=E.open;have hz:=Tree.size_eq t;have aj:=aa hz;rw[hz]at G aG;have ak:=aa ad;clear ad E hz;go_enter Tryz.func47,Tryz.ntmps47;go_wp2;go_loopw[3,5,9,10,11,12,13,14,15,16,17] (fun c _ i _ _ _ _ _ _ _ _ wr=>∃j:Nat,j≤t.kids.length∧i=af ae j∧c=af ae (1+ax (t.kids.take j))∧Below w.heap.size w wr) (fun _ _ i _ _ _ _ _ _ _ _ _=>t.kids.length-(intOf i).toNat);case atStart=>exact⟨0,aW _,rfl,rfl,(aD _ _).alloc (an _) _⟩
  case round=>
   obtain⟨j,hj,rfl,rfl,A⟩:=hrel;have aJ:=jK t.kids j;by_cases ab:j<t.kids.length
   ·have Y:=O.below A;obtain⟨b,a4,aO,aT,aM,aQ,rfl,-,aV,aX,aY,aZ,E⟩:=j9 M aB Y j ab;have ac:=aa (eY t.kids j ab);have M:=jK t.kids (j+1);rw[ac.out]at M;go_wp2_with fail;refine(ak.out h _ ?_ _ _ E (by omega) (by omega)).mono ?_;·exact Y.alloc _
    ·rintro e w1 ⟨rfl,am⟩;go_wp2_with fail;go_roundw;case rel=>exact⟨j+1,by omega,by go_num,by rw[ac.out];go_num,(A.alloc A.size _).trans (am.mono (by have:=A.size;simp;omega))⟩
     case measure=>simp[intOf];omega
   ·go_wp2_with fail;go_ret;have:t.kids.take j=t.kids:=iG (by omega);exact⟨by rw[aj.out,this];simp;omega,A⟩
def cZ(a b:ByteArray):Int:=if a=b then 0 else 1
theorem bytes_inj{a b:ByteArray}(h:a.toList=b.toList):a=b:=by rw[eT,eT]at h;obtain⟨⟨x⟩⟩:=a;obtain⟨⟨y⟩⟩:=b;simp only at h;rw[h]
theorem Dt{a b:ByteArray}(h:a=b):(a.toList==b.toList)=true:=by simp[h]
theorem Du{a b:ByteArray}(h:a≠b):(a.toList==b.toList)=false:=by rw[beq_eq_false_iff_ne];intro e;exact h (bytes_inj e)
theorem tt(w:World)(k1 k2 ab ac ad aj:Int)(A E:ByteArray)(G M:Option Addr)(O Y c1 c2:Nat):
  Calls ai 150 #[aq #[af ae k1,ah A,af ae ab,ag G O c1,af ae ad],aq #[af ae k2,ah E,af ae ac,ag M Y c2,af ae aj]] w fun e w'=>e= .returned (af ae (cZ A E))∧Below w.heap.size w w':=by
 by_cases h:A=E;·have g:=Dt h;have H:=aa h;clear h;go_enter Tryz.func150,Tryz.ntmps150;go_wp2;go_ret;exact⟨by rw[cZ,if_pos H.out];rfl,((aD _ _).alloc (an _) _).alloc (by simp) _⟩
 ·have g:=Du h;have H:Hid (A≠E):=h;clear h;go_enter Tryz.func150,Tryz.ntmps150;go_wp2;go_ret;exact⟨by rw[cZ,if_neg H.out];rfl,((aD _ _).alloc (an _) _).alloc (by simp) _⟩
theorem tw(w:World)(x:Int):Calls ai 214 #[af ae x] w fun e w'=>e= .returned (.bool false)∧w=w':=by
 have g:(x !=x)=false:=by simp
 go_enter Tryz.func214,Tryz.ntmps214;go_wp2;go_ret;exact⟨rfl,rfl⟩
def kQ(x y:Int):Int:=if x<y then-1 else if y<x then 1 else 0
theorem Dv(w:World)(x y:Int):Calls ai 187 #[af ae x,af ae y] w fun e w'=>e= .returned (af ae (kQ x y))∧w=w':=by
 by_cases h1:x<y;·go_enter BG,BH;go_wp2_with(go_at_call 214;refine(tw _ _).mono ?_;rintro e w' ⟨rfl,rfl⟩);go_ret;exact⟨by rw[kQ,if_pos h1];rfl,rfl⟩
 ·have A:y≤x:=by omega
  by_cases h2:y<x;·go_enter BG,BH;go_wp2_with(go_at_call 214;refine(tw _ _).mono ?_;rintro e w' ⟨rfl,rfl⟩);go_ret;exact⟨by rw[kQ,if_neg (by omega),if_pos h2];rfl,rfl⟩
  ·have E:x≤y:=by omega
   go_enter BG,BH;go_wp2_with(go_at_call 214;refine(tw _ _).mono ?_;rintro e w' ⟨rfl,rfl⟩);go_ret;exact⟨by rw[kQ,if_neg (by omega),if_neg (by omega)];rfl,rfl⟩
def jP:List Int→Int
 |[]=>0
 |x::l=>if x=0 then jP l else x
theorem Dw(l:List Int)(k:Nat)(A:k<l.length):jP (l.drop k)=if l[k]=0 then jP (l.drop (k+1))else l[k]:=by rw[List.drop_eq_getElem_cons A,jP]
theorem Dx(w:World)(l:List Int)(b:Nat)(ab:Nat)(aj:l.length≤140737488355328)(E:∀k (ac:k<l.length),w.cell? ⟨b,k,none⟩=some (af ae l[k])):Calls ai 186 #[ag (some ⟨b,0,none⟩) l.length ab] w fun e w'=>e= .returned (af ae (jP l))∧w=w':=by
 have Y:=aa E;clear E;go_enter Tryz.func186,Tryz.ntmps186;go_wp2;go_loop[2,5,8,9,10,11,12,13,14,15,16] (fun _ _ i _ _ _ _ _ _ _ _=>∃k:Nat,k≤l.length∧i=af ae k∧Hid (jP (l.drop k)=jP l)) (fun _ _ i _ _ _ _ _ _ _ _=>l.length-(intOf i).toNat);case atStart=>exact⟨0,aW _,rfl,rfl⟩
 case round=>
  obtain⟨k,ac,rfl,M⟩:=hrel;by_cases G:k<l.length
  ·have ad:=Y.out k G;have A:Hid (jP l=if l[k]=0 then jP (l.drop (k+1))else l[k]):=by unfold Hid;rw[←M.out];exact Dw l k G
   generalize l[k]=x at*;by_cases h1:x=0
   ·subst h1;go_wp2;go_round;case rel=>exact⟨k+1,by omega,by go_num,by unfold Hid;rw[A.out];simp⟩
    case measure=>simp[intOf];omega
   ·have g:=q0 h1;have O:Hid (x≠0):=h1;clear h1;go_wp2;go_ret;exact⟨by rw[A.out,if_neg O.out];rfl,rfl⟩
  ·go_wp2;go_ret;have:=M.out;rw[List.drop_of_length_le (by omega)]at this;exact⟨by rw[←this];rfl,rfl⟩
def kR(p q:Int×Int):Int:=jP [kQ p.1 q.1,kQ p.2 q.2]
theorem xc(w:World)(x y:Int):Calls ai 187 #[af ae x,af ae y] w fun e w'=>e= .returned (af ae (kQ x y))∧w'=w:=
 (Dv w x y).mono fun _ _ ⟨a,b⟩=>⟨a,b.symm⟩
theorem Dy(w:World)(p q:Int×Int):
  Calls ai 147 #[aq #[af ae p.1,af ae p.2],aq #[af ae q.1,af ae q.2]] w fun e w'=>e= .returned (af ae (kR p q))∧∃n os,w'=Sort.grow (w.drewN n) os:=by
 go_enter Tryz.func147,Tryz.ntmps147;go_wp2_with fail;refine wp_region_still_tail 10 (by kernel_rfl) (by kernel_rfl) ?_;simp only[List.take_succ_cons,List.take_zero,List.drop_succ_cons,List.drop_zero];change wpStill _ _ (dd _) (fun a'=>dI _ _ _ _ a' (dd _)) _ _;iterate 4 still_step
 still_call (xc _ _ _)
 iterate 4 still_step
 still_call (xc _ _ _)
 refine wpStill_nil ?_;go_wp2_with fail;refine(Dx _ [kQ p.1 q.1,kQ p.2 q.2] _ _ (by simp) ?_).mono ?_
 ·intro k A
  match k,A with
  |0,_=>simp;rw[cJ _ _ _ _ (by simp)];rfl
  |1,_=>simp;rw[cJ _ _ _ _ (by simp)];rfl
 rintro e w' ⟨rfl,rfl⟩;go_wp2_with fail;go_ret;exact⟨rfl,1,_,by rw[BI,BI,BI,Sort.grow_grow,Sort.grow_grow];rfl⟩
structure pO(w:World)(h:Hp)(B:Nat)(v:Value)(n:Nat)(xs:List Value)(l:List aB)(w':World)(h':Hp)(v':Value)(news:List Value):Prop where
 I:ao h' w'
 le:h.le h'
 aI:∀b,b<w.heap.size→h' b=h b
 grown:w.grownBy w' v.ownBlock
 own:Ow w' h' B 179 5 v' (n+l.length) (xs++news)
 enc:aJ (kM h') l news
 bi:v'.ownBlock=v.ownBlock∨∃g,v'.ownBlock=some g∧w.heap.size≤g
theorem pO.keeps{w:World}{h:Hp}{B:Nat}{n E:Nat}{xs:List Value}{l:List aB}{w':World}{h':Hp}{v':Value}{news:List Value}{b:Nat}{Z:Obj}(A:pO (w.alloc Z) h B (ag (some ⟨w.heap.size,0,none⟩) n E) n xs l w' h' v' news)(G:b+1≤w.heap.size)(i:Nat):w'.cell? ⟨b,i,none⟩=w.cell? ⟨b,i,none⟩:=by rw[dc (a:=⟨b,i,none⟩) (A.grown.block b (by simp;omega) (fun e=>by simp[bW]at e;omega)),eg _ _ _ (by show b<_;omega)]
structure kT(w:World)(h:Hp)(B:Nat)(vl:Value)(n:Nat)(xs:List Value)(t:Tree)(parent:Int)(j:Nat)(wr:World)(vj:Value)(hj:Hp)(vk:Value)(news:List Value):Prop where
 I:ao hj wr
 le:h.le hj
 aI:∀b,b<w.heap.size→hj b=h b
 grown:w.grownBy wr vl.ownBlock
 own:Ow wr hj B 179 5 vj (n+1+ax (t.kids.take j)) (xs++([af ae t.kind,ah t.text,af ae parent,vk,af ae 0]++news))
 enc:aJ (kM hj) (eJ (t.kids.take j) n (n+1)) news
 kids:Ow wr hj w.heap.size 3 1 vk j ((dC (t.kids.take j) (n+1)).map (af ae))
 apart:∀g,vk.ownBlock=some g→vj.ownBlock≠some g
 bi:vj.ownBlock=vl.ownBlock∨∃g,vj.ownBlock=some g∧w.heap.size≤g
theorem DJ(xs A _zs:List Value)(a b c d e u:Value)(n:Nat)(E:xs.length=n*5):(xs++([a,b,c,d,e]++A)).set (n*5+3) u=xs++([a,b,c,u,e]++A):=by rw[ma _ _ (by omega),show n*5+3-xs.length=3 by omega];rfl
theorem DK(xs A _zs:List Value)(a b c d e u:Value)(n:Nat)(E:xs.length=n*5):(xs++([a,b,c,d,e]++A)).set (n*5+4) u=xs++([a,b,c,d,u]++A):=by rw[ma _ _ (by omega),show n*5+4-xs.length=4 by omega];rfl
theorem tB(xs A:List Value)(a b c d e:Value)(n:Nat)(E:xs.length=n*5):(xs++([a,b,c,d,e]++A))[n*5+3]? =some d∧(xs++([a,b,c,d,e]++A))[n*5+4]? =some e:=by
 constructor;·rw[ih (by omega),show n*5+3-xs.length=3 by omega];rfl
 ·rw[ih (by omega),show n*5+4-xs.length=4 by omega];rfl
theorem DL{w:World}{h:Hp}{B:Nat}{a0:Option Addr}{n A:Nat}{xs:List Value}{t:Tree}{ak:Int}{ab G:Option Addr}{ac ck:Nat}{Y:Obj}{w1:World}{E:Value}(_hi:ao h w)(aB:Ow w h B 179 5 (ag a0 n A) n xs)(O:Ow w1 h B 179 5 E (n+1) (xs++[af ae t.kind,ah t.text,af ae ak,ag none 0 0,af ae 0]))(ad:((w.alloc (.cells #[af ae t.kind,ah t.text,ag ab t.leads.length ac,ag G t.kids.length ck] 26)).alloc Y).grownBy w1 (ag a0 n A).ownBlock)(am:E.ownBlock=(ag a0 n A).ownBlock∨E.ownBlock=some ((w.alloc (.cells #[af ae t.kind,ah t.text,ag ab t.leads.length ac,ag G t.kids.length ck] 26)).alloc Y).heap.size)(aL:ao h w1):∃g1 c1,E=ag (some ⟨g1,0,none⟩) (n+1) c1∧Hid (kT w h B (ag a0 n A) n xs t ak 0 w1 (ag (some ⟨g1,0,none⟩) (n+1) c1) h (ag none 0 0) [])∧w1.cell? ⟨w.heap.size,3,none⟩=some (ag G t.kids.length ck):=by
 obtain⟨aM,c1,rfl⟩:=O.shape;obtain⟨g1,rfl,aj⟩:=O.cell (by omega);have aG:∀k,(ag a0 n A).ownBlock=some k→k<w.heap.size:=fun k M=>(aB.lt k M).2;refine⟨g1,c1,rfl,?_,?_⟩
 ·refine⟨aL,Hp.le_refl _,fun _ _=>rfl,?_,?_,?_,?_,?_,?_⟩;·exact kc (mD (mD (kC _ _) _) _) ad (fun k M=> .inl M)
  ·have:ax (t.kids.take 0)=0:=by simp[ax]
   rw[this];simpa using O
  ·simp[eJ,aJ]
  ·simpa[dC]using Ow.nil w1 h w.heap.size 3 1
  ·intro g aj;simp[bW]at aj
  ·rcases am with h1|h1;·exact .inl h1
   ·exact .inr ⟨_,h1,by simp;omega⟩
 ·have:=dc (a:=⟨w.heap.size,3,none⟩) (ad.block w.heap.size (by simp;omega) (fun e=>by have:=aG _ e.symm;omega));rw[this,eg _ _ _ (by simp),cJ _ _ _ _ rfl];rfl
theorem kT.mid{w:World}{h:Hp}{B:Nat}{am:Value}{n:Nat}{xs:List Value}{t:Tree}{ab:Int}{j:Nat}{wr:World}{hj:Hp}{A:Value}{news:List Value}{g Y:Nat}(M:kT w h B am n xs t ab j wr (ag (some ⟨g,0,none⟩) (n+1+ax (t.kids.take j)) Y) hj A news)(ak:xs.length=n*5){X O:Obj}{w2:World}(ac:((wr.alloc X).alloc O).grownBy w2 A.ownBlock):Ow w2 hj B 179 5 (ag (some ⟨g,0,none⟩) (n+1+ax (t.kids.take j)) Y) (n+1+ax (t.kids.take j)) (xs++([af ae t.kind,ah t.text,af ae ab,A,af ae 0]++news))∧w2.cell? ⟨g,n*5+3,none⟩=some A∧w2.frozen? ⟨g,n*5+3,none⟩=false:=by
 have o:=((M.own.alloc X).alloc O).grown ac (fun E G e=>M.apart E e G);obtain⟨E,G,_,_,_,ad,aj⟩:=o.cell (by omega);obtain rfl:g=E:=by simpa using G
 exact⟨o,ad _ _ (tB xs news _ _ _ A _ n ak).1,aj _⟩
theorem kT.step{w:World}{h:Hp}{B:Nat}{Y:Value}{n:Nat}{xs:List Value}{t:Tree}{ac:Int}{j:Nat}{wr:World}{hj:Hp}{aN:Value}{news:List Value}{g aj:Nat}(aT:xs.length=n*5)(_hlv:∀k,Y.ownBlock=some k→k<w.heap.size)(M:kT w h B Y n xs t ac j wr (ag (some ⟨g,0,none⟩) (n+1+ax (t.kids.take j)) aj) hj aN news)(aG:j<t.kids.length)(X ad:Obj){w2:World}{E:Value}(ab:Ow w2 hj w.heap.size 3 1 E (j+1) ((dC (t.kids.take j) (n+1)).map (af ae)++[af ae ((n+1+ax (t.kids.take j):Nat):Int)]))(aP:((wr.alloc X).alloc ad).grownBy w2 aN.ownBlock)(aZ:ao hj w2)(b2:E.ownBlock=aN.ownBlock∨E.ownBlock=some ((wr.alloc X).alloc ad).heap.size)
  :ao hj (w2.setCell ⟨g,n*5+3,none⟩ E)∧B≤(w2.setCell ⟨g,n*5+3,none⟩ E).heap.size∧
   Ow (w2.setCell ⟨g,n*5+3,none⟩ E) hj B 179 5 (ag (some ⟨g,0,none⟩) (n+1+ax (t.kids.take j)) aj) (n+1+ax (t.kids.take j)) (xs++([af ae t.kind,ah t.text,af ae ac,E,af ae 0]++news))∧
   ∀aO ak aM aL,pO (w2.setCell ⟨g,n*5+3,none⟩ E) hj B (ag (some ⟨g,0,none⟩) (n+1+ax (t.kids.take j)) aj) (n+1+ax (t.kids.take j)) (xs++([af ae t.kind,ah t.text,af ae ac,E,af ae 0]++news)) (ej t.kids[j] n (n+1+ax (t.kids.take j))) aO ak aM aL→
    kT w h B Y n xs t ac (j+1) aO aM ak E (news++aL):=by
 obtain⟨om,-,-⟩:=M.mid aT aP;have a1:=om.lt g rfl;have aY:=om.free g rfl
 have aB:∀G,E.ownBlock=some G→G≠g:=by
  intro G am e;subst e;rcases b2 with b|b;·exact M.apart G (by rw[←b,am]) rfl
  ·rw[b]at am;have:=(M.own.lt G rfl).2;simp at am;omega
 have aV:=om.set (n*5+3) E (by omega);rw[DJ xs news [] _ _ _ _ _ _ n aT]at aV;have aS:w.grownBy w2 Y.ownBlock:=kc (mD (mD M.grown X) ad) aP (fun k A=> .inr (by have:=(M.kids.lt k A).1;omega));refine⟨aZ.U fun b c aQ=>cH _ _ _ _ (fun e=>by subst e;rw[aY]at aQ;cases aQ),by simp only[ef,Array.size_modify];omega,aV,?_⟩;intro aO ak aM aL H;have a2:w.heap.size≤w2.heap.size:=aS.size;have a3:(w2.setCell ⟨g,n*5+3,none⟩ E).heap.size=w2.heap.size:=by simp[ef]
 have aJ:Y.ownBlock=some g∨w.heap.size≤g:=by
  rcases M.bi with b|⟨G,b,O⟩;·exact .inl b.symm
  ·simp only[bW,aC]at b;subst b;exact .inr O
 have aX:(ej t.kids[j] n (n+1+ax (t.kids.take j))).length=t.kids[j].size:=lN _ _ _;refine⟨H.I,Hp.le_trans M.le H.le,fun b O=>(H.aI b (by omega)).trans (M.aI b O),?_,?_,?_,?_,?_,?_⟩;·exact kc (pJ aS aJ _) H.grown (fun k A=>by simp only[bW,aC]at A;subst A;exact aJ)
 ·have:=H.own;rw[aX]at this;rw[eY t.kids j aG,←Nat.add_assoc];simpa only[List.append_assoc]using this
 ·rw[Ds t.kids n (n+1) j aG];exact(M.enc.mono fun _ _ r=>r.mono H.le).append H.enc
 ·rw[Dr t.kids (n+1) j aG,List.map_append];refine ab.U (fun k A=> ?_) (fun k A=>H.aI k (by have:=(ab.lt k A).2;omega));rw[H.grown.block k (by have:=(ab.lt k A).2;omega) (fun e=>aB k A (by simpa[bW]using e)),cH _ _ _ _ (aB k A)]
 ·intro k A e;rcases H.bi with b|⟨G,b,O⟩;·rw[b]at e;simp only[bW,aC]at e;exact aB k A e.symm
  ·rw[b]at e;simp only[aC]at e;subst e;have:=(ab.lt G A).2;omega
 ·rcases H.bi with b|⟨G,b,O⟩
  ·rw[b];rcases aJ with r|r;·exact .inl r.symm
   ·exact .inr ⟨g,rfl,r⟩
  ·exact .inr ⟨G,b,by omega⟩
theorem kT.done{w:World}{h:Hp}{B:Nat}{ad:Value}{n:Nat}{xs:List Value}{t:Tree}{E:Int}{wr:World}{hj:Hp}{a1:Value}{news:List Value}{g aj:Nat}(aV:xs.length=n*5)(ab:aG t.kind)(aP:aG E)(a2:n+(ax t.kids+1)≤1000000000)(A:kT w h B ad n xs t E t.kids.length wr (ag (some ⟨g,0,none⟩) (n+1+ax (t.kids.take t.kids.length)) aj) hj a1 news)(z:Int)(hz:z=(t.size:Int)):∃h' aY,pO w h B ad n xs (ej t E n) (wr.setCell ⟨g,n*5+4,none⟩ (af ae z)) h' (ag (some ⟨g,0,none⟩) (n+1+ax (t.kids.take t.kids.length)) aj) aY:=by
 subst hz;have a4:=t.size_eq;have a3:=w9 t.kids;have ac:t.kids.take t.kids.length=t.kids:=iG (an _);have aN:=A.own.free g rfl;have aM:=A.own.set (n*5+4) (af ae (t.size:Int)) (by omega);rw[DK xs news [] _ _ _ _ _ _ n aV]at aM
 have aQ:ad.ownBlock=some g∨w.heap.size≤g:=by
  rcases A.bi with b|⟨M,b,O⟩;·exact .inl b.symm
  ·simp only[bW,aC]at b;subst b;exact .inr O
 have aO:ao hj (wr.setCell ⟨g,n*5+4,none⟩ (af ae (t.size:Int))):=A.I.U fun b c ak=>cH _ _ _ _ (fun e=>by subst e;rw[aN]at ak;cases ak);have aZ:=A.kids.setCell (p:=⟨g,n*5+4,none⟩) (fun e=>A.apart g e rfl) (af ae (t.size:Int));obtain⟨h',aX,aB,aJ,aL⟩:=aZ.giveUp aO (by omega);have aS:=A.kids.shape;obtain⟨G,ck,rfl⟩:=aS;have am:(dC t.kids (n+1)).length=t.kids.length:=Dq _ _;refine⟨h',[af ae t.kind,ah t.text,af ae E,ag G t.kids.length ck,af ae (t.size:Int)]++news,aX,Hp.le_trans A.le aB,?_,?_,?_,?_,?_⟩;·intro b O;rw[aJ b (fun M Y e=>by have:=(A.kids.lt M Y).1;omega)];exact A.aI b O
 ·exact pJ A.grown aQ _
 ·have e:n+(ej t E n).length=n+1+ax (t.kids.take t.kids.length):=by rw[lN,ac];omega
  rw[e];refine aM.U (fun _ _=>rfl) (fun M Y=>aJ M (fun k ab e=> ?_));subst e;exact A.apart _ ab Y
 ·rw[w7];refine⟨[af ae t.kind,ah t.text,af ae E,ag G t.kids.length ck,af ae (t.size:Int)],news,rfl,⟨G,ck,by simp[am],ab,aP,?_,?_,?_⟩,?_⟩;·unfold aG;simp only;omega
  ·have:Sl h' (ag G t.kids.length ck) t.kids.length 1 ((dC t.kids (n+1)).map (af ae)):=by rw[ac]at aL;exact aL
   simp only[am];exact this
  ·intro x aT;have:=xa _ _ _ aT;unfold aG;omega
  ·have:=A.enc;rw[ac]at this;exact this.mono fun _ _ r=>r.mono aB
 ·exact A.bi
theorem DM(m:Nat):∀(t:Tree) (_:t.size≤m) (h:Hp) (w:World) (_:ao h w) (B:Nat) (_:B≤w.heap.size) (v:Value) (_:aP h v t) (O:Int) (_:aG O) (aL:Value) (n:Nat) (xs:List Value) (_:Ow w h B 179 5 aL n xs) (_:n+t.size≤1000000000),Calls ai 145 #[v,af ae O,aL] w fun e w'=>∃v' h' news,e= .returned v'∧pO w h B aL n xs (ej t O n) w' h' v' news:=by
 induction m with
 |zero=>intro t cC;have:=t.size_eq;omega
 |succ m a5=>
  intro t bR h w a3 B bH v aB O bN aL n xs aQ a1;obtain⟨b0,cf,bY,ck,cV,rfl,E,cB,cz,a4,am,a2⟩:=aB.open;have hz:=Tree.size_eq t;have bA:=aa hz;have cA:=w9 t.kids;rw[hz]at bR a1;have bB:=aa a5;have aT:=aa a3;have bz:=aa am;have bv:=aa a2;obtain⟨a0,bC,rfl⟩:=aQ.shape;have aj:=aa aQ;clear a5 aB hz a3 am a4 a2 aQ;go_enter Tryz.func145,Tryz.ntmps145;go_wp2_with(at_builtin;refine ft tp rfl _ _ rfl (((St.dN aT.out bH).alloc _).alloc _) _ n xs rfl ((aj.out.alloc _).alloc _) ⟨_,0,none⟩ 1 1 [af ae t.kind,ah t.text,af ae O,ag none 0 0,af ae 0] rfl rfl (cK _ _ _ _ (by simp)) (cm _ rfl) (by omega) ?_;intro cG w1 bm a9 aY aV;obtain⟨g1,c1,rfl,bq,cD⟩:=DL aT.out aj.out a9 aY aV bm.I;clear bm a9 aY aV);have ad:Hid (xs.length=n*5):=aj.out.len;go_loopw[2,9,24,25,26,27,28,29,30,31,32,33,34,35,36,37,38,39,40,41,42,43,44,45] (fun v _ i _ _ _ _ _ _ _ _ _ _ _ _ _ _ _ _ _ _ _ _ _ wr=>∃(j:Nat) (aM g:Nat) (hj:Hp) (aJ:Value) (news:List Value),j≤t.kids.length∧i=af ae j∧v=ag (some ⟨g,0,none⟩) (n+1+ax (t.kids.take j)) aM∧kT w h B (ag a0 n bC) n xs t O j wr (ag (some ⟨g,0,none⟩) (n+1+ax (t.kids.take j)) aM) hj aJ news) (fun _ _ i _ _ _ _ _ _ _ _ _ _ _ _ _ _ _ _ _ _ _ _ _ _=>t.kids.length-(intOf i).toNat);case atStart=>exact⟨0,_,_,_,_,_,aW _,rfl,rfl,bq.out⟩
  case round=>
   obtain⟨j,aM,g,hj,aJ,news,cw,rfl,rfl,G⟩:=hrel;have a4:=jK t.kids j;by_cases aO:j<t.kids.length
   ·obtain⟨b,cF,b9,cg,bZ,ce,rfl,cv,cj,cl,cn,co,aB⟩:=j9 (bz.out.mono G.le) (bv.out.mono fun _ _ r=>r.mono G.le) G.I j aO;obtain⟨aN,ac,bI,bL,bJ,ab,ak⟩:=G.own.cell (by omega);obtain rfl:g=aN:=by simpa using ac
    have bE:=ab _ _ (tB xs news _ _ _ aJ _ n ad.out).1;obtain⟨cd,ci,rfl⟩:=G.kids.shape;have A:=aa G;have bO:=aa (eY t.kids j aO);have am:=jK t.kids (j+1);rw[bO.out]at am;clear ab ak ac G;go_wp2_with(at_builtin;refine ft fP rfl _ _ rfl (St.dN (B:=w.heap.size) ((A.out.I.alloc _).alloc _) (by have:=A.out.grown.size;simp;omega)) _ j _ rfl ((A.out.kids.alloc _).alloc _) ⟨_,0,none⟩ 1 1 [af ae ((n+1+ax (t.kids.take j):Nat):Int)] rfl rfl (cK _ _ _ _ (by simp)) (cm _ rfl) (by omega) ?_;intro cM w2 bp aS M aX;obtain⟨cc,ch,rfl⟩:=aS.shape;obtain⟨-,cq,ct⟩:=A.out.mid ad.out M;have cN:=qS M (fun k E=>(A.out.kids.lt k E).2) 0;have cQ:=qS M (fun k E=>(A.out.kids.lt k E).2) 1;have cS:=qS M (fun k E=>(A.out.kids.lt k E).2) 2;have cU:=qS M (fun k E=>(A.out.kids.lt k E).2) 3;have GS:=aa (A.out.step ad.out (fun k E=>(aj.out.lt k E).2) aO _ _ aS M bp.I aX);clear bp aS M aX);obtain⟨q1,ba,bd,bg⟩:=GS.out;refine(bB.out t.kids[j] (by omega) hj _ q1 B ba _ aB n (by unfold aG;omega) _ _ _ bd (by omega)).mono ?_;rintro e bV ⟨bT,aZ,a8,rfl,H⟩;have Y:=bg bV aZ bT a8 H;obtain⟨bX,c4,rfl⟩:=Y.own.shape;obtain⟨bG,rfl,-⟩:=Y.own.cell (by omega);have Y:=aa Y;clear q1 ba bd bg H GS;go_wp2_with fail;go_roundw;case rel=>exact⟨j+1,c4,bG,aZ,_,news++a8,by omega,by go_num,rfl,Y.out⟩
    case measure=>simp[intOf];omega
   ·obtain rfl:j=t.kids.length:=by omega
    obtain⟨aN,ac,bI,bL,bJ,ab,ak⟩:=G.own.cell (by omega);obtain rfl:g=aN:=by simpa using ac
    have bE:=ab _ _ (tB xs news _ _ _ aJ _ n ad.out).2;have cu:=ak (n*5+4);have A:=aa G;have cE:Hid (ax (t.kids.take t.kids.length)=ax t.kids):=by unfold Hid;rw[iG (an _)]
    clear ab ak ac G;go_wp2_with fail;go_ret;obtain⟨h',bS,D⟩:=kT.done ad.out E bN a1 A.out ((n:Int)+1+(ax t.kids:Int)-n) (by rw[bA.out];omega);exact⟨_,h',bS,rfl,D⟩
theorem xp(h:Hp)(w:World)(ad:ao h w)(v:Value)(t:Tree)(Y:aP h v t)(aT:t.size≤1000000000):Calls ai 103 #[v] w fun e w'=>∃v' h',e= .returned v'∧St w.heap.size h w h' w'∧gy h' v' (aO t):=by
 have ac:=aa Y;have ab:=aa ad;obtain⟨M,O,G,ck,a8,rfl,aQ,a3,a2,aV,aX,aN⟩:=Y.open;clear Y aV aX aN ad;have a4:∀W:World,(Instr.makeSlice 176 (af ae 0) (af ae (t.size:Int))).run ai W= .ok (ag (some ⟨W.heap.size,0,none⟩) 0 t.size) (W.alloc (.cells (madeCells #[af ae 0,ah ⟨#[]⟩,af ae 0,ag none 0 0,af ae 0] (t.size*5)) 179)):=fun W=>by obtain⟨i,zv,h1,h2,aJ,aL,aM⟩:=tp.lJ;have:=run_make W 176 179 i zv tp.kL h1 h2 ae ae 0 (t.size:Int) (by omega) (by omega) (by rw[aL];omega) (by omega);simpa[aJ,aM]using this
 go_enter Tryz.func103,Tryz.ntmps103;go_wp2_with fail;have aS:t.size≤maxLen:=by simp only[maxLen];omega
 go_region_held3(fun w'=>w'.cell? ⟨w.heap.size,0,none⟩=some (af ae t.kind)∧w'.cell? ⟨w.heap.size,1,none⟩=some (ah t.text)∧w'.cell? ⟨w.heap.size,2,none⟩=some (ag M t.leads.length O)∧w'.cell? ⟨w.heap.size,3,none⟩=some (ag G t.kids.length ck)) (first|go_keep|exact⟨ak,am,ax,aB⟩|exact⟨(kp.out 0).trans ak,(kp.out 1).trans am,(kp.out 2).trans ax,(kp.out 3).trans aB⟩) (first|(go_at_call 47;refine(nK t.size h _ (by exact(ab.out.alloc _).drew) _ t ac.out (an _) aT).mono ?_;rintro e w1 ⟨rfl,E⟩;have aj:=aa ((ab.out.alloc _).drew.below E);have aZ:w.heap.size+1≤w1.heap.size:=(by have:=E.size;simpa using this);have k1:Hid (Below (w.heap.size+1) (w.alloc (Obj.cells #[af ae t.kind,ah t.text,ag M t.leads.length O,ag G t.kids.length ck] 26)) w1):=(by have:=(aD (w.heap.size+1) _).drew.trans (E.mono (by simp));exact this);have ak:w1.cell? ⟨w.heap.size,0,none⟩=some (af ae t.kind):=(by rw[k1.out.cell (by simp)];simp);have am:w1.cell? ⟨w.heap.size,1,none⟩=some (ah t.text):=(by rw[k1.out.cell (by simp)];simp);have ax:w1.cell? ⟨w.heap.size,2,none⟩=some (ag M t.leads.length O):=(by rw[k1.out.cell (by simp)];simp);have aB:w1.cell? ⟨w.heap.size,3,none⟩=some (ag G t.kids.length ck):=(by rw[k1.out.cell (by simp)];simp);clear E)|(go_at_call 145;refine(DM t.size t (an _) h _ (by exact aj.out.alloc _) w.heap.size (by simp;omega) _ ac.out (-1) (by unfold aG;omega) _ 0 [] (by exact CW aj.out (by omega) _ _ _ _ aS) (by omega)).mono ?_;rintro e w2 ⟨a5,h2,news,rfl,A⟩;have kp:=aa (A.keeps aZ);have A:=aa A));go_wp2_with fail;go_ret;have S:St w.heap.size h w h2 w2:=by refine⟨?_,A.out.I,A.out.le,fun b a1=>A.out.aI b (by simp;omega),an _⟩;refine((aD _ _).alloc (an _) _).trans ((k1.out.mono (by omega)).trans ⟨A.out.grown.os,A.out.grown.tape,A.out.grown.output,by have:=A.out.grown.size;simp at this;omega,fun k aQ=> ?_⟩);rw[A.out.grown.block k (by simp;omega) (fun e=>by simp[bW]at e;omega),Below.heap_alloc _ _ _ (by omega)]
 have aY:(ej t (-1) 0).length=t.size:=lN _ _ _;refine⟨_,_,rfl,S.fr,_,?_,A.out.enc.mono fun _ _ r=>r.mono (Hp.gQ A.out.I)⟩;have:=A.out.own.sl (by rw[aY];omega);rw[cO,List.nil_append]at this;exact this
open Go.RowKit Go.Sort
def cq(l:List (Int×Int)):List (Int×Int):=l.mergeSort fun x y=> !decide (kR y x<0)
theorem nM(p q:Int×Int):kR p q<0↔p.1<q.1∨p.1=q.1∧p.2<q.2:=by
 unfold kR jP kQ;by_cases h1:p.1<q.1;·simp[h1]
 ·by_cases h2:q.1<p.1;·simp[h1,h2];omega
  ·have G:p.1=q.1:=by omega
   simp only[G,Int.lt_irrefl,if_false,if_true,jP,false_or,true_and];by_cases A:p.2<q.2;·simp[A]
   ·by_cases E:q.2<p.2;·simp[A,E]
    ·simp[A,E]
theorem DA:SWO (ltOf kR) where
 irrefl x:=by unfold ltOf;rw[decide_eq_false_iff_not,nM];omega
 trans x y z h1 h2:=by unfold ltOf at*;rw[decide_eq_true_eq,nM]at*;omega
 ntrans x y z h1 h2:=by unfold ltOf at*;rw[decide_eq_false_iff_not,nM]at*;omega
theorem DB(x y:Int×Int)(h1:ltOf kR x y=false)(h2:ltOf kR y x=false):x=y:=by unfold ltOf at*;rw[decide_eq_false_iff_not,nM]at*;exact Prod.ext (by omega) (by omega)
theorem tz(l:List (Int×Int)):(flatK bV 2 l.toArray).toList=l.flatMap bV:=by
 apply lF;intro t;have ab:=qU l;rcases b7 t (l.length*2)with A|A
 ·obtain⟨i,O⟩:∃i,t=i*2∨t=i*2+1:=⟨t/2,by omega⟩
  have E:i<l.length:=by omega
  obtain⟨G,M⟩:=mE l i E;rcases O with rfl|rfl
  ·rw[G];have q1:i*2/2=i:=by omega
   simp[flatK,A,q1,E,bV]
  ·rw[M];have q1:(i*2+1)/2=i:=by omega
   have Y:(i*2+1)%2=1:=by omega
   simp[flatK,A,q1,Y,E,bV]
 ·rw[gM (by simpa using A),gM (by omega)]
theorem xj{w:World}{h:Hp}{B:Nat}{T:TypeId}{g M:Nat}{l l':List (Int×Int)}(ab:Ow w h B T 2 (ag (some ⟨g,0,none⟩) l.length M) l.length (l.flatMap bV))(E:l'.length=l.length)(m:Nat)(os:Array Obj):w.grownBy (grow (putRowK bV 2 (vN w m) g 0 l'.toArray) os) (some g)∧Ow (grow (putRowK bV 2 (vN w m) g 0 l'.toArray) os) h B T 2 (ag (some ⟨g,0,none⟩) l.length M) l.length (l'.flatMap bV):=by
 have ao:=ab.free;have aJ:=(ab.lt g rfl).2;rcases ab.row with⟨h1,⟨G,_⟩|⟨aN,aM,O,G,ak,aB,ad,am,ac,aP⟩⟩;·simp at G
 simp only[bU,aC,cx,and_true,true_and]at G;obtain⟨rfl,rfl⟩:=G;have Y:(grow (putRowK bV 2 (vN w m) g 0 l'.toArray) os).heap=w.heap.modify g (onCells (putCells id 0 (flatK bV 2 l'.toArray)))++os:=rfl;have ax:(grow (putRowK bV 2 (vN w m) g 0 l'.toArray) os).heap[g]? =some (.cells (putCells id 0 (flatK bV 2 l'.toArray) O) T (0,0)):=by rw[Y,Kf (by simpa using aJ),Bu,if_pos rfl,aB];rfl
 refine⟨⟨rfl,rfl,rfl,by rw[Y];simp,fun k aG aL=> ?_⟩,⟨⟨by rw[qU,E],.inr ⟨g,M,_,rfl,ak,ax,ad,am,by simpa[putCells]using ac,?_⟩⟩,ao⟩⟩;·rw[Y,Kf (by simpa using aG),Bu,if_neg (fun e=>aL (by rw[e]))]
 ·rw[←tz];apply lF;intro t;have aO:l.length*2≤O.size:=by rw[ac];exact Nat.mul_le_mul_right _ ad
  rw[List.getElem?_take];by_cases A:t<l.length*2
  ·rw[if_pos A];have h2:t<(flatK bV 2 l'.toArray).size:=by simpa[E]using A
   have aj:t<O.size:=by omega
   rw[vO,vO,pn h2];simp[putCells,aj,E,A]
  ·rw[if_neg A,gM (by simpa[E]using Nat.le_of_not_lt A)]
theorem DC(bi A E:Nat)(w:World):CmpLays ai 147 #[] bV 2 kR bi A E w:=
 fun _ _ _ _ x y=>Dy _ x y
theorem tA(h:Hp)(w:World)(aj:ao h w)(B:Nat)(v:Value)(l:List (Int×Int))(ak:l.length≤70368744177664)(A:Ow w h B 79 2 v l.length (l.flatMap bV)):Calls ai 146 #[v,.func (.func 147) #[] #[]] w fun e w'=>e= .returned (bD #[])∧w.grownBy w' v.ownBlock∧Ow w' h B 79 2 v l.length ((cq l).flatMap bV):=by
 obtain⟨a,G,rfl⟩:=A.shape;rcases et l.length with E|E;·have ac:l=[]:=BL.1 E;subst ac;have:=AnyF.slices_SortFunc_none (P:=ai) {Tryz.sortL with} a G (.func (.func 147) #[] #[]) w;refine vP this ?_;rintro e w' ⟨rfl,rfl⟩;exact⟨rfl,kC _ _,by simpa[cq]using A⟩
 ·obtain⟨g,rfl,h1,h2,ad,O,Y⟩:=A.cell E
  have ab:HoldsK bV 2 w g 0 l.toArray:=by
   intro j hj;have M:j<(l.flatMap bV).length:=by rw[qU];simpa using hj
   have e:(flatK bV 2 l.toArray)[j]! =(l.flatMap bV)[j]:=by have:=congrArg (fun z=>z[j]?) (tz l);simp only[aE M]at this;rw[getElem!_def];rw[vO]at this;rw[this]
   refine⟨?_,Y _⟩;rw[cO,e];exact O j _ (aE M)
  have:=AnyQ.slices_SortFunc_total (P:=ai) Tryz.sortL 2 (fun _=>by kernel_rfl) (fun _=>by kernel_rfl) bV (fun _=>rfl) (fun x=>cm _ rfl) kR DA 147 #[] g 0 G l.toArray w (enters_of Tryz.func147 (by kernel_rfl) rfl) (DC _ _ _ _) ab h2 (by simp;omega) DB
  change Calls ai 146 _ _ _ at this;simp only[j6]at this;refine vP this ?_;rintro e w' ⟨rfl,n,os,rfl⟩;refine⟨rfl,?_⟩;exact xj A (List.length_mergeSort _) n os
theorem DD{w:World}{h:Hp}{B:Nat}{T:TypeId}{g E:Nat}{l:List (Int×Int)}(ac:Ow w h B T 2 (ag (some ⟨g,0,none⟩) l.length E) l.length (l.flatMap bV))(M:0<l.length):HoldsK bV 2 w g 0 l.toArray:=by
 obtain⟨G,ab,h1,h2,ad,O,Y⟩:=ac.cell M;obtain rfl:g=G:=by simpa using ab
 intro j hj;have A:j<(l.flatMap bV).length:=by rw[qU];simpa using hj
 have e:(flatK bV 2 l.toArray)[j]! =(l.flatMap bV)[j]:=by have:=congrArg (fun z=>z[j]?) (tz l);simp only[aE A]at this;rw[getElem!_def];rw[vO]at this;rw[this]
 refine⟨?_,Y _⟩;rw[cO,e];exact O j _ (aE A)
theorem DE(h:Hp)(w:World)(O:ao h w)(B:Nat)(v:Value)(l:List (Int×Int))(Y:l.length≤70368744177664)(A:Ow w h B 79 2 v l.length (l.flatMap bV)):Calls ai 190 #[v] w fun e w'=>e= .returned (bD #[])∧w.grownBy w' v.ownBlock∧Ow w' h B 79 2 v l.length (l.reverse.flatMap bV):=by
 obtain⟨a,G,rfl⟩:=A.shape;rcases et l.length with E|E;·have M:l=[]:=BL.1 E;subst M;have:=AnyQ.slices_Reverse_empty (P:=ai) Tryz.revL a G w;refine vP this ?_;rintro e w' ⟨rfl,rfl⟩;exact⟨rfl,kC _ _,by simpa using A⟩
 ·obtain⟨g,rfl,-⟩:=A.cell E;have:=AnyQ.slices_Reverse (P:=ai) Tryz.revL 2 (fun _=>by kernel_rfl) (fun _=>by kernel_rfl) bV (fun _=>rfl) (fun x=>cm _ rfl) g 0 G l.toArray w (DD A E) (by simp;omega);change Calls ai 190 _ _ _ at this;simp only[j6]at this;refine vP this ?_;rintro e w' ⟨rfl,n,rfl⟩;refine⟨rfl,?_⟩;have:=xj A (l':=l.reverse) (by simp) n #[];rw[grow_empty]at this;simp only[List.reverse_toArray];exact this
section
variable {K:Type}
theorem EN(enc:K→Value)(l:List (K×Value))(k:Nat)(p:K)(v:Value)(E:k<l.length)(G:(l[k]).1=p):bR enc (l.set k (p,v))=(bR enc l).modify k fun e=>{e with val:=v}:=by
 apply lF;intro i;simp only[bR,px,List.getElem?_set,BX];by_cases A:k=i;·subst A;simp[E,G]
 ·simp[A]
theorem EO(enc:K→Value)(l:List (K×Value))(k:Nat)(p:K)(E:k<l.length)(G:(l[k]).1=p):((bR enc l).modify k fun e=>{e with key:=enc p})=bR enc l:=by
 apply lF;intro i;simp only[bR,px,BX];by_cases A:k=i;·subst A;simp[E,G]
 ·simp[A]
theorem EP{w:World}{r:Nat}{o:Obj}(h:w.heap[r]? =some o):de w r o=w:=by
 unfold de
 have A:r<w.heap.size:=by
  rcases b7 r w.heap.size with q|q;·exact q
  ·rw[Array.getElem?_eq_none q]at h;cases h
 have:w.heap.setIfInBounds r o=w.heap:=by
  apply Array.ext_getElem?;intro i;by_cases e:r=i;·subst e;have h2:=h;rw[pn A]at h2;have E:=aU h2;simp[A,E]
  ·simp[e]
 rw[this]
theorem aS.store{enc:K→Value}{w:World}{r:Nat}{l:List (K×Value)}(m:aS enc w r l)(k:Nat)(A:k<l.length)(T:TypeId)(v:Value):∃w',(Kk T (.map (some r)) (af ae k) v).run ai w= .ok () w'∧aS enc w' r (l.set k ((l[k]).1,v))∧w.grownBy w' (some r):=by
 have O:=m.lt;unfold aS at m;refine⟨de w r (cG enc (l.set k ((l[k]).1,v))),?_,by unfold aS;simp[de,O],qY _ _ _⟩;have G:(bR enc l).toArray.findIdx? (fun e=>((e.born:Int)==(k:Int)))=some k:=by rw[Kl,List.findIdx?_eq_some_iff_getElem];refine⟨by simpa[bR]using A,by simp[bR],fun j hj=> ?_⟩;simp[bR];omega
 have E:cG enc (l.set k ((l[k]).1,v))= .map ((bR enc l).modify k fun e=>{e with val:=v}).toArray l.length:=by unfold cG;rw[List.length_set,EN enc l k _ v A rfl]
 unfold Kk;rw[E];have M:(bR enc l).findIdx? (fun e=>((e.born:Int)==(k:Int)))=some k:=by rw[←Kl];exact G
 simp[kE,setObj,kF,m,cG,asInt,asIntOf,de,M]
theorem CT{enc:K→Value}{ops:Array Oper}{rest:List Oper}{o:Oper}{a:Act}{Q:Exit→Act→World→Prop}{w:World}(E:o.guard=none)(T:TypeId)(x y u:Operand)(M:o.op= .entryStore T x y u){r:Nat}{l:List (K×Value)}(m:aS enc w r l)(k:Nat)(G:k<l.length)(v:Value)(ab:a.eval x= .map (some r))(hy:a.eval y=af ae k)(Y:a.eval u=v)(h:∀w',aS enc w' r (l.set k ((l[k]).1,v))→w.grownBy w' (some r)→dI ai ops Q rest (a.put o.dst undef) w'):dI ai ops Q (o::rest) a w:=by obtain⟨w',O,h1,h2⟩:=m.store k G T v;refine wpList_plain E fun ac A=> ?_;unfold jC;simp[execOp,M,ab,hy,Y,O,nj];exact A _ _ (h w' h1 h2)
variable [DecidableEq K]
def jO(l:List (K×Value))(p:K):Nat:=(bm l p).getD l.length
def ki(l:List (K×Value))(p:K)(z:Value):List (K×Value):=match bm l p with
 |some _=>l
 |none=>l++[(p,z)]
theorem aS.entry{M:TypeId}{enc:K→Value}(G:jm M enc){w:World}{r:Nat}{l:List (K×Value)}(m:aS enc w r l)(p:K)(T e:TypeId)(z:Value)(O:ai.underlying T=some (.map M e))(hz:∀w,(zeroValue e).run ai w= .ok z w):∃w',(Km T (.map (some r)) (enc p)).run ai w= .ok (bD #[(aT l p).getD z,af ae (jO l p)]) w'∧aS enc w' r (ki l p z)∧w.grownBy w' (some r):=by
 have ax:=m.lt;have aB:=m;unfold aS at m;have E:=G.find w p (bR enc l) l (uf enc l);have Y:∀b,(Instr.checkKey b 10000 M (enc p)).run ai w= .ok () w:=fun b=>G.check b w p;unfold Km aT jO ki;cases hk:bm l p with
 |none=>
  rw[hk]at E;simp only[Option.bind_none]at E;refine⟨de w r (cG enc (l++[(p,z)])),?_,?_,qY _ _ _⟩
  ·have ad:cG enc (l++[(p,z)])= .map ((bR enc l).toArray.push {key:=enc p,val:=z,born:=l.length}) (l.length+1):=by unfold cG bR;rw[List.mapIdx_append];simp
   rw[ad];simp[gl O,kE,setObj,kF,m,cG,Y,E,de,hz,goInt]
  ·unfold aS;simp[de,ax]
 |some k=>
  have A:=fv hk;have ab:=p0 hk A;rw[hk]at E;simp only[Option.bind_some,aE A,fa]at E;have am:((bR enc l)[k]?).map (·.key)=some (enc p):=by simp[bR,aE A,ab]
  have aj:((bR enc l)[k]?).map (·.born)=some k:=by simp[bR,aE A]
  have ao:∀d,(((bR enc l)[k]?).map (·.key)).getD d=enc p:=fun d=>by rw[am];rfl
  have aG:∀d,(((bR enc l)[k]?).map (·.born)).getD d=k:=fun d=>by rw[aj];rfl
  have ak:∀d,(Option.map (fun x:MapEntry=>(x.born:Int)) (bR enc l)[k]?).getD d=k:=fun d=>by simp[bR,aE A]
  refine⟨w,?_,aB,kC _ _⟩;have ac:=EP m;unfold de cG at ac;simp[gl O,kE,setObj,kF,m,cG,Y,E,Instr.keyThatStays,ao,ak,G.bits,EO enc l k p A ab,goInt,A,ac]
theorem CS{A:TypeId}{enc:K→Value}(E:jm A enc){ops:Array Oper}{rest:List Oper}{o:Oper}{a:Act}{Q:Exit→Act→World→Prop}{w:World}(O:o.guard=none)(T:TypeId)(x y:Operand)(Y:o.op= .mapEntry T x y){r:Nat}{l:List (K×Value)}(m:aS enc w r l)(p:K)(e:TypeId)(z:Value)(M:ai.underlying T=some (.map A e))(hz:∀w,(zeroValue e).run ai w= .ok z w)(ac:a.eval x= .map (some r))(hy:a.eval y=enc p)(h:∀w',aS enc w' r (ki l p z)→w.grownBy w' (some r)→dI ai ops Q rest (a.put o.dst (bD #[(aT l p).getD z,af ae (jO l p)])) w'):dI ai ops Q (o::rest) a w:=by obtain⟨w',ab,h1,h2⟩:=m.entry E p T e z M hz;refine wpList_plain O fun ad G=> ?_;unfold jC;simp[execOp,Y,ac,hy,ab,nj];exact G _ _ (h w' h1 h2)
theorem qQ(l:List (K×Value))(p:K)(z:Value):jO l p<(ki l p z).length:=by
 unfold jO ki;cases h:bm l p with
 |none=>simp
 |some k=>exact fv h
theorem EQ(l:List (K×Value))(p:K)(z:Value):((ki l p z)[jO l p]'(qQ l p z)).1=p:=by
 have h:((ki l p z)[jO l p]?).map (·.1)=some p:=by
  unfold jO ki;cases h:bm l p with
  |none=>simp
  |some k=>simp only[Option.getD_some];rw[aE (fv h),fa,p0 h (fv h)]
 rw[aE (qQ l p z),fa]at h;exact aU h
theorem CU(l:List (K×Value))(p:K)(z v:Value):(ki l p z).set (jO l p) (((ki l p z)[jO l p]'(qQ l p z)).1,v)=aY l p v:=by
 rw[EQ];unfold jO ki aY;cases h:bm l p with
 |none=>simp
 |some k=>rfl
end
def dQ(p:Int×ByteArray):Value:=aq #[af ae p.1,ah p.2]
def dA(p:Int×Int×ByteArray):Value:=aq #[af ae p.1,af ae p.2.1,ah p.2.2]
theorem nT(a b:ByteArray):(a.toList==b.toList)=decide (b=a):=by rw[←beq_toListBytes,bytes_beq];exact decide_eq_decide.2 ⟨fun h=>h.symm,fun h=>h.symm⟩
theorem ER(w:World)(p q:Int×ByteArray):(pf 99 (dQ p) (dQ q)).run ai w= .ok (decide (q=p)) w:=by
 have h:(pf 99 (dQ p) (dQ q)).run ai w=(nn 10000 99 (dQ p) (dQ q)).run ai w:=rfl
 obtain⟨A,E,O,am,ac,ao,ad,G,M⟩:∃A E:Field,(ai.fieldsOf 99).toList=[A,E]∧A.type=3∧A.offset=0∧E.type=9∧E.offset=1∧(A.name== "_")=false∧(E.name== "_")=false:=
  ⟨(ai.fieldsOf 99).toList.getD 0 default,(ai.fieldsOf 99).toList.getD 1 default,by kernel_rfl,by kernel_rfl,by kernel_rfl,by kernel_rfl,by kernel_rfl,by kernel_rfl,by kernel_rfl⟩
 replace G:=beq_eq_false_iff_ne.1 G;replace M:=beq_eq_false_iff_ne.1 M;have aj:∀(x y:Value) w,(part 3 #[x,y] 0).run ai w= .ok x w:=fun _ _ _=>by kernel_rfl
 have ak:∀(x y:Value) w,(part 9 #[x,y] 1).run ai w= .ok y w:=fun _ _ _=>by kernel_rfl
 have Y:∀(x y:Int) w,(nn 9999 3 (af ae x) (af ae y)).run ai w= .ok (x==y) w:=fun x y w=>run_equalIn_int w 9998 3 ae ae x y sA;have ab:∀(x y:ByteArray) w,(nn 9999 9 (ah x) (ah y)).run ai w= .ok (x.toList==y.toList) w:=fun x y w=>run_equalIn_string w 9998 9 x y vW;rw[h,dQ,dQ,run_equalIn_agg w 9999 99 _ _ (by kernel_rfl) (by kernel_rfl),O];simp only[Op.eqFields,G,M,ne_eq,not_false_eq_true,if_true,lD,am,ac,ao,ad,aj,Y,mh];obtain⟨a,b⟩:=p;obtain⟨c,d⟩:=q;by_cases h1:a=c;·subst h1;by_cases h2:d=b<;>simp[h2,ak,ab,nT]
 ·have:¬c=a:=fun e=>h1 e.symm;simp[h1,this]
theorem ES(w:World)(p q:Int×Int×ByteArray):(pf 107 (dA p) (dA q)).run ai w= .ok (decide (q=p)) w:=by
 have h:(pf 107 (dA p) (dA q)).run ai w=(nn 10000 107 (dA p) (dA q)).run ai w:=rfl
 obtain⟨A,E,G,am,aJ,ao,aL,ax,aM,aB,O,Y,ab⟩:∃A E G:Field,(ai.fieldsOf 107).toList=[A,E,G]∧A.type=3∧A.offset=0∧E.type=3∧E.offset=1∧G.type=9∧G.offset=2∧(A.name== "_")=false∧(E.name== "_")=false∧(G.name== "_")=false:=
  ⟨(ai.fieldsOf 107).toList.getD 0 default,(ai.fieldsOf 107).toList.getD 1 default,(ai.fieldsOf 107).toList.getD 2 default,by kernel_rfl,by kernel_rfl,by kernel_rfl,by kernel_rfl,by kernel_rfl,by kernel_rfl,by kernel_rfl,by kernel_rfl,by kernel_rfl,by kernel_rfl⟩
 replace O:=beq_eq_false_iff_ne.1 O;replace Y:=beq_eq_false_iff_ne.1 Y;replace ab:=beq_eq_false_iff_ne.1 ab;have aG:∀(x y z:Value) w,(part 3 #[x,y,z] 0).run ai w= .ok x w:=fun _ _ _ _=>by kernel_rfl
 have ad:∀(x y z:Value) w,(part 3 #[x,y,z] 1).run ai w= .ok y w:=fun _ _ _ _=>by kernel_rfl
 have aj:∀(x y z:Value) w,(part 9 #[x,y,z] 2).run ai w= .ok z w:=fun _ _ _ _=>by kernel_rfl
 have M:∀(x y:Int) w,(nn 9999 3 (af ae x) (af ae y)).run ai w= .ok (x==y) w:=fun x y w=>run_equalIn_int w 9998 3 ae ae x y sA;have ac:∀(x y:ByteArray) w,(nn 9999 9 (ah x) (ah y)).run ai w= .ok (x.toList==y.toList) w:=fun x y w=>run_equalIn_string w 9998 9 x y vW;rw[h,dA,dA,run_equalIn_agg w 9999 107 _ _ (by kernel_rfl) (by kernel_rfl),am];simp only[Op.eqFields,O,Y,ab,ne_eq,not_false_eq_true,if_true,lD,aJ,ao,aL,ax,aM,aB,aG,M,mh];obtain⟨a,b,c⟩:=p;obtain⟨a',b',c'⟩:=q;by_cases h1:a=a'
 ·subst h1;by_cases h2:b=b';·subst h2;by_cases ak:c'=c<;>simp[ak,ad,aj,M,ac,nT]
  ·have:¬b'=b:=fun e=>h2 e.symm;simp[h2,this,ad,aj,M,ac,nT]
 ·have:¬a'=a:=fun e=>h1 e.symm;simp[h1,this]
theorem x4:jm 99 dQ:=
 x3 Tryz.underlying99 (fun _ _=>rfl) ER (fun b w p=>by cases b<;>kernel_rfl) (fun p=>by rw[show(10000:Nat)=9999+1 from rfl,dQ,lE];simp[lE,bytes_beq])
theorem qP:jm 107 dA:=
 x3 Tryz.underlying107 (fun _ _=>rfl) ES (fun b w p=>by cases b<;>kernel_rfl) (fun p=>by rw[show(10000:Nat)=9999+1 from rfl,dA,lE];simp[lE,bytes_beq])
theorem ww:jm 9 (fun s:ByteArray=>ah s):=EM vW
end Go.Proofs.YtdplggpbgommnaaGreatDoor
