/- assign.Solve. -/
import Derived.Test.YtdplggpbgommnaaGreatDoorSb
import Derived.Test.YtdplggpbgommnaaGreatDoorG14
import Derived.Test.YtdplggpbgommnaaGreatDoorG11
open Array renaming getD_eq_getD_getElem?→sM
open Go renaming execOp→j3
open Go.Act renaming eval→sL
open Go.IntKind renaming i64→ae
open Go.Lib renaming hid→aa
open Go.Oper renaming wp→jC
open Go.Proofs.Tryz renaming prog→ai
open Go.Result renaming andThen→nj
open Go.RowKit.Below renaming refl→aD
open Go.Value renaming agg→aq,int→af,slice→ag
open Go.World renaming cell?_alloc_at→cJ,drew→dd
open List renaming foldl_append→dH,foldl_cons→dK,foldl_nil→fk,getElem?_eq_getElem→aE,range_succ→dx,range→aw,replicate→aA
open Nat renaming le_of_lt→kB,le_refl→an,lt_of_lt_of_le→bK,zero_le→aW
open Option.some renaming injEq→aC,inj→aU
set_option maxRecDepth 100000
set_option maxHeartbeats 8000000
namespace Go.Proofs.YtdplggpbgommnaaGreatDoor
open Go.RowKit
def hY(h:Hp)(B n:Nat)(cv:Value)(i:Nat)(x:Nat→Value)(v:Value)(w:World):Prop:=
 match i with
 |0=>v=cv
 |1=>v=af ae n
 |2=>∃g,v=ag (some ⟨g,0,none⟩) n n∧IR w h B g n (cM n)
 |3=>v=af ae n
 |4=>∃g,v=ag (some ⟨g,0,none⟩) n n∧IR w h B g n (cM n)
 |5=>∃g,v=ag (some ⟨g,0,none⟩) 1 1∧g<w.heap.size∧w.cell? ⟨g,0,none⟩=some (af ae (-1))∧B≤g
 |6=>v=af ae n
 |7=>∃g,v=ag (some ⟨g,0,none⟩) n n∧IR w h B g n (aA n (-1))
 |8=>∃g,v=ag (some ⟨g,0,none⟩) 1 1∧g<w.heap.size∧w.cell? ⟨g,0,none⟩=some (af ae (-1))∧B≤g
 |9=>v=af ae n
 |10=>∃g,v=ag (some ⟨g,0,none⟩) n n∧IR w h B g n (aA n (-1))
 |11=>v=aq #[x 0,x 2,x 4,x 7,x 10]
 |12=>∃sb cs,v= .pointer (some ⟨sb,0,none⟩)∧x 11=aq cs∧Has w sb cs∧B≤sb
 |_=>v=x 12
theorem yo(W:World)(n:Nat)(M:n≤1000000):(Instr.makeSlice 34 (af ae n) (af ae n)).run ai W= .ok (ag (some ⟨W.heap.size,0,none⟩) n n) (W.alloc (.cells (aA n (af ae 0)).toArray 3)):=by
 obtain⟨i,zv,h1,h2,A,E,G⟩:=fP.lJ;have:=run_make W 34 3 i zv fP.kL h1 h2 ae ae (n:Int) (n:Int) (by omega) (by omega) (by rw[E];omega) (by omega);have e:madeCells #[af ae 0] (n*1)=(aA n (af ae 0)).toArray:=by apply Array.ext';rw[j7]
 rw[←e];simpa[A,G]using this
theorem yp{W:World}{h:Hp}(E:ao h W){B:Nat}(A:B≤W.heap.size)(n:Nat)(G:n≤1000000):IR (W.alloc (.cells (aA n (af ae 0)).toArray 3)) h B W.heap.size n (cM n):=by refine Ow.uA ?_ A (bI E _ (an _)) (by simp only[maxLen];omega) (by simp[aV,cM]);rw[show aV (cM n)=aA n (af ae 0) by simp[aV,cM]];exact heap_alloc_new W _
theorem hY.mono{h:Hp}{B n:Nat}{M:Value}:∀(i:Nat) (x:Nat→Value) (v:Value) (w w':World),hY h B n M i x v w→Below w.heap.size w w'→hY h B n M i x v w':=by
 intro i x v w w' A b;have E:∀g l,IR w h B g n l→IR w' h B g n l:=fun g l r=>r.tu ((Tu.refl (fun _=>False) w).below b) id;have G:∀g,g<w.heap.size→w'.cell? ⟨g,0,none⟩=w.cell? ⟨g,0,none⟩:=fun g O=>b.cell O
 match i with
 |0=>exact A
 |1=>exact A
 |2=>obtain⟨g,e,r⟩:=A;exact⟨g,e,E g _ r⟩
 |3=>exact A
 |4=>obtain⟨g,e,r⟩:=A;exact⟨g,e,E g _ r⟩
 |5=>obtain⟨g,e,r,c,q⟩:=A;exact⟨g,e,bK r b.size,(G g r).trans c,q⟩
 |6=>exact A
 |7=>obtain⟨g,e,r⟩:=A;exact⟨g,e,E g _ r⟩
 |8=>obtain⟨g,e,r,c,q⟩:=A;exact⟨g,e,bK r b.size,(G g r).trans c,q⟩
 |9=>exact A
 |10=>obtain⟨g,e,r⟩:=A;exact⟨g,e,E g _ r⟩
 |11=>exact A
 |12=>obtain⟨sb,cs,e,q,r,s⟩:=A;exact⟨sb,cs,e,q,r.below b,s⟩
 |k+13=>exact A
theorem FA{h:Hp}{w:World}(Y:ao h w){G:Option Addr}{ak:Nat}{c:List (List Int)}(R:gP h (ag G c.length ak) c)(aM:∀r∈c,r.length=c.length){i j:Nat}(ab:i<c.length)(hj:j<c.length):∃b o,G=some ⟨b,o,none⟩∧b<w.heap.size∧∃b2 A c2,w.cell? ⟨b,o+i,none⟩=some (ag (some ⟨b2,A,none⟩) c.length c2)∧b2<w.heap.size∧w.cell? ⟨b2,A+j,none⟩=some (af ae (gm c i j)):=by
 obtain⟨cs,aN,am⟩:=R;obtain⟨b,o,rfl,aB,aJ⟩:=aN.cells Y (by omega);obtain⟨aO,⟨aj,M,rfl,E⟩,O⟩:=am.at 1 io.len i ab;have ac:=aM c[i] (List.getElem_mem _);rw[ac]at O E;have c1:=aJ i (ag aj c.length M) (by have:=O 0 (by omega);simpa using this);obtain⟨ad,-⟩:=E;rw[ac]at ad;obtain⟨b2,A,rfl,aG,aL⟩:=ad.cells Y (by omega);refine⟨b,o,rfl,aB,b2,A,M,c1,aG,?_⟩;have ax:gm c i j=c[i][j]:=by simp[gm,ge,List.getD_eq_getElem?_getD,aE ab,aE (show j<c[i].length by omega)]
 rw[ax];exact aL j _ (by simp[aE (show j<c[i].length by omega)])
theorem bind_none{α:Type}(f:Nat→α→Option α)(l:List Nat):l.foldl (fun s i=>s.bind (f i)) none=none:=by
 induction l with
 |nil=>rfl
 |cons a l A=>exact A
theorem bind_some{α:Type}(f:Nat→α→Option α)(n:Nat){a b:α}(h:(aw n).foldl (fun s i=>s.bind (f i)) (some a)=some b)(j:Nat)(hj:j≤n):∃c,(aw j).foldl (fun s i=>s.bind (f i)) (some a)=some c:=by
 induction n generalizing b with
 |zero=>obtain rfl:j=0:=by omega
        exact⟨_,rfl⟩
 |succ n A=>
  by_cases e:j=n+1;·subst e;exact⟨_,h⟩
  ·rw[dx,dH,dK,fk]at h;cases hf:(aw n).foldl (fun s i=>s.bind (f i)) (some a)with
   |none=>rw[hf]at h;cases h
   |some a'=>exact A hf (by omega)
theorem yq{α:Type}(f:Nat→α→Option α)(n:Nat){a b:α}(h:(aw n).foldl (fun s i=>s.bind (f i)) (some a)=some b){j:Nat}(hj:j<n){E:α}(G:(aw j).foldl (fun s i=>s.bind (f i)) (some a)=some E):∃c,f j E=some c∧(aw (j+1)).foldl (fun s i=>s.bind (f i)) (some a)=some c:=by obtain⟨c,A⟩:=bind_some f n h (j+1) hj;refine⟨c,?_,A⟩;rw[dx,dH,dK,fk,G]at A;exact A
theorem wu(h:Hp)(w:World)(cQ:ao h w)(v:Value)(c:List (List Int))(ct:gP h v c)(bm:jI c=true)(s:fD)(aM:nV c=some s)(aY:∀i,i<c.length→0≤ge s.tq i∧ge s.tq i<c.length):Calls ai 102 #[v] w fun e w'=>∃gu gv gt k,e= .returned (.tuple #[aq #[ag (some ⟨gt,0,none⟩) c.length c.length,af ae k,ag (some ⟨gu,0,none⟩) c.length c.length,ag (some ⟨gv,0,none⟩) c.length c.length],af ae 0])∧Below w.heap.size w w'∧IR w' h w.heap.size gt c.length s.tq:=by
 have bZ:=aa ct;have cv:=aa cQ;have bv:=aa bm;have cw:=aa aM;have dh:=aa aY;obtain⟨cd,ce,rfl,d5,-⟩:=ct.open;clear ct cQ bm aM aY;go_enter Tryz.func102,Tryz.ntmps102;go_wp2_with fail;refine(Fv h _ (by exact cv.out.alloc _) _ c bZ.out).mono ?_;rintro e w1 ⟨rfl,b1⟩;rw[bv.out];have bz:Hid (Has w1 w.heap.size #[ag none 0 0,af ae 0,ag none 0 0,ag none 0 0]):=(Has.new _ _ _).below b1;have cz:Hid (St w.heap.size h w h w1):=((St.refl cv.out).alloc _).same b1;clear b1;go_wp2_with fail;have dA:c.length≤40:=((oI c).1 bv.out).1;have dO:Hid (∀W,St w.heap.size h w h W→ao h W):=fun W st=>st.I;refine E5 (by kernel_rfl) (by kernel_rfl) (hY h w1.heap.size c.length (ag cd c.length ce)) (fun W=>St w.heap.size h w h W∧Below w1.heap.size w1 W) (fun i=>i=2∨i=4∨i=7∨i=10∨i=12) hY.mono ?hF ⟨cz.out.drew,(aD _ _).drew⟩ ?hstep ?hend
 case hF=>
  intro i o E x ea v W aQ A
  match i,E,A with
  |0,_,A=>exact A
  |1,_,A=>exact A
  |2,_,A=>exact A
  |3,_,A=>exact A
  |4,_,A=>exact A
  |5,_,A=>exact A
  |6,_,A=>exact A
  |7,_,A=>exact A
  |8,_,A=>exact A
  |9,_,A=>exact A
  |10,_,A=>exact A
  |11,E,A=>cases E;have a3:=aQ ⟨0,.data⟩ (by simp) rfl;have M:=aQ ⟨2,.data⟩ (by simp) rfl;have ac:=aQ ⟨4,.data⟩ (by simp) rfl;have ad:=aQ ⟨7,.data⟩ (by simp) rfl;have aB:=aQ ⟨10,.data⟩ (by simp) rfl;simp only at a3 M ac ad aB;simp only[hY]at A⊢;rw[A,a3,M,ac,ad,aB]
  |12,E,A=>cases E;have a4:=aQ ⟨11,.data⟩ (by simp) rfl;simp only at a4;simp only[hY]at A⊢;rw[←a4];exact A
  |13,E,A=>cases E;have aX:=aQ ⟨12,.data⟩ (by simp) rfl;simp only at aX;simp only[hY]at A⊢;rw[←aX];exact A
  |k+14,E,_=>simp at E
 case hstep=>
  intro i o E x a W ⟨st,bl⟩ O G dN Y
  match i,E,G with
  |0,E,G=>cases E;have e:=O 0 (ag cd c.length ce) rfl rfl;unfold jC;simp[j3,e];exact Y _ _ rfl (aD _ _) ⟨st,bl⟩ (fun e=>by simp at e)
  |1,E,G=>cases E;have e:=O 4 (af ae c.length) rfl rfl;unfold jC;simp[j3,e];exact Y _ _ rfl (aD _ _) ⟨st,bl⟩ (fun e=>by simp at e)
  |2,E,G=>cases E;have e:=G ⟨1,.data⟩ (by simp) rfl _ _ rfl rfl;simp only[hY]at e;rw[e.2]at e;have cq:=yo W c.length (by omega);unfold jC;simp[j3,e.1,cq,nj];exact Y _ _ ⟨W.heap.size,rfl,yp st.I (by have:=bl.size;omega) _ (by omega)⟩ ((aD _ _).alloc (an _) _) ⟨st.alloc _,bl.alloc (by have:=bl.size;omega) _⟩ (fun _ g aj=>by simp[bk]at aj;subst aj;simp)
  |3,E,G=>cases E;have e:=O 4 (af ae c.length) rfl rfl;unfold jC;simp[j3,e];exact Y _ _ rfl (aD _ _) ⟨st,bl⟩ (fun e=>by simp at e)
  |4,E,G=>cases E;have e:=G ⟨3,.data⟩ (by simp) rfl _ _ rfl rfl;simp only[hY]at e;rw[e.2]at e;have cq:=yo W c.length (by omega);unfold jC;simp[j3,e.1,cq,nj];exact Y _ _ ⟨W.heap.size,rfl,yp st.I (by have:=bl.size;omega) _ (by omega)⟩ ((aD _ _).alloc (an _) _) ⟨st.alloc _,bl.alloc (by have:=bl.size;omega) _⟩ (fun _ g aj=>by simp[bk]at aj;subst aj;simp)
  |5,E,G=>cases E;go_simp;refine Y _ _ ⟨W.heap.size,rfl,by simp,?_,by have:=bl.size;omega⟩ ((aD _ _).alloc (an _) _) ⟨st.alloc _,bl.alloc (by have:=bl.size;omega) _⟩ (fun e=>by simp at e);rw[cJ _ _ _ _ rfl];rfl
  |6,E,G=>cases E;have e:=O 4 (af ae c.length) rfl rfl;unfold jC;simp[j3,e];exact Y _ _ rfl (aD _ _) ⟨st,bl⟩ (fun e=>by simp at e)
  |7,E,G=>
   cases E;have e:=G ⟨5,.data⟩ (by simp) rfl _ _ rfl rfl;have M:=G ⟨6,.data⟩ (by simp) rfl _ _ rfl rfl;simp only[hY]at e M;rw[M.2]at M;obtain⟨ax,g,ci,aj,cn,cK⟩:=e;rw[ci]at ax;have aP:=ax;have aJ:=M.1;simp only[sL,sM]at aP aJ;go_simp;refine(yn h W st.I g [af ae (-1)] rfl (cm _ rfl) (fun j v hj=> ?_) aj c.length (by omega)).mono ?_
   ·cases j with
    |zero=>simp at hj;subst hj;exact cn
    |succ j=>simp at hj
   ·rintro e w' ⟨rfl,b2,aZ⟩;refine Y _ _ ⟨W.heap.size,rfl,?_⟩ b2 ⟨st.same b2,bl.trans (b2.mono (by have:=bl.size;omega))⟩ (fun _ dm bd=>by simp[bk]at bd;subst bd;exact⟨an _,(aZ.lt _ rfl).2⟩);unfold IR;rw[show aV (aA c.length (-1))=(aA c.length [af ae (-1)]).flatten by simp[aV]];exact aZ.base (by have:=bl.size;omega)
  |8,E,G=>cases E;go_simp;refine Y _ _ ⟨W.heap.size,rfl,by simp,?_,by have:=bl.size;omega⟩ ((aD _ _).alloc (an _) _) ⟨st.alloc _,bl.alloc (by have:=bl.size;omega) _⟩ (fun e=>by simp at e);rw[cJ _ _ _ _ rfl];rfl
  |9,E,G=>cases E;have e:=O 4 (af ae c.length) rfl rfl;unfold jC;simp[j3,e];exact Y _ _ rfl (aD _ _) ⟨st,bl⟩ (fun e=>by simp at e)
  |10,E,G=>
   cases E;have e:=G ⟨8,.data⟩ (by simp) rfl _ _ rfl rfl;have M:=G ⟨9,.data⟩ (by simp) rfl _ _ rfl rfl;simp only[hY]at e M;rw[M.2]at M;obtain⟨ax,g,ci,aj,cn,cK⟩:=e;rw[ci]at ax;have aP:=ax;have aJ:=M.1;simp only[sL,sM]at aP aJ;go_simp;refine(yn h W st.I g [af ae (-1)] rfl (cm _ rfl) (fun j v hj=> ?_) aj c.length (by omega)).mono ?_
   ·cases j with
    |zero=>simp at hj;subst hj;exact cn
    |succ j=>simp at hj
   ·rintro e w' ⟨rfl,b2,aZ⟩;refine Y _ _ ⟨W.heap.size,rfl,?_⟩ b2 ⟨st.same b2,bl.trans (b2.mono (by have:=bl.size;omega))⟩ (fun _ dm bd=>by simp[bk]at bd;subst bd;exact⟨an _,(aZ.lt _ rfl).2⟩);unfold IR;rw[show aV (aA c.length (-1))=(aA c.length [af ae (-1)]).flatten by simp[aV]];exact aZ.base (by have:=bl.size;omega)
  |11,E,G=>cases E;have a3:=G ⟨0,.data⟩ (by simp) rfl _ _ rfl rfl;have M:=G ⟨2,.data⟩ (by simp) rfl _ _ rfl rfl;have ac:=G ⟨4,.data⟩ (by simp) rfl _ _ rfl rfl;have ad:=G ⟨7,.data⟩ (by simp) rfl _ _ rfl rfl;have aB:=G ⟨10,.data⟩ (by simp) rfl _ _ rfl rfl;simp only[hY]at a3 M ac ad aB;obtain⟨aO,cS⟩:=a3;obtain⟨aJ,dX,cV,-⟩:=M;obtain⟨a8,dY,cX,-⟩:=ac;obtain⟨a9,d0,cY,-⟩:=ad;obtain⟨a5,dW,cU,-⟩:=aB;have aG:=Y (aq #[x 0,x 2,x 4,x 7,x 10]) W rfl (aD _ _) ⟨st,bl⟩ (fun e=>by simp at e);rw[cS]at aO aG;rw[cV]at aJ aG;rw[cX]at a8 aG;rw[cY]at a9 aG;rw[cU]at a5 aG;simp only[sL,sM]at aO aJ a8 a9 a5;have b0:=aa aG;clear aG Y cS cV cX cY cU;go_simp;exact b0.out
  |12,E,G=>cases E;have e:=G ⟨11,.data⟩ (by simp) rfl _ _ rfl rfl;simp only[hY]at e;obtain⟨aP,q⟩:=e;have aG:=fun cs (dn:x 11=aq cs)=>Y (.pointer (some ⟨W.heap.size,0,none⟩)) (W.alloc (.cells cs 212)) ⟨W.heap.size,cs,rfl,dn,Has.new W cs 212,by have:=bl.size;omega⟩ ((aD _ _).alloc (an _) _) ⟨st.alloc _,bl.alloc (by have:=bl.size;omega) _⟩ (fun _ g aj=>by simp[bk]at aj;subst aj;simp);have b0:=aa (aG _ q);rw[q]at aP;simp only[sL,sM]at aP;clear aG Y q;go_simp;exact b0.out
  |13,E,G=>cases E;have e:=(G ⟨12,.data⟩ (by simp) rfl _ _ rfl rfl).1;unfold jC;simp[j3,e];exact Y _ _ rfl (aD _ _) ⟨st,bl⟩ (fun e=>by simp at e)
  |k+14,E,_=>simp at E
 case hend=>
  intro x w2 ⟨st,bl⟩ A ap;have aO:=A 0 (by decide);have aJ:=A 2 (by decide);have a8:=A 4 (by decide);have a9:=A 7 (by decide);have a5:=A 10 (by decide);have bO:=A 11 (by decide);have cG:=A 12 (by decide);have cj:=A 13 (by decide);simp only[hY]at aO aJ a8 a9 a5 bO cG cj;obtain⟨gu,M,c6⟩:=aJ;obtain⟨gv,ac,c8⟩:=a8;obtain⟨gt,ad,c9⟩:=a9;obtain⟨go,aB,cZ⟩:=a5;obtain⟨sb,cs,aX,a4,cl,cK⟩:=cG;rw[bO]at a4;have cF: #[x 0,x 2,x 4,x 7,x 10]=cs:=by injection a4
  rw[aO,M,ac,ad,aB]at cF;subst cF;have bE:=ap 2 4 (by decide) (by decide) (by simp) (by simp) (by decide) gu (by rw[M];rfl);have bG:=ap 2 7 (by decide) (by decide) (by simp) (by simp) (by decide) gu (by rw[M];rfl);have bB:=ap 2 10 (by decide) (by decide) (by simp) (by simp) (by decide) gu (by rw[M];rfl);have bC:=ap 2 12 (by decide) (by decide) (by simp) (by simp) (by decide) gu (by rw[M];rfl);have bJ:=ap 4 7 (by decide) (by decide) (by simp) (by simp) (by decide) gv (by rw[ac];rfl);have bH:=ap 4 10 (by decide) (by decide) (by simp) (by simp) (by decide) gv (by rw[ac];rfl);have bI:=ap 4 12 (by decide) (by decide) (by simp) (by simp) (by decide) gv (by rw[ac];rfl);have bL:=ap 7 10 (by decide) (by decide) (by simp) (by simp) (by decide) gt (by rw[ad];rfl);have bN:=ap 7 12 (by decide) (by decide) (by simp) (by simp) (by decide) gt (by rw[ad];rfl);have bA:=ap 10 12 (by decide) (by decide) (by simp) (by simp) (by decide) go (by rw[aB];rfl);rw[ac]at bE;rw[ad]at bG bJ;rw[aB]at bB bH bL;rw[aX]at bC bI bN bA;simp only[bk,ne_eq,aC]at bE bG bB bC bJ bH bI bL bN bA
  have am:Hid (cB w1.heap.size h w2 sb c c.length gu gv gt go ⟨cM c.length,cM c.length,aA c.length (-1),aA c.length (-1)⟩):=
   ⟨⟨cd,ce,cl,bZ.out⟩,st.I,rfl,dA,fun r aY=>(((oI c).1 bv.out).2 r aY).1,c6,c8,c9,cZ,fun e=>bE e.symm,fun e=>bG e.symm,fun e=>bB e.symm,fun e=>bJ e.symm,fun e=>bH e.symm,fun e=>bL e.symm,bC,bI,bN,bA⟩
  have ab:=aa (st.below);have cA:=aa (bz.out.tu ((Tu.refl (fun k=>w1.heap.size≤k) w1).trans ⟨bl.os,bl.tape,bl.output,bl.size,fun k O _=>bl.block k O⟩) (by have:=bz.out.lt;omega));have cC:Hid (w.heap.size<w1.heap.size):=bz.out.lt;have dk:∀k,x k=x k:=fun _=>rfl;have ax:=A 1 (by decide);have cf:=A 3 (by decide);have cg:=A 6 (by decide);have ch:=A 9 (by decide);obtain⟨dZ,cD,-⟩:=A 5 (by decide);obtain⟨d1,cE,-⟩:=A 8 (by decide);simp only[hY]at ax cf cg ch;clear bE bG bB bC bJ bH bI bL bN bA c6 c8 c9 cZ cl A ap st bl dk;simp only[jv,Act.put,aO,ax,M,cf,ac,cD,cg,ad,cE,ch,aB,bO,cj,aX,List.setIfInBounds_toArray,List.set_cons_zero,List.set_cons_succ];clear aO ax M cf ac cD cg ad cE ch aB bO cj aX bz cz;go_wp2_with fail;have aM:=cw.out;unfold nV at aM;simp only at aM
  obtain⟨aS,bR⟩:∃aS,(aw c.length).foldl (fun s (i:Nat)=>s.bind (lV c c.length i)) (some ⟨cM c.length,cM c.length,aA c.length (-1),aA c.length (-1)⟩)=some aS:=by
   cases hq:(aw c.length).foldl (fun s (i:Nat)=>s.bind (lV c c.length i)) (some ⟨cM c.length,cM c.length,aA c.length (-1),aA c.length (-1)⟩)with
   |none=>rw[hq,bind_none (fun(i:Nat)=>mQ c c.length i)]at aM;cases aM
   |some aS=>exact⟨aS,rfl⟩
  rw[bR]at aM;generalize dt:(⟨cM c.length,cM c.length,aA c.length (-1),aA c.length (-1)⟩:fD)=db at am bR;have bX:=aa bR;have bY:=aa aM;clear dt bR aM cw;go_loopw[6,31,32,33,34,35,36,37] (fun _ i _ _ _ _ _ _ wr=>∃(j:Nat) (ak:fD),j≤c.length∧i=af ae j∧(aw j).foldl (fun s (i:Nat)=>s.bind (lV c c.length i)) (some db)=some ak∧cB w1.heap.size h wr sb c c.length gu gv gt go ak∧Below w.heap.size w wr∧Has wr w.heap.size #[ag none 0 0,af ae 0,ag none 0 0,ag none 0 0]) (fun _ i _ _ _ _ _ _ _=>c.length-(intOf i).toNat);case atStart=>exact⟨0,db,aW _,rfl,rfl,am.out,ab.out,cA.out⟩
  case round=>
   obtain⟨j,ak,co,rfl,hj,q,bl,xb⟩:=hrel;have GB:Hid (∀k,(k=gu∨k=gv∨k=gt∨k=go)→w.heap.size<k):=fun k O=>by have h1:w1.heap.size≤gu:=(Ow.lt q.ru _ rfl).1;have h2:w1.heap.size≤gv:=(Ow.lt q.rv _ rfl).1;have d2:w1.heap.size≤gt:=(Ow.lt q.rt _ rfl).1;have d3:w1.heap.size≤go:=(Ow.lt q.ro _ rfl).1;have:=cC.out;rcases O with rfl|rfl|rfl|rfl<;>omega
   clear am ab cA;by_cases aL:j<c.length
   ·obtain⟨bp,h1,h2⟩:=yq _ _ bX.out aL hj;have bV:=aa h2;have a1:=aa (FB q j aL bp h1);have ab:=aa bl;have aN:=aa xb;have de:(j:Int)<(c.length:Int):=by omega
    clear q bl xb h1 h2 hj;go_wp2_with fail;refine a1.out.mono ?_;rintro e w3 ⟨rfl,q,aT⟩;have b9:=aa q;have bT:Hid (Below w.heap.size w w3):=ab.out.trans (aT.jR ab.out.size fun k O=>kB (GB.out k O));have cc:=aa (aN.out.tu aT (fun O=>Nat.lt_irrefl _ (GB.out _ O)));clear q aT a1;go_wp2_with fail;go_roundw;case rel=>exact⟨j+1,bp,by omega,by go_num,bV.out,b9.out,bT.out,cc.out⟩
    case measure=>simp[intOf];omega
   ·have bg:j=c.length:=by omega
    rw[bg]at hj;obtain rfl:aS=ak:=aU (bX.out.symm.trans hj);have am:=aa q;have ab:=aa bl;have aN:=aa xb;clear q bl xb hj bX;subst bg;go_wp2_with fail;go_loopw[7,39,40,41,42,43,44,45] (fun _ i _ _ _ _ _ _ cu=>∃(j:Nat) (ak:fD),j≤c.length∧i=af ae j∧(aw j).foldl (fun s (i:Nat)=>s.bind (mQ c c.length i)) (some aS)=some ak∧cB w1.heap.size h cu sb c c.length gu gv gt go ak∧Below w.heap.size w cu∧Has cu w.heap.size #[ag none 0 0,af ae 0,ag none 0 0,ag none 0 0]) (fun _ i _ _ _ _ _ _ _=>c.length-(intOf i).toNat);case atStart=>exact⟨0,aS,aW _,rfl,rfl,am.out,ab.out,aN.out⟩
    case round=>
     obtain⟨j,ak,co,rfl,hj,q,bl,xb⟩:=hrel;clear am ab aN;by_cases aL:j<c.length
     ·obtain⟨bp,h1,h2⟩:=yq _ _ bY.out aL hj;have bV:=aa h2;have a1:=aa (Fu q j aL bp h1);have ab:=aa bl;have aN:=aa xb;have de:(j:Int)<(c.length:Int):=by omega
      clear q bl xb h1 h2 hj;go_wp2_with fail;refine a1.out.mono ?_;rintro e w3 ⟨rfl,q,aT⟩;have b9:=aa q;have bT:Hid (Below w.heap.size w w3):=ab.out.trans (aT.jR ab.out.size fun k O=>kB (GB.out k (by rcases O with rfl|rfl;exact .inr (.inr (.inl rfl));exact .inr (.inr (.inr rfl)))));have cc:=aa (aN.out.tu aT (fun O=>Nat.lt_irrefl _ (GB.out _ (by rcases O with O|O;exact .inr (.inr (.inl O));exact .inr (.inr (.inr O))))));clear q aT a1;go_wp2_with fail;go_roundw;case rel=>exact⟨j+1,bp,by omega,by go_num,bV.out,b9.out,bT.out,cc.out⟩
      case measure=>simp[intOf];omega
     ·have bg:j=c.length:=by omega
      rw[bg]at hj;have dq:ak=s:=aU (hj.symm.trans bY.out);subst dq;have am:=aa q;have ab:=aa bl;have aN:=aa xb;obtain⟨dP,dQ,bq,cN⟩:=q.cell;have dG:=aa cN;have eb:wr.cell? ⟨sb,1,none⟩=some (ag (some ⟨gu,0,none⟩) c.length c.length):=bq.cl 1;have ec:wr.cell? ⟨sb,2,none⟩=some (ag (some ⟨gv,0,none⟩) c.length c.length):=bq.cl 2;have ed:wr.cell? ⟨sb,3,none⟩=some (ag (some ⟨gt,0,none⟩) c.length c.length):=bq.cl 3;have ej:=bq.lt;have dC:=xb.cl 0;have dD:=xb.cl 1;have dE:=xb.cl 2;have dF:=xb.cl 3;have aO:=xb.fz 0;have aP:=xb.fz 1;have aJ:=xb.fz 2;have dU:=xb.fz 3;have ei:=xb.lt;simp only[List.getElem?_toArray,List.getElem?_cons_zero,List.getElem?_cons_succ]at dC dD dE dF;clear q bl xb hj bY cN bq aL co;subst bg;go_wp2_with fail;go_loopw[8,9,10,51,52,53,54,55,56,57,58,59,60,61,62,63,64,65] (fun k _ _ i _ _ _ _ _ _ _ _ _ _ _ _ _ _ dB=>∃(j:Nat) (z:Int),j≤c.length∧i=af ae j∧k=af ae z∧dB=wr) (fun _ _ _ i _ _ _ _ _ _ _ _ _ _ _ _ _ _ _=>c.length-(intOf i).toNat);case atStart=>exact⟨0,0,aW _,rfl,rfl,rfl⟩
      case round=>
       obtain⟨j,z,co,rfl,rfl,rfl⟩:=hrel;by_cases aL:j<c.length
       ·obtain⟨dv,dw⟩:=dh.out j aL;obtain⟨m,bm⟩:∃m:Nat,ge ak.tq j=m:=⟨(ge ak.tq j).toNat,by omega⟩
        have dr:m<c.length:=by omega
        obtain⟨b,o,rfl,cl,b2,aZ,c2,dR,d4,dT⟩:=FA am.out.I bZ.out (fun r aY=>(((oI c).1 bv.out).2 r aY).1) aL dr;have ax:=am.out.rt.get aL;rw[bm]at ax;have d6:=am.out.rt.lt;have de:(0:Int)≤(j:Int):=by omega
        have d7:(j:Int)<(c.length:Int):=by omega
        have d8:(0:Int)≤(m:Int):=by omega
        have d9:(m:Int)<(c.length:Int):=by omega
        clear dv dw bm;go_wp2_with fail;go_roundw;case rel=>exact⟨j+1,_,by omega,by go_num,rfl,trivial⟩
        case measure=>simp[intOf];omega
       ·have dp:j=c.length:=by omega
        subst dp;have bS:gt≠w.heap.size:=Nat.ne_of_gt (GB.out gt (.inr (.inr (.inl rfl))));obtain⟨W,ba⟩:∃W,W=(((((wr.setCell ⟨w.heap.size,0,none⟩ (ag (some ⟨gt,0,none⟩) c.length c.length)).setCell ⟨w.heap.size,1,none⟩ (af ae z)).setCell ⟨w.heap.size,2,none⟩ (ag (some ⟨gu,0,none⟩) c.length c.length)).setCell ⟨w.heap.size,3,none⟩ (ag (some ⟨gv,0,none⟩) c.length c.length)).drew):=⟨_,rfl⟩
        have dg:Hid (Below w.heap.size w W):=by unfold Hid;rw[ba];exact((((ab.out.setCell (p:=⟨w.heap.size,0,none⟩) (an _) _).setCell (p:=⟨w.heap.size,1,none⟩) (an _) _).setCell (p:=⟨w.heap.size,2,none⟩) (an _) _).setCell (p:=⟨w.heap.size,3,none⟩) (an _) _).drew
        have dj:Hid (IR W h w1.heap.size gt c.length ak.tq):=by unfold Hid;rw[ba];exact((((am.out.rt.ne bS _ _).ne bS _ _).ne bS _ _).ne bS _ _).drewN 1
        have a2:Has W w.heap.size #[ag (some ⟨gt,0,none⟩) c.length c.length,af ae z,ag (some ⟨gu,0,none⟩) c.length c.length,ag (some ⟨gv,0,none⟩) c.length c.length]:=by rw[ba];exact((((aN.out.fg 0 (by simp) _).fg 1 (by simp) _).fg 2 (by simp) _).fg 3 (by simp) _).drew
        have du:W.cell? ⟨w.heap.size,0,none⟩=some (ag (some ⟨gt,0,none⟩) c.length c.length):=a2.cl 0;have k1:W.cell? ⟨w.heap.size,1,none⟩=some (af ae z):=a2.cl 1;have k2:W.cell? ⟨w.heap.size,2,none⟩=some (ag (some ⟨gu,0,none⟩) c.length c.length):=a2.cl 2;have k3:W.cell? ⟨w.heap.size,3,none⟩=some (ag (some ⟨gv,0,none⟩) c.length c.length):=a2.cl 3;have di:=aa ba;clear ba a2;go_wp2_with fail;refine wp_region_still_tail 14 (by kernel_rfl) (by kernel_rfl) ?_;simp only[List.take_succ_cons,List.take_zero,List.drop_succ_cons,List.drop_zero];change wpStill _ _ (dd _) (fun a'=>wpList _ _ _ _ a' (dd _)) _ _;repeat still_step
        refine wpStill_nil ?_;go_wp2_with fail;rw[←di.out];refine bodyPost_ret (v:= .tuple #[aq #[ag (some ⟨gt,0,none⟩) c.length c.length,af ae z,ag (some ⟨gu,0,none⟩) c.length c.length,ag (some ⟨gv,0,none⟩) c.length c.length],af ae 0]) (by simp[results,Tryz.results102,go_sem,du,k1,k2,k3]) rfl ?_;exact⟨gu,gv,gt,z,rfl,dg.out,Ow.base dj.out (kB cC.out)⟩
end Go.Proofs.YtdplggpbgommnaaGreatDoor
