/- semvcsref02: Print, Valid. -/
import Derived.Test.YtdplggpbgommnaaGreatDoorG26
import Derived.Test.YtdplggpbgommnaaGreatDoorG27
open Array renaming replicate->kD
open ByteArray renaming mk->qC,size_append->sS
open Go renaming wpAnyH_done->Ch,wp_region_held_drew->Cg,wp_region_noPanic->K6
open Go.Act renaming put->br
open Go.Addr.mk renaming injEq->cx
open Go.AllReadyH renaming cons->zy,nil->Bi
open Go.ByteArray renaming toList_eq->eT
open Go.IntKind renaming i64->ae
open Go.Lib renaming hid->aa
open Go.NoPanic renaming normal->Ci
open Go.Value renaming slice->ag,string->ah
open Go.World renaming cell?_of_block->dc
open List renaming getElem?_eq_getElem->aE,getElem_cons_succ->dV,getElem_cons_zero->dJ,getElem_mem->aK,getElem_toArray->eV,length_cons->bF,length_nil->cL,replicate->aA,setIfInBounds_toArray->bh,set_cons_succ->bf,set_cons_zero->nu,size_toArray->j6
open Nat renaming reduceAdd->fM,zero_add->cO,zero_le->aW
open Option.some renaming injEq->aC
set_option maxRecDepth 100000
set_option maxHeartbeats 4000000
namespace Go.Proofs.YtdplggpbgommnaaGreatDoor
open Go.RowKit
def VT(t:Tree):Prop:=(t.kind=0/\t.kids=[]/\t.text.size<=1000/\t.lb)\/RT t
theorem VT.pr{t:Tree}(h:VT t):t.kids=[]/\t.text.size<=1000\/dw t:=by
 rcases h with h|h;·exact .inl ⟨h.2.1,h.2.2.1⟩
 ·exact .inr h.1
theorem VT.lb{t:Tree}(h:VT t):t.lb:=by
 rcases h with h|h;·exact h.2.2.2
 ·exact h.2
theorem VT.rt{t:Tree}(h:VT t)(k:t.kind≠0):RT t:=by
 rcases h with h|h;·exact absurd h.1 k
 ·exact h
theorem PcV.at{n:Nat}{xs:List Value}(h:PcV xs)(ab:xs.length=n*2)(i:Nat)(Y:i<n):∃a b,xs[i*2]? =some (ah a)/\xs[i*2+1]? =some (ah b)/\Sh1 a/\Sh1 b:=by have G:xs[i*2]? =some xs[i*2]:=aE (by omega);have J:xs[i*2+1]? =some xs[i*2+1]:=aE (by omega);obtain⟨a,ha,h1⟩:=h _ (aK (by omega):xs[i*2]∈xs);obtain⟨b,O,h2⟩:=h _ (aK (by omega):xs[i*2+1]∈xs);exact⟨a,b,by rw[G,ha],by rw[J,O],h1,h2⟩
def Jf(e:Ending):Prop:=∃s,e= .returned (ah s)
theorem Jg(t:Tree)(hz:t.size<=100000)(bI:VT t)(h:Hp)(w:World)(bp:ao h w)(v:Value)(aS:aP h v t):Calls Tryz.prog 86 #[v] w fun e w'=>Jf e/\Below w.heap.size w w':=by
 have aY:=aa bp;have aZ:=aa aS;have aG:=aa bI;obtain⟨al,aO,aM,ck,ys,rfl,-,cv,cu,b9,cc,he⟩:=aS.open;clear bp aS bI b9 cc he;have a4:Hid (Has (w.alloc (.cells #[.int ae t.kind,ah t.text,ag al t.leads.length aO,ag aM t.kids.length ck] 26)) w.heap.size #[.int ae t.kind,ah t.text,ag al t.leads.length aO,ag aM t.kids.length ck]):=Has.new _ _ _;have B0:Hid (Below w.heap.size w (w.alloc (.cells #[.int ae t.kind,ah t.text,ag al t.leads.length aO,ag aM t.kids.length ck] 26))):=(Below.refl _ _).alloc (Nat.le_refl _) _;go_in;go_wp2_with fail;refine(Ba t aG.out.pr aG.out.lb h _ (aY.out.alloc _) _ aZ.out).mono ?_;rintro e w2 ⟨⟨b,rfl,bg⟩,b2⟩;have bN:=aa bg;have Y:=aa (B0.out.trans (b2.mono B0.out.size));have aL:=a4.out.below b2;obtain⟨⟨cf,cg,ch,ci⟩,-⟩:=aL.four;have cd:=aL.lt;clear b2 a4 B0 aL bg;cases b;·go_wp2_with fail;go_ret;exact⟨⟨_,rfl⟩,Y.out⟩
 ·have bT:=aa (aG.out.rt (bN.out rfl));go_wp2_with fail;refine(Ja t hz bT.out h _ (aY.out.below Y.out) _ aZ.out).mono ?_;rintro e w3 ⟨bH,n,xs,rfl,aV,ok,bz,b3,hn⟩;obtain⟨bX,c3,rfl⟩:=aV.shape;have bS:=aa (aV.base (B':=w.heap.size) Y.out.size);have a2:=aa ok;have bR:=aa bz;have bL:=aa (Y.out.trans (b3.mono Y.out.size));clear aV ok bz b3 cf cg ch ci cd;go_wp2_with fail;go_loopw[4,5] (fun s i wr=>∃(j:Nat) (G:ByteArray),j<=n/\i= .int ae j/\s=ah G/\G.size<=j*2001/\ao h wr/\Below w.heap.size w wr/\Ow wr h w.heap.size 199 2 (ag bX n c3) n xs) (fun _ i _=>n-(intOf i).toNat);case atStart=>exact⟨0,⟨#[]⟩,aW _,rfl,rfl,aW _,bR.out,bL.out,bS.out⟩
  case round=>
   obtain⟨j,G,ct,rfl,rfl,bq,bB,bl,ax⟩:=hrel;have cw:G.size<=9000000000:=by omega
   have ak:=aa bq;clear bq;by_cases hj:j<n
   ·obtain⟨g,rfl,-,aB,-,hc,-⟩:=ax.cell (by omega);obtain⟨a,b,a5,a8,bC,bE⟩:=a2.out.at ax.len j hj;have c1:=hc _ _ a5;have c2:=hc _ _ a8;have co:a.size<=1000:=bC;have aJ:b.size<=1000:=bE;have cA:¬(9223372036854775807:Int)<(G.size:Int)+(a.size:Int):=by omega
    have cB:(G.size:Int)+(a.size:Int)<=9223372036854775807:=by omega
    have cC:¬9223372036854775807<G.size+a.size:=by omega
    have cD:G.size+a.size<=9223372036854775807:=by omega
    have cE:¬(9223372036854775807:Int)<(G.size:Int)+(a.size:Int)+(b.size:Int):=by omega
    have cF:(G.size:Int)+(a.size:Int)+(b.size:Int)<=9223372036854775807:=by omega
    have cG:¬9223372036854775807<G.size+a.size+b.size:=by omega
    have cK:G.size+a.size+b.size<=9223372036854775807:=by omega
    have cN:(0:Int)<=(j:Int):=by omega
    have cQ:(j:Int)<(n:Int):=by omega
    have am:=aa bB;have aj:=aa bl;have ab:=aa ax;clear bB bl ax hc a5 a8 bC bE;rcases Nat.eq_zero_or_pos j with aQ|aQ
    ·have bH:¬(0:Int)<(j:Int):=by omega
     have cS:decide ((0:Int)<(j:Int))=false:=by simp;omega
     have cU:decide (0<j)=false:=by simp;omega
     have cV:¬0<j:=by omega
     have cn:=aa aQ;clear aQ;go_wp2_with fail;refine K6 ?_;refine Cg (S:=fun w'=>w'.cell? ⟨g,j*2,none⟩=some (ah a)/\w'.cell? ⟨g,j*2+1,none⟩=some (ah b)) (by kernel_rfl) ?_ (fun bd=> ?_);·go_keep
     simp only[kD,aA,j6,bF,cL,cO,fM]
     iterate 3
      refine nF (v:= ?_) 0 rfl (by kernel_rfl) (fun _ _ _ h=>h) (by rfl) (by assumption) ?_ ?_
      rotate_left
      ·intro w J;(try dsimp only at J);simp only[nx];go_simp<;>with_reducible rfl
      simp only[nx,br,eV,dV,dJ,bh,nu,bf]
     iterate 6
      refine Lr 3 rfl (by kernel_rfl) (fun _ _ _ h=>h) (by rfl) (by assumption) ?_;simp only[nx,br,eV,dV,dJ,bh,nu,bf]
     iterate 2
      refine nF (v:= ?_) 9 rfl (by kernel_rfl) (fun _ _ _ h=>h) (by rfl) (by assumption) ?_ ?_
      rotate_left
      ·intro w J;(try dsimp only at J);simp only[nx];go_simp<;>with_reducible rfl
      simp only[nx,br,eV,dV,dJ,bh,nu,bf]
     iterate 12
      refine Lr 11 rfl (by kernel_rfl) (fun _ _ _ h=>h) (by rfl) (by assumption) ?_;simp only[nx,br,eV,dV,dJ,bh,nu,bf]
     refine nF (v:= ?_) 23 rfl (by kernel_rfl) (fun _ _ _ h=>h) (by rfl) (by assumption) ?_ ?_
     rotate_left
     ·intro w J;(try dsimp only at J);simp only[nx];go_simp<;>with_reducible rfl
     simp only[nx,br,eV,dV,dJ,bh,nu,bf];refine Ch (by kernel_rfl) ?_ _;refine Ci ?_;go_wp2_with fail;go_region_held3(fun w'=>w'.cell? ⟨g,j*2,none⟩=some (ah a)/\w'.cell? ⟨g,j*2+1,none⟩=some (ah b)) (go_keep) (fail)
     all_goals
      go_wp2_with fail;go_roundw;case rel=>exact⟨j+1,_,by omega,by go_num,rfl,by have:=ak.out;simp[sS];omega,am.out,aj.out.drew.drew,ab.out.drew.drew⟩
      case measure=>simp[intOf];omega
    ·have bH:(0:Int)<(j:Int):=by omega
     by_cases ha:a.data.toList=[]
     ·have ga:a.toList.isEmpty=true:=by rw[eT,ha];rfl
      obtain⟨a0,aN,b0,ba,ce,bG⟩:=a2.out.at ab.out.len (j-1) (by omega);have bV:Hid (aN.size<=1000):=bG;have aJ:Hid (b.size<=1000):=aJ;obtain⟨g',a9,-,-,-,bm,-⟩:=ab.out.cell (by omega);simp only[aC,cx,and_true]at a9;subst a9;have bZ:=bm _ _ ba;have cM:ae.wrap ((j:Int)-1)=((j-1:Nat):Int):=by rw[bA (by omega)];omega
      have cX:(0:Int)<=((j-1:Nat):Int):=by omega
      have cY:((j-1:Nat):Int)<(n:Int):=by omega
      have cZ:=aa aB;clear ha bm b0 ba ce bG;go_wp2_with fail;refine K6 ?_;refine Cg (S:=fun w'=>w'.cell? ⟨g,j*2,none⟩=some (ah a)/\w'.cell? ⟨g,j*2+1,none⟩=some (ah b)/\w'.cell? ⟨g,(j-1)*2+1,none⟩=some (ah aN)) (by kernel_rfl) ?_ (fun bd=> ?_);·go_keep
      simp only[kD,aA,j6,bF,cL,cO,fM]
      iterate 22
       refine nF (v:= ?_) 0 rfl (by kernel_rfl) (fun _ _ _ h=>h) (by rfl) (by assumption) ?_ ?_
       rotate_left
       ·intro w J;(try dsimp only at J);simp only[nx];go_simp<;>with_reducible rfl
       simp only[nx,br,eV,dV,dJ,bh,nu,bf]
      refine wpAnyH_ready (rs:=[22]) (by kernel_rfl) (by simp) ?_;refine zy (o:=_) rfl (fun K hK=> ?_) Bi;go_simp;go_at_call 124;refine(HS h _ am.out.drew aN b (by have:=bV.out;omega) (by have:=aJ.out;omega)).mono ?_;rintro e bJ ⟨⟨bY,rfl⟩,O⟩;have aX:=aa (aj.out.drew.trans (O.mono aj.out.size));have a1:Hid (ao h bJ):=am.out.drew.below O;have a3:Hid (Ow bJ h w.heap.size 199 2 (ag (some ⟨g,0,none⟩) n c3) n xs):=ab.out.drew.same O;have cj:=(dc (a:=⟨g,j*2,none⟩) (O.block g aB)).trans c1;have cl:=(dc (a:=⟨g,j*2+1,none⟩) (O.block g aB)).trans c2;have cm:=(dc (a:=⟨g,(j-1)*2+1,none⟩) (O.block g aB)).trans bZ;clear O;refine hK.out _ _ ?_ (fun cq=> ?_);·exact⟨cj,cl,cm⟩
      clear hK K;try simp only[bh,nu,bf]
      refine nF (v:= ?_) 23 rfl (by kernel_rfl) (fun _ _ _ h=>h) (by rfl) (by assumption) ?_ ?_
      rotate_left
      ·intro w J;(try dsimp only at J);simp only[nx];go_simp<;>with_reducible rfl
      simp only[nx,br,eV,dV,dJ,bh,nu,bf];refine Ch (by kernel_rfl) ?_ _;refine Ci ?_;cases bY
      ·go_wp2_with fail;go_region_held3(fun w'=>w'.cell? ⟨g,j*2,none⟩=some (ah a)/\w'.cell? ⟨g,j*2+1,none⟩=some (ah b)) (go_keep) (fail)
       all_goals
        go_wp2_with fail;go_roundw;case rel=>exact⟨j+1,_,by omega,by go_num,rfl,by have:=ak.out;simp[sS];omega,a1.out,aX.out.drew,a3.out.drew⟩
        case measure=>simp[intOf];omega
      ·go_wp2_with fail;obtain⟨ty,aT⟩:∃ty,ty=G++(qC #[32]):=⟨_,rfl⟩
       rw[<-aT];have bv:ty.size=G.size+1:=by rw[aT,sS];rfl
       have cz:¬(9223372036854775807:Int)<(ty.size:Int)+(a.size:Int):=by omega
       have k1:(ty.size:Int)+(a.size:Int)<=9223372036854775807:=by omega
       have k2:¬9223372036854775807<ty.size+a.size:=by omega
       have k3:ty.size+a.size<=9223372036854775807:=by omega
       have k4:¬(9223372036854775807:Int)<(ty.size:Int)+(a.size:Int)+(b.size:Int):=by omega
       have k5:(ty.size:Int)+(a.size:Int)+(b.size:Int)<=9223372036854775807:=by omega
       have k6:¬9223372036854775807<ty.size+a.size+b.size:=by omega
       have k7:ty.size+a.size+b.size<=9223372036854775807:=by omega
       have bO:=aa bv;clear bv aT;go_region_held3(fun w'=>w'.cell? ⟨g,j*2,none⟩=some (ah a)/\w'.cell? ⟨g,j*2+1,none⟩=some (ah b)) (go_keep) (fail)
       all_goals
        go_wp2_with fail;go_roundw;case rel=>exact⟨j+1,_,by omega,by go_num,rfl,by have:=ak.out;have:=bO.out;simp[sS];omega,a1.out,aX.out.drew,a3.out.drew⟩
        case measure=>simp[intOf];omega
     ·have ga:a.toList.isEmpty=false:=by rw[eT];simpa using ha
      clear ha;go_wp2_with fail;refine K6 ?_;refine Cg (S:=fun w'=>w'.cell? ⟨g,j*2,none⟩=some (ah a)/\w'.cell? ⟨g,j*2+1,none⟩=some (ah b)) (by kernel_rfl) ?_ (fun bd=> ?_);·go_keep
      simp only[kD,aA,j6,bF,cL,cO,fM]
      iterate 11
       refine nF (v:= ?_) 0 rfl (by kernel_rfl) (fun _ _ _ h=>h) (by rfl) (by assumption) ?_ ?_
       rotate_left
       ·intro w J;(try dsimp only at J);simp only[nx];go_simp<;>with_reducible rfl
       simp only[nx,br,eV,dV,dJ,bh,nu,bf]
      iterate 12
       refine Lr 11 rfl (by kernel_rfl) (fun _ _ _ h=>h) (by rfl) (by assumption) ?_;simp only[nx,br,eV,dV,dJ,bh,nu,bf]
      refine nF (v:= ?_) 23 rfl (by kernel_rfl) (fun _ _ _ h=>h) (by rfl) (by assumption) ?_ ?_
      rotate_left
      ·intro w J;(try dsimp only at J);simp only[nx];go_simp<;>with_reducible rfl
      simp only[nx,br,eV,dV,dJ,bh,nu,bf];refine Ch (by kernel_rfl) ?_ _;refine Ci ?_;go_wp2_with fail;go_region_held3(fun w'=>w'.cell? ⟨g,j*2,none⟩=some (ah a)/\w'.cell? ⟨g,j*2+1,none⟩=some (ah b)) (go_keep) (fail)
      all_goals
       go_wp2_with fail;go_roundw;case rel=>exact⟨j+1,_,by omega,by go_num,rfl,by have:=ak.out;simp[sS];omega,am.out,aj.out.drew.drew,ab.out.drew.drew⟩
       case measure=>simp[intOf];omega
   ·go_wp2_with fail;go_ret;exact⟨⟨_,rfl⟩,bl⟩
end Go.Proofs.YtdplggpbgommnaaGreatDoor
