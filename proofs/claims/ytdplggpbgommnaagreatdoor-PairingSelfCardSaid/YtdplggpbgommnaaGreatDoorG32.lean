/- semvcsref02: Print, Valid. -/
import Derived.Test.YtdplggpbgommnaaGreatDoorG29
open Array renaming replicate→kD
open ByteArray renaming mk→qC,size_append→sS
open Go renaming wpAnyH_done→Ch,wp_region_held_drew→Cg,wp_region_noPanic→mx
open Go.Act renaming put→br
open Go.Addr.mk renaming injEq→cx
open Go.ByteArray renaming toList_eq→eT
open Go.IntKind renaming i64→ae
open Go.Lib renaming hid→aa
open Go.NoPanic renaming normal→Ci
open Go.Proofs.Tryz renaming prog→ai
open Go.RowKit.Below renaming refl→aD
open Go.Value renaming int→af,slice→ag,string→ah
open Go.Value.agg renaming injEq→oG
open Go.Value.slice renaming injEq→bU
open Go.World renaming cell?_of_block→dc
open List renaming getElem?_eq_getElem→aE,getElem_cons_succ→dV,getElem_cons_zero→dJ,getElem_mem→aK,getElem_toArray→eV,length_cons→bF,length_nil→cL,replicate→aA,setIfInBounds_toArray→bh,set_cons_succ→bf,set_cons_zero→be,size_toArray→j6
open List.cons renaming injEq→ii
open Nat renaming reduceAdd→fM,zero_add→cO,zero_le→aW
open Option.some renaming injEq→aC
set_option maxRecDepth 100000
set_option maxHeartbeats 8000000
namespace Go.Proofs.YtdplggpbgommnaaGreatDoor
open Go.RowKit
def VT(t:Tree):Prop:=(t.kind=0∧t.kids=[]∧t.text.size≤1000∧t.lb)∨RT t
theorem VT.pr{t:Tree}(h:VT t):t.kids=[]∧t.text.size≤1000∨dw t:=by
 rcases h with h|h;·exact .inl ⟨h.2.1,h.2.2.1⟩
 ·exact .inr h.1
theorem VT.lb{t:Tree}(h:VT t):t.lb:=by
 rcases h with h|h;·exact h.2.2.2
 ·exact h.2
theorem VT.rt{t:Tree}(h:VT t)(k:t.kind≠0):RT t:=by
 rcases h with h|h;·exact absurd h.1 k
 ·exact h
theorem PcV.at{n:Nat}{xs:List Value}(h:PcV xs)(Y:xs.length=n*2)(i:Nat)(O:i<n):∃a b,xs[i*2]? =some (ah a)∧xs[i*2+1]? =some (ah b)∧Sh1 a∧Sh1 b:=by have A:xs[i*2]? =some xs[i*2]:=aE (by omega);have E:xs[i*2+1]? =some xs[i*2+1]:=aE (by omega);obtain⟨a,G,h1⟩:=h _ (aK (by omega):xs[i*2]∈xs);obtain⟨b,M,h2⟩:=h _ (aK (by omega):xs[i*2+1]∈xs);exact⟨a,b,by rw[A,G],by rw[E,M],h1,h2⟩
def Jf(e:Ending):Prop:=∃s,e= .returned (ah s)
theorem Jg(t:Tree)(hz:t.size≤100000)(bL:VT t)(h:Hp)(w:World)(bq:ao h w)(v:Value)(aS:aP h v t):Calls ai 86 #[v] w fun e w'=>Jf e∧Below w.heap.size w w':=by
 have aY:=aa bq;have aZ:=aa aS;have ax:=aa bL;obtain⟨aL,aN,aJ,ck,de,rfl,-,cC,cB,cf,cg,ce⟩:=aS.open;clear bq aS bL cf cg ce;have a4:Hid (Has (w.alloc (.cells #[af ae t.kind,ah t.text,ag aL t.leads.length aN,ag aJ t.kids.length ck] 26)) w.heap.size #[af ae t.kind,ah t.text,ag aL t.leads.length aN,ag aJ t.kids.length ck]):=Has.new _ _ _;have B0:Hid (Below w.heap.size w (w.alloc (.cells #[af ae t.kind,ah t.text,ag aL t.leads.length aN,ag aJ t.kids.length ck] 26))):=(aD _ _).alloc (Nat.le_refl _) _;go_enter Tryz.func86,Tryz.ntmps86;go_wp2_with fail;refine(Ba t ax.out.pr ax.out.lb h _ (aY.out.alloc _) _ aZ.out).mono ?_;rintro e w2 ⟨⟨b,rfl,bm⟩,b2⟩;have bR:=aa bm;have O:=aa (B0.out.trans (b2.mono B0.out.size));have aG:=a4.out.below b2;obtain⟨⟨cj,cl,cm,cn⟩,-⟩:=aG.four;have ch:=aG.lt;clear b2 a4 B0 aG bm;cases b;·go_wp2_with fail;go_ret;exact⟨⟨_,rfl⟩,O.out⟩
 ·have bX:=aa (ax.out.rt (bR.out rfl));go_wp2_with fail;refine(Ja t hz bX.out h _ (aY.out.below O.out) _ aZ.out).mono ?_;rintro e w3 ⟨bJ,n,xs,rfl,aV,bE,bB,b3,cD⟩;obtain⟨bZ,c3,rfl⟩:=aV.shape;have bV:=aa (aV.base (B':=w.heap.size) O.out.size);have a2:=aa bE;have bT:=aa bB;have bO:=aa (O.out.trans (b3.mono O.out.size));clear aV bE bB b3 cj cl cm cn ch;go_wp2_with fail;go_loopw[4,5,11,12,13,14,15,16,17,18,19,20,21,22,23,24,25,26,27,28,29,30,31,32,33,34,35,36,37,38,39,40,41,42,43,44,45,46,47,48,49,50,51,52,53,54,55] (fun s i _ _ _ _ _ _ _ _ _ _ _ _ _ _ _ _ _ _ _ _ _ _ _ _ _ _ _ _ _ _ _ _ _ _ _ _ _ _ _ _ _ _ _ _ _ wr=>∃(j:Nat) (A:ByteArray),j≤n∧i=af ae j∧s=ah A∧A.size≤j*2001∧ao h wr∧Below w.heap.size w wr∧Ow wr h w.heap.size 199 2 (ag bZ n c3) n xs) (fun _ i _ _ _ _ _ _ _ _ _ _ _ _ _ _ _ _ _ _ _ _ _ _ _ _ _ _ _ _ _ _ _ _ _ _ _ _ _ _ _ _ _ _ _ _ _ _=>n-(intOf i).toNat);case atStart=>exact⟨0,⟨#[]⟩,aW _,rfl,rfl,aW _,bT.out,bO.out,bV.out⟩
  case round=>
   obtain⟨j,A,cA,rfl,rfl,bv,bC,bl,ak⟩:=hrel;have cE:A.size≤9000000000:=by omega
   have ac:=aa bv;clear bv;by_cases hj:j<n
   ·obtain⟨g,rfl,-,am,-,aQ,-⟩:=ak.cell (by omega);obtain⟨a,b,a5,a8,bG,bH⟩:=a2.out.at ak.len j hj;have c1:=aQ _ _ a5;have c2:=aQ _ _ a8;have cv:a.size≤1000:=bG;have aB:b.size≤1000:=bH;have cG:¬(9223372036854775807:Int)<(A.size:Int)+(a.size:Int):=by omega
    have cK:(A.size:Int)+(a.size:Int)≤9223372036854775807:=by omega
    have cM:¬9223372036854775807<A.size+a.size:=by omega
    have cN:A.size+a.size≤9223372036854775807:=by omega
    have cQ:¬(9223372036854775807:Int)<(A.size:Int)+(a.size:Int)+(b.size:Int):=by omega
    have cS:(A.size:Int)+(a.size:Int)+(b.size:Int)≤9223372036854775807:=by omega
    have cU:¬9223372036854775807<A.size+a.size+b.size:=by omega
    have cV:A.size+a.size+b.size≤9223372036854775807:=by omega
    have cX:(0:Int)≤(j:Int):=by omega
    have cY:(j:Int)<(n:Int):=by omega
    have ad:=aa bC;have ab:=aa bl;have Y:=aa ak;clear bC bl ak aQ a5 a8 bG bH;rcases Nat.eq_zero_or_pos j with aO|aO
    ·have bJ:¬(0:Int)<(j:Int):=by omega
     have cZ:decide ((0:Int)<(j:Int))=false:=by simp;omega
     have c6:decide (0<j)=false:=by simp;omega
     have c8:¬0<j:=by omega
     have cu:=aa aO;clear aO;go_wp2_with fail;refine mx ?_;refine Cg (S:=fun w'=>w'.cell? ⟨g,j*2,none⟩=some (ah a)∧w'.cell? ⟨g,j*2+1,none⟩=some (ah b)) (by kernel_rfl) ?_ (fun bd=> ?_);·go_keep
     simp only[kD,aA,j6,bF,cL,cO,fM]
     iterate 3
      refine nF (v:= ?_) 0 rfl (by kernel_rfl) (fun _ _ _ h=>h) (by rfl) (by assumption) ?_ ?_
      rotate_left
      ·intro w E;(try dsimp only at E);simp only[nx];go_simp<;>with_reducible rfl
      simp only[nx,br,eV,dV,dJ,bh,be,bf]
     iterate 6
      refine tc 3 rfl (by kernel_rfl) (fun _ _ _ h=>h) (by rfl) (by assumption) ?_;simp only[nx,br,eV,dV,dJ,bh,be,bf]
     iterate 2
      refine nF (v:= ?_) 9 rfl (by kernel_rfl) (fun _ _ _ h=>h) (by rfl) (by assumption) ?_ ?_
      rotate_left
      ·intro w E;(try dsimp only at E);simp only[nx];go_simp<;>with_reducible rfl
      simp only[nx,br,eV,dV,dJ,bh,be,bf]
     iterate 12
      refine tc 11 rfl (by kernel_rfl) (fun _ _ _ h=>h) (by rfl) (by assumption) ?_;simp only[nx,br,eV,dV,dJ,bh,be,bf]
     refine nF (v:= ?_) 23 rfl (by kernel_rfl) (fun _ _ _ h=>h) (by rfl) (by assumption) ?_ ?_
     rotate_left
     ·intro w E;(try dsimp only at E);simp only[nx];go_simp<;>with_reducible rfl
     simp only[nx,br,eV,dV,dJ,bh,be,bf];refine Ch (by kernel_rfl) ?_ _;refine Ci ?_;go_wp2_with fail;go_region_held3(fun w'=>w'.cell? ⟨g,j*2,none⟩=some (ah a)∧w'.cell? ⟨g,j*2+1,none⟩=some (ah b)) (go_keep) (fail)
     all_goals
      go_wp2_with fail;go_roundw;case rel=>exact⟨j+1,_,by omega,by go_num,rfl,by have:=ac.out;simp[sS];omega,ad.out,ab.out.drew.drew,Y.out.drew.drew⟩
      case measure=>simp[intOf];omega
    ·have bJ:(0:Int)<(j:Int):=by omega
     by_cases aj:a.data.toList=[]
     ·have cd:a.toList.isEmpty=true:=by rw[eT,aj];rfl
      obtain⟨a0,aM,cc,ba,ci,bI⟩:=a2.out.at Y.out.len (j-1) (by omega);have bY:Hid (aM.size≤1000):=bI;have aB:Hid (b.size≤1000):=aB;obtain⟨cw,a9,-,-,-,bp,-⟩:=Y.out.cell (by omega);simp only[aC,cx,and_true]at a9;subst a9;have b9:=bp _ _ ba;have q1:ae.wrap ((j:Int)-1)=((j-1:Nat):Int):=by rw[bA (by omega)];omega
      have c9:(0:Int)≤((j-1:Nat):Int):=by omega
      have db:((j-1:Nat):Int)<(n:Int):=by omega
      have dg:=aa am;clear aj bp cc ba ci bI;go_wp2_with fail;refine mx ?_;refine Cg (S:=fun w'=>w'.cell? ⟨g,j*2,none⟩=some (ah a)∧w'.cell? ⟨g,j*2+1,none⟩=some (ah b)∧w'.cell? ⟨g,(j-1)*2+1,none⟩=some (ah aM)) (by kernel_rfl) ?_ (fun bd=> ?_);·go_keep
      simp only[kD,aA,j6,bF,cL,cO,fM]
      iterate 22
       refine nF (v:= ?_) 0 rfl (by kernel_rfl) (fun _ _ _ h=>h) (by rfl) (by assumption) ?_ ?_
       rotate_left
       ·intro w E;(try dsimp only at E);simp only[nx];go_simp<;>with_reducible rfl
       simp only[nx,br,eV,dV,dJ,bh,be,bf]
      refine wpAnyH_ready (rs:=[22]) (by kernel_rfl) (by simp) ?_;refine AllReadyH.cons (o:=_) rfl (fun K bg=> ?_) AllReadyH.nil;go_simp;go_at_call 124;refine(HS h _ ad.out.drew aM b (by have:=bY.out;omega) (by have:=aB.out;omega)).mono ?_;rintro e bN ⟨⟨b0,rfl⟩,M⟩;have aX:=aa (ab.out.drew.trans (M.mono ab.out.size));have a1:Hid (ao h bN):=ad.out.drew.below M;have a3:Hid (Ow bN h w.heap.size 199 2 (ag (some ⟨g,0,none⟩) n c3) n xs):=Y.out.drew.same M;have co:=(dc (a:=⟨g,j*2,none⟩) (M.block g am)).trans c1;have cq:=(dc (a:=⟨g,j*2+1,none⟩) (M.block g am)).trans c2;have ct:=(dc (a:=⟨g,(j-1)*2+1,none⟩) (M.block g am)).trans b9;clear M;refine bg.out _ _ ?_ (fun cz=> ?_);·exact⟨co,cq,ct⟩
      clear bg K;try simp only[bh,be,bf]
      refine nF (v:= ?_) 23 rfl (by kernel_rfl) (fun _ _ _ h=>h) (by rfl) (by assumption) ?_ ?_
      rotate_left
      ·intro w E;(try dsimp only at E);simp only[nx];go_simp<;>with_reducible rfl
      simp only[nx,br,eV,dV,dJ,bh,be,bf];refine Ch (by kernel_rfl) ?_ _;refine Ci ?_;cases b0
      ·go_wp2_with fail;go_region_held3(fun w'=>w'.cell? ⟨g,j*2,none⟩=some (ah a)∧w'.cell? ⟨g,j*2+1,none⟩=some (ah b)) (go_keep) (fail)
       all_goals
        go_wp2_with fail;go_roundw;case rel=>exact⟨j+1,_,by omega,by go_num,rfl,by have:=ac.out;simp[sS];omega,a1.out,aX.out.drew,a3.out.drew⟩
        case measure=>simp[intOf];omega
      ·go_wp2_with fail;obtain⟨G,aT⟩:∃G,G=A++(qC #[32]):=⟨_,rfl⟩
       rw[←aT];have bz:G.size=A.size+1:=by rw[aT,sS];rfl
       have cF:¬(9223372036854775807:Int)<(G.size:Int)+(a.size:Int):=by omega
       have k1:(G.size:Int)+(a.size:Int)≤9223372036854775807:=by omega
       have k2:¬9223372036854775807<G.size+a.size:=by omega
       have k3:G.size+a.size≤9223372036854775807:=by omega
       have k4:¬(9223372036854775807:Int)<(G.size:Int)+(a.size:Int)+(b.size:Int):=by omega
       have k5:(G.size:Int)+(a.size:Int)+(b.size:Int)≤9223372036854775807:=by omega
       have k6:¬9223372036854775807<G.size+a.size+b.size:=by omega
       have k7:G.size+a.size+b.size≤9223372036854775807:=by omega
       have bS:=aa bz;clear bz aT;go_region_held3(fun w'=>w'.cell? ⟨g,j*2,none⟩=some (ah a)∧w'.cell? ⟨g,j*2+1,none⟩=some (ah b)) (go_keep) (fail)
       all_goals
        go_wp2_with fail;go_roundw;case rel=>exact⟨j+1,_,by omega,by go_num,rfl,by have:=ac.out;have:=bS.out;simp[sS];omega,a1.out,aX.out.drew,a3.out.drew⟩
        case measure=>simp[intOf];omega
     ·have cd:a.toList.isEmpty=false:=by rw[eT];simpa using aj
      clear aj;go_wp2_with fail;refine mx ?_;refine Cg (S:=fun w'=>w'.cell? ⟨g,j*2,none⟩=some (ah a)∧w'.cell? ⟨g,j*2+1,none⟩=some (ah b)) (by kernel_rfl) ?_ (fun bd=> ?_);·go_keep
      simp only[kD,aA,j6,bF,cL,cO,fM]
      iterate 11
       refine nF (v:= ?_) 0 rfl (by kernel_rfl) (fun _ _ _ h=>h) (by rfl) (by assumption) ?_ ?_
       rotate_left
       ·intro w E;(try dsimp only at E);simp only[nx];go_simp<;>with_reducible rfl
       simp only[nx,br,eV,dV,dJ,bh,be,bf]
      iterate 12
       refine tc 11 rfl (by kernel_rfl) (fun _ _ _ h=>h) (by rfl) (by assumption) ?_;simp only[nx,br,eV,dV,dJ,bh,be,bf]
      refine nF (v:= ?_) 23 rfl (by kernel_rfl) (fun _ _ _ h=>h) (by rfl) (by assumption) ?_ ?_
      rotate_left
      ·intro w E;(try dsimp only at E);simp only[nx];go_simp<;>with_reducible rfl
      simp only[nx,br,eV,dV,dJ,bh,be,bf];refine Ch (by kernel_rfl) ?_ _;refine Ci ?_;go_wp2_with fail;go_region_held3(fun w'=>w'.cell? ⟨g,j*2,none⟩=some (ah a)∧w'.cell? ⟨g,j*2+1,none⟩=some (ah b)) (go_keep) (fail)
      all_goals
       go_wp2_with fail;go_roundw;case rel=>exact⟨j+1,_,by omega,by go_num,rfl,by have:=ac.out;simp[sS];omega,ad.out,ab.out.drew.drew,Y.out.drew.drew⟩
       case measure=>simp[intOf];omega
   ·go_wp2_with fail;go_ret;exact⟨⟨_,rfl⟩,bl⟩
def Bf(ts:List Tree)(e:Ending):Prop:=∃b,e= .returned (.bool b)∧(b=true→rU ts)
theorem Bg(ts:List Tree):Bf ts (.returned (.bool false)):=⟨false,rfl,fun h=>by cases h⟩
theorem Bh{s u:ByteArray}(h:(s.toList==u.toList)=false):s≠u:=fun e=>by subst e;simp at h
theorem Jp(h:Hp)(w:World)(a8:ao h w)(v:Value)(ts:List Tree)(bB:hQ h v ts):Calls ai 18 #[v] w fun e w'=>Bf ts e∧Below w.heap.size w w':=by
 obtain⟨cs,aL,ad⟩:=bB;obtain⟨a,bX,rfl,cv⟩:=aL.shape;have aV:=aa aL;have aQ:=aa ad;have M:=aa a8;clear aL ad a8;go_enter Tryz.func18,Tryz.ntmps18;go_wp2_with fail;go_loopw[2,3,4,5,6,7,8,9,10,11,12,13,14,15,16,17,18,19,20,21,22,23,24,25,26,27,28,29,30,31,32,33,34,35,36,37,38,39,40,41,42,43,44,45,46,47,48,49,50,51,52,53,54,55,56,57,58,59,60,61,62] (fun _ i _ _ _ _ _ _ _ _ _ _ _ _ _ _ _ _ _ _ _ _ _ _ _ _ _ _ _ _ _ _ _ _ _ _ _ _ _ _ _ _ _ _ _ _ _ _ _ _ _ _ _ _ _ _ _ _ _ _ _ wr=>∃(n:Nat),n≤ts.length∧i=af ae n∧jz ts n∧(∀a,a<n→jz (ts.getD a default).kids (ts.getD a default).kids.length)∧Below w.heap.size w wr) (fun _ i _ _ _ _ _ _ _ _ _ _ _ _ _ _ _ _ _ _ _ _ _ _ _ _ _ _ _ _ _ _ _ _ _ _ _ _ _ _ _ _ _ _ _ _ _ _ _ _ _ _ _ _ _ _ _ _ _ _ _ _=>ts.length-(intOf i).toNat);case atStart=>exact⟨0,aW _,rfl,zQ _,fun a h=>absurd h (by omega),aD _ _⟩
 case round=>
  obtain⟨n,cw,rfl,aZ,a9,bl⟩:=hrel;have aP:=aa aZ;have aT:=aa a9;have A:=aa bl;clear aZ a9 bl;by_cases aB:n<ts.length
  ·obtain⟨b,cz,bN,cc,bG,ck,rfl,bg,a2⟩:=ed aV.out aQ.out n aB;have aj:=aa fun w' (aJ:ao h w')=>a2 w' aJ;obtain⟨bO,cd,bH,bY,cZ,e,co,cu,cq,bA,bd,a1⟩:=bg.open;simp only[oG,Array.mk.injEq,ii,bU,and_true,true_and]at e;obtain⟨⟨rfl,rfl⟩,rfl,rfl⟩:=e;have aX:=aa bd;have aS:=aa a1;have cD:(0:Int)≤(n:Int):=by omega
   have cE:(n:Int)<(ts.length:Int):=by omega
   clear bg a2 bA bd a1;obtain⟨ac,G⟩:∃ac,ac=wr:=⟨_,rfl⟩
   rw[←G]at A⊢;clear G;go_wp2_with fail;go_loopw[2,4,13,14,15,16,17,18,19,20,21,22,23,24,25,26,27,28] (fun _ i _ _ _ _ _ _ _ _ _ _ _ _ _ _ _ _ wr=>∃(k:Nat),k≤n∧i=af ae k∧nZ ts n k∧Below w.heap.size w wr) (fun _ i _ _ _ _ _ _ _ _ _ _ _ _ _ _ _ _ _=>n-(intOf i).toNat);case atStart=>exact⟨0,aW _,rfl,fun b h=>absurd h (by omega),A.out⟩
   case round=>
    obtain⟨k,ct,rfl,E,bl⟩:=hrel;have ak:=aa E;clear A;have A:=aa bl;clear E bl;by_cases bz:k<n
    ·obtain⟨b2,cA,bR,ce,bI,bZ,e,-,a3⟩:=ed aV.out aQ.out k (by omega);simp only[aC,cx,and_true]at e;obtain⟨am,ax⟩:=e;subst am;subst ax;obtain⟨O,E,Y,ab⟩:=aj.out wr (M.out.below A.out);obtain⟨bv,c1,c2,c3⟩:=a3 wr (M.out.below A.out);have w1:(0:Int)≤(k:Int):=by omega
     have w2:(k:Int)<(ts.length:Int):=by omega
     have w3:(k:Int)<(n:Int):=by omega
     obtain⟨aM,aG⟩:∃b,(ts[n].text.toList==(ts[k]'(by omega)).text.toList)=b:=⟨_,rfl⟩
     clear a3;cases aM
     ·have NX:=aa (ak.out.next (by rw[getD_at aB,getD_at (by omega)];exact Bh aG));go_wp2_with fail
      first
       |go_region_law(fail)
       |fail
      all_goals
       go_wp2_with fail;go_roundw;case rel=>exact⟨k+1,by omega,by go_num,NX.out,A.out.drewN _⟩
       case measure=>simp[intOf];omega
     ·go_wp2_with fail
      first
       |go_region_law(fail)
       |fail
      all_goals
       go_wp2_with fail;go_ret;exact⟨Bg _,A.out.drewN _⟩
    ·obtain⟨O,E,Y,ab⟩:=aj.out wr (M.out.below A.out)
     have bm:Hid (nZ ts n n):=by
      have:k=n:=by omega
      subst this;exact ak.out
     have w3:¬(k:Int)<(n:Int):=by omega
     have cF:decide ((k:Int)<(n:Int))=false:=by simp;omega
     have cG:decide (k<n)=false:=by simp;omega
     clear ak;obtain⟨cK,G⟩:∃ac,ac=wr:=⟨_,rfl⟩
     rw[←G]at A O E Y ab⊢;clear G;go_wp2_with fail;go_loopw[2,5,6,29,30,31,32,33,34,35,36,37,38,39,40,41,42,43,44,45,46,47,48,49,50,51,52,53,54,55,56,57,58,59,60,61,62] (fun _ i _ _ _ _ _ _ _ _ _ _ _ _ _ _ _ _ _ _ _ _ _ _ _ _ _ _ _ _ _ _ _ _ _ _ _ wr=>∃(d:Nat),d≤ts[n].kids.length∧i=af ae d∧jz ts[n].kids d∧Below w.heap.size w wr) (fun _ i _ _ _ _ _ _ _ _ _ _ _ _ _ _ _ _ _ _ _ _ _ _ _ _ _ _ _ _ _ _ _ _ _ _ _ _=>ts[n].kids.length-(intOf i).toNat);case atStart=>exact⟨0,aW _,rfl,zQ _,A.out⟩
     case round=>
      obtain⟨d,cm,rfl,aY,bl⟩:=hrel;have aN:=aa aY;clear A O E Y ab;have A:=aa bl;clear aY bl;obtain⟨O,E,Y,ab⟩:=aj.out wr (M.out.below A.out);by_cases ba:d<ts[n].kids.length
      ·have cN:(0:Int)≤(d:Int):=by omega
       have bC:(d:Int)<(ts[n].kids.length:Int):=by omega
       obtain⟨b3,cB,bS,cf,bJ,b0,rfl,-,a4⟩:=ed aX.out aS.out d ba;have bp:=aa fun w' (aJ:ao h w')=>a4 w' aJ;clear a4;obtain⟨cM,G⟩:∃ac,ac=wr:=⟨_,rfl⟩
       rw[←G]at A O E Y ab⊢;clear G;go_wp2_with fail;go_loopw[2,6,39,40,41,42,43,44,45,46,47,48,49,50,51,52,53,54,55,56,57,58,59,60,61,62] (fun _ i _ _ _ _ _ _ _ _ _ _ _ _ _ _ _ _ _ _ _ _ _ _ _ _ wr=>∃(k:Nat),k≤d∧i=af ae k∧nZ ts[n].kids d k∧Below w.heap.size w wr) (fun _ i _ _ _ _ _ _ _ _ _ _ _ _ _ _ _ _ _ _ _ _ _ _ _ _ _=>d-(intOf i).toNat);case atStart=>exact⟨0,aW _,rfl,fun b h=>absurd h (by omega),A.out⟩
       case round=>
        obtain⟨k,cn,rfl,ad,bl⟩:=hrel;have aO:=aa ad;clear A O E Y ab;have A:=aa bl;clear ad bl;obtain⟨O,E,Y,ab⟩:=aj.out wr (M.out.below A.out);by_cases bz:k<d
        ·obtain⟨bV,cC,bT,cg,bL,b9,e,-,a5⟩:=ed aX.out aS.out k (by omega);simp only[aC,cx,and_true]at e;obtain⟨am,ax⟩:=e;subst am;subst ax;obtain⟨ch,g1,ci,cj⟩:=bp.out wr (M.out.below A.out);obtain⟨bv,c1,c2,c3⟩:=a5 wr (M.out.below A.out);have cU:(0:Int)≤(k:Int):=by omega
         have cV:(k:Int)<(ts[n].kids.length:Int):=by omega
         have bE:(k:Int)<(d:Int):=by omega
         obtain⟨aM,aG⟩:∃b,(ts[n].kids[d].text.toList==(ts[n].kids[k]'(by omega)).text.toList)=b:=⟨_,rfl⟩
         clear a5;cases aM
         ·have NX:=aa (aO.out.next (by rw[getD_at ba,getD_at (by omega)];exact Bh aG));go_wp2_with fail
          first
           |go_region_law(fail)
           |fail
          all_goals
           go_wp2_with fail;go_roundw;case rel=>exact⟨k+1,by omega,by go_num,NX.out,A.out.drewN _⟩
           case measure=>simp[intOf];omega
         ·go_wp2_with fail
          first
           |go_region_law(fail)
           |fail
          all_goals
           go_wp2_with fail;go_ret;exact⟨Bg _,A.out.drewN _⟩
        ·have NX:Hid (jz ts[n].kids (d+1)):=aN.out.next (by
          have:k=d:=by omega
          subst this;exact aO.out)
         have bE:¬(k:Int)<(d:Int):=by omega
         have cX:decide ((k:Int)<(d:Int))=false:=by simp;omega
         have cY:decide (k<d)=false:=by simp;omega
         go_wp2_with fail;go_roundw;case rel=>exact⟨d+1,by omega,by go_num,NX.out,A.out⟩
         case measure=>simp[intOf];omega
      ·have bq:Hid (jz ts[n].kids ts[n].kids.length):=by
        have:d=ts[n].kids.length:=by omega
        rw[←this];exact aN.out
       have bC:¬(d:Int)<(ts[n].kids.length:Int):=by omega
       have cQ:decide ((d:Int)<(ts[n].kids.length:Int))=false:=by simp;omega
       have cS:decide (d<ts[n].kids.length)=false:=by simp;omega
       go_wp2_with fail;go_roundw
       case rel=>exact⟨n+1,by omega,by go_num,aP.out.next bm.out,fun a cl=>by
        rcases Nat.lt_or_ge a n with q|q;·exact aT.out a q
        ·have:a=n:=by omega
         subst this;rw[getD_at aB];exact bq.out,A.out⟩
       case measure=>simp[intOf];omega
  ·obtain rfl:n=ts.length:=by omega
   go_wp2_with fail;go_ret;exact⟨⟨true,rfl,fun _=>G7 aP.out aT.out⟩,A.out⟩
end Go.Proofs.YtdplggpbgommnaaGreatDoor
