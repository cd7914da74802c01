/- sequence.Align. -/
import Derived.Test.YtdplggpbgommnaaGreatDoorWg
import Derived.Test.YtdplggpbgommnaaGreatDoorG04
open Go.Addr.mk renaming injEq→cx
open Go.IntKind renaming i64→ae
open Go.Lib renaming hid→aa
open Go.Value renaming int→af,slice→ag
open Go.Value.slice renaming injEq→bU
open Nat renaming add_zero→dz,eq_zero_or_pos→et,le_refl→an
open Option.some renaming injEq→aC
set_option maxRecDepth 100000
set_option maxHeartbeats 4000000
namespace Go.Proofs.YtdplggpbgommnaaGreatDoor
open Go.RowKit
theorem J0{h:Hp}{v:Value}{drop add:List Int}{cost:List (List Int)}(aN:gP h v (iN drop add cost)):∃b G M,v=ag (some ⟨b,G,none⟩) (drop.length+1) M∧∀w,ao h w→b<w.heap.size∧∀k,k≤drop.length→∃b' E c',w.cell? ⟨b,G+k,none⟩=some (ag (some ⟨b',E,none⟩) (add.length+1) c')∧∀q,q≤add.length→w.cell? ⟨b',E+q,none⟩=some (af ae (pt drop add cost k q)):=by
 have aJ:(iN drop add cost).length=drop.length+1:=by simp[iN]
 obtain⟨cs,s,e⟩:=aN;obtain⟨a,M,rfl,aY⟩:=s.shape;have aM:=s;obtain⟨a',aS,ak,h1,h2,ad⟩:=aM;simp only[bU,true_and]at ak;obtain⟨rfl,rfl⟩:=ak;rcases ad with ad|⟨b,G,c,rfl,aB,aV⟩;·omega
 refine⟨b,G,M,by rw[aJ],fun w Y=>⟨cD (Y b c aB),fun k aX=> ?_⟩⟩;obtain⟨b1,aZ,aj,aT,aG⟩:=s.cells Y (by omega);simp only[aC,cx,and_true]at aj;obtain⟨rfl,rfl⟩:=aj;obtain⟨aO,⟨aQ,cp,rfl,ax⟩,am⟩:=e.at 1 io.len k (by omega);have ab:=am 0 (by omega);simp only[Nat.mul_one,dz,List.getElem?_cons_zero]at ab;obtain⟨aP,c2,ac,_,O⟩:=ax.open;simp only[bU,true_and]at ac;obtain⟨rfl,rfl⟩:=ac;have A:(iN drop add cost)[k]=(List.range (add.length+1)).map (pt drop add cost k):=by simp[iN]
 obtain⟨b',E,rfl,_,O⟩:=O w Y (by rw[A];simp);refine⟨b',E,cp,?_,fun q aL=> ?_⟩;·have:=aG _ _ ab;rw[A]at this;simpa using this
 ·have:=O q (by rw[A];simpa using Nat.lt_succ_of_le aL);simpa[A]using this
theorem J1(h:Hp)(w:World)(G:ao h w)(cF cD cE:Value)(drop add:List Int)(cost:List (List Int))(bC:Ints h cF drop)(bB:Ints h cD add)(aN:gP h cE cost)(am:lS drop add cost):Calls Tryz.prog 149 #[cF,cD,cE] w fun e w'=>∃cs,e= .returned (.tuple #[.agg cs.toArray,af ae 0])∧∃h',St w.heap.size h w h' w'∧lL h' (e0 drop add cost) cs:=by
 have aZ:=aa G;have aJ:=aa am;have bX:=aa bC;have bS:=aa bB;have bT:=aa aN;have d2:=am.dl;have dR:=am.al;have ch:=am.cl;have cY:Hid (jt drop add cost=true):=tL.2 am;obtain⟨dk,dC,rfl,d3,aP⟩:=bC.open;obtain⟨dh,ca,rfl,dT,cg⟩:=bB.open;obtain⟨di,dB,rfl,d1,aO⟩:=aN.open;have cM:=aa (fun w' G=>aP w' G);have dg:=aa (fun w' G=>cg w' G);have cG:=aa (fun w' G=>aO w' G);have M:=aa ch;clear bC bB aN aP cg aO G am ch;go_enter Tryz.func149,Tryz.ntmps149;go_wp2_with fail;refine(Da h _ (aZ.out.alloc _) _ _ _ drop add cost bX.out bS.out bT.out).mono ?_;rintro e w' ⟨rfl,rfl⟩;rw[cY.out];go_wp2_with fail;refine(JZ h _ (aZ.out.alloc _) _ _ _ drop add cost bX.out bS.out bT.out aJ.out).mono ?_;rintro e w1 ⟨er,rfl,h1,bZ,bz⟩;obtain⟨aM,aS,cp,rfl,aQ⟩:=J0 bz;have ad:=aa bZ;have cN:=aa bz;have bY:=aa (fun w' G=>aQ w' G);clear bz aQ bZ;go_wp2_with fail;have ba:Hid (∀i,w1.cell? ⟨w.heap.size,i,none⟩=(#[ag none 0 0,af ae 0,ag none 0 0]:Array Value)[i]?):=fun i=>by rw[ad.out.below.cell (by simp),World.cell?_alloc_at _ _ _ _ rfl]
 have bd:Hid (∀i,w1.frozen? ⟨w.heap.size,i,none⟩=false):=fun i=>by rw[ad.out.below.frozen (by simp),World.frozen?_alloc_at _ _ _ _ rfl]
 have ax:w.heap.size<w1.heap.size:=by have:=ad.out.below.size;simp at this;omega
 have aB:Hid (∀i j,0≤pt drop add cost i j∧pt drop add cost i j≤((i+j:Nat):Int)*1048576):=mK aJ.out;have ci:=fun f i j h1 h2=>q9 drop add cost f (i+j) i j h1 h2;have bm:=aa ci;clear ci;go_loopw[11,12,13,30,31,32,33,34,35,36,37,38,39,40,41,42,43,44,45,46,47,48,49,50,51,52,53,54,55,56,57,58,59,60,61,62,63,64,65,66,67,68,69,70,71,72,73,74,75,76,77,78,79,80,81,82,83,84,85,86,87,88,89,90,91,92,93,94,95,96,97,98,99,100,101,102,103,104,105,106,107,108,109,110,111,112,113,114,115,116,117,118,119,120,121,122,123,124] (fun v i j _ _ _ _ _ _ _ _ _ _ _ _ _ _ _ _ _ _ _ _ _ _ _ _ _ _ _ _ _ _ _ _ _ _ _ _ _ _ _ _ _ _ _ _ _ _ _ _ _ _ _ _ _ _ _ _ _ _ _ _ _ _ _ _ _ _ _ _ _ _ _ _ _ _ _ _ _ _ _ _ _ _ _ _ _ _ _ _ _ _ _ _ _ _ _ wr=>∃(a3 a4:Nat) (l:List (Int×Int)),a3≤drop.length∧a4≤add.length∧i=af ae a3∧j=af ae a4∧St w1.heap.size h1 w1 h1 wr∧lO wr h1 w1.heap.size v l∧Hid (l++bO drop add cost (a3+a4) a3 a4=bO drop add cost (drop.length+add.length) drop.length add.length)) (fun _ i j _ _ _ _ _ _ _ _ _ _ _ _ _ _ _ _ _ _ _ _ _ _ _ _ _ _ _ _ _ _ _ _ _ _ _ _ _ _ _ _ _ _ _ _ _ _ _ _ _ _ _ _ _ _ _ _ _ _ _ _ _ _ _ _ _ _ _ _ _ _ _ _ _ _ _ _ _ _ _ _ _ _ _ _ _ _ _ _ _ _ _ _ _ _ _ _=>(intOf i).toNat+(intOf j).toNat);case atStart=>exact⟨drop.length,add.length,[],an _,an _,rfl,rfl,St.refl ad.out.I,Ow.nil _ _ _ _ _,rfl⟩
 case round=>
  obtain⟨i,j,l,d5,d6,rfl,rfl,S,bq,R⟩:=hrel;obtain⟨aj,ak,rfl⟩:=Ow.shape bq;have S':=aa S;have E:=aa bq;obtain⟨dX,aQ⟩:=bY.out wr S.I;have bv:=aa aQ;have bp:Hid (ao h wr):=fun b c aN=>S'.out.I b c (ad.out.le b c aN);clear aQ S bq;rcases et i with rfl|d4
  ·rcases et j with rfl|cX
   ·have bE:l=bO drop add cost (drop.length+add.length) drop.length add.length:=by have:=R.out;rw[show bO drop add cost (0+0) 0 0=[]from rfl,List.append_nil]at this;exact this
    have d7:l.length≤800:=by rw[bE];have:=pR drop add cost (drop.length+add.length) drop.length add.length;omega
    have bL:=aa bE;obtain⟨b9,cA,cc,cd,ab⟩:=bv.out drop.length (by omega);have aY:=ab add.length (by omega);have b1:=aB.out drop.length add.length;clear bE ab;go_wp2_with fail;refine(DE h1 _ S'.out.I w1.heap.size _ l (by omega) E.out).mono ?_;rintro e ac ⟨rfl,cf,cB⟩;have O:St w1.heap.size h1 w1 h1 ac:=S'.out.grown cf (fun k cl=>⟨(E.out.lt k cl).1,E.out.free k cl⟩);have c6:ac.cell? ⟨w.heap.size,0,none⟩=some (ag none 0 0):=by rw[O.below.cell ax,ba.out];rfl
    have k1:ac.cell? ⟨w.heap.size,1,none⟩=some (af ae 0):=by rw[O.below.cell ax,ba.out];rfl
    have k2:ac.cell? ⟨w.heap.size,2,none⟩=some (ag none 0 0):=by rw[O.below.cell ax,ba.out];rfl
    have ey:ac.frozen? ⟨w.heap.size,0,none⟩=false:=by rw[O.below.frozen ax];exact bd.out 0
    have ez:ac.frozen? ⟨w.heap.size,1,none⟩=false:=by rw[O.below.frozen ax];exact bd.out 1
    have eA:ac.frozen? ⟨w.heap.size,2,none⟩=false:=by rw[O.below.frozen ax];exact bd.out 2
    obtain⟨dY,cn⟩:=bY.out ac O.I;obtain⟨b9,cA,cc,cd,ab⟩:=cn drop.length (by omega);have aY:=ab add.length (by omega);have cQ:=aa O;have cC:=aa cB;clear cf cB O cn ab;go_wp2_with fail;have bH:h1 w.heap.size=none:=by rw[ad.out.aI _ (by simp)];exact bI aZ.out _ (an _)
    have cS:=(((St.refl aZ.out).alloc _).call ad.out).call cQ.out;have bG:∀i,(ag aj l.length ak).ownBlock≠some (⟨w.heap.size,i,none⟩:Addr).block:=fun i e=>by have dQ:w1.heap.size≤w.heap.size:=(cC.out.lt _ e).1;omega
    refine bodyPost_ret (v:= .tuple #[.agg #[ag aj l.length ak,af ae (pt drop add cost drop.length add.length),ag (some ⟨aM,aS,none⟩) (drop.length+1) cp],af ae 0]) (by simp[results,Tryz.results149,go_sem,c6,k1,k2]) rfl ?_;have b0:=((cS.setCell (p:=⟨w.heap.size,0,none⟩) (an _) bH (ag aj l.length ak)).setCell (p:=⟨w.heap.size,1,none⟩) (an _) bH (af ae (pt drop add cost drop.length add.length))).setCell (p:=⟨w.heap.size,2,none⟩) (an _) bH (ag (some ⟨aM,aS,none⟩) (drop.length+1) cp);have c9:=((((cC.out.setCell (bG 0) (ag aj l.length ak)).setCell (bG 1) (af ae (pt drop add cost drop.length add.length))).setCell (bG 2) (ag (some ⟨aM,aS,none⟩) (drop.length+1) cp)).base (B':=w.heap.size) (by omega)).sl (by omega);have co:(iN drop add cost).length=drop.length+1:=by simp[iN]
    refine⟨[ag aj l.length ak,af ae (pt drop add cost drop.length add.length),ag (some ⟨aM,aS,none⟩) (drop.length+1) cp],rfl,_,b0.fr,aj,ak,some ⟨aM,aS,none⟩,cp,?_,?_,?_,?_⟩;·simp[e0,co,bL.out]
    ·simp only[e0];unfold aG;omega
    ·refine⟨?_,fun q cq=> ?_⟩;·simpa[e0,bL.out]using c9
     ·simp only[e0,List.mem_reverse]at cq;have:=nO _ _ _ _ _ _ q cq;unfold aG;omega
    ·have:=cN.out.mono (Hp.gQ (B:=w.heap.size) b0.I);simpa[e0,co]using this
   ·obtain⟨j,rfl⟩:∃k,j=k+1:=⟨j-1,by omega⟩
    have A:Hid (l++bO drop add cost (0+j) 0 j=bO drop add cost (drop.length+add.length) drop.length add.length):=by unfold Hid;rw[←R.out,show 0+(j+1)=(0+j)+1 by omega,bO,if_pos (by omega),if_neg (by omega),if_neg (by omega)];rfl
    go_wp2_with fail;go_quiet(fail);go_wp2_with fail;go_quiet(fail);go_wp2_with fail;go_roundw;case rel=>exact⟨0,j,l,by omega,by omega,rfl,by go_num,(S'.out.drewN _),(E.out.drewN _),A⟩
    case measure=>simp[intOf]
  ·obtain⟨i,rfl⟩:∃k,i=k+1:=⟨i-1,by omega⟩
   obtain⟨dr,oa,dA,dG,a1⟩:=bv.out i (by omega);obtain⟨b9,cA,cc,cd,ab⟩:=bv.out (i+1) (by omega);obtain⟨du,od,rfl,dW,aP⟩:=cM.out wr bp.out (by omega);have dF:=aP i (by omega);have b2:=aJ.out.d drop[i] (by simp);have cj:Hid (drop.getD i 0=drop[i]):=dj _ _ _ _;generalize drop[i]=Y at*;have bg:=aa a1;have aY:=aa ab;clear aP a1 ab;have q1:ae.wrap (i:Int)=i:=bA (by omega);have ec:(0:Int)≤(i:Int):=by omega
   have ed:(i:Int)<(drop.length:Int)+1:=by omega
   have ei:(i:Int)<(drop.length:Int):=by omega
   have ej:(0:Int)≤(i:Int)+1:=by omega
   rcases et j with rfl|cX
   ·have A:Hid (l++bO drop add cost (i+0) i 0=bO drop add cost (drop.length+add.length) drop.length add.length):=by unfold Hid;rw[←R.out,show(i+1)+0=(i+0)+1 by omega,bO,if_pos (by omega),if_neg (by omega),if_pos ⟨by omega,oV drop add cost i⟩];rfl
    have ce:=bg.out 0 (by omega);have g1:=aY.out 0 (by omega);simp only[dz]at ce g1;have b1:=aB.out i 0;have b3:Hid (pt drop add cost (i+1) 0=pt drop add cost i 0+Y):=by unfold Hid;rw[oV,cj.out]
    have db:ae.wrap (pt drop add cost i 0+Y)=pt drop add cost i 0+Y:=bA (by omega);have ek:(pt drop add cost (i+1) 0==pt drop add cost i 0+Y)=true:=kO b3.out;generalize pt drop add cost (i+1) 0=ex at*;generalize pt drop add cost i 0=es at*;go_wp2_with fail;go_quiet(fail);go_wp2_with fail;go_quiet(fail);clear db;go_wp2_with fail;go_roundw;case rel=>exact⟨i,0,l,by omega,by omega,by go_num,rfl,(S'.out.drewN _),(E.out.drewN _),A⟩
    case measure=>simp[intOf]
   ·obtain⟨j,rfl⟩:∃k,j=k+1:=⟨j-1,by omega⟩
    have ce:=bg.out j (by omega);have g1:=bg.out (j+1) (by omega);have dO:=aY.out (j+1) (by omega);obtain⟨dt,ea,rfl,dU,aO⟩:=cG.out wr bp.out (by rw[M.out];omega);obtain⟨ar,cr,cU,cz⟩:=aO i (by rw[M.out];omega);have cw:=aJ.out.rl i (by rw[M.out];omega);obtain⟨dm,dD,cv,-,cu⟩:=cz.open;simp only[bU,true_and]at cv;obtain⟨rfl,rfl⟩:=cv;obtain⟨dw,eb,rfl,dZ,ct⟩:=cu wr bp.out (by omega);have dE:=ct j (by omega);have dq:=aJ.out.c i (by rw[M.out];omega) ((cost[i]'(by rw[M.out];omega))[j]'(by omega)) (by simp);have cV:Hid ((cost.getD i []).getD j 0=(cost[i]'(by rw[M.out];omega))[j]'(by omega)):=by unfold Hid;rw[dj cost i _ (by rw[M.out];omega),dj _ j _ (by omega)]
    rw[cw]at cU;generalize(cost[i]'(by rw[M.out];omega))[j]'(by omega)=x at*;clear ct cu aO cz;clear cw;have d0:i<cost.length:=by rw[M.out];omega
    have b1:=aB.out i j;have dn:=aB.out i (j+1);have dp:=aB.out (i+1) (j+1);have aL:Hid (bO drop add cost ((i+1)+(j+1)) (i+1) (j+1)=if 0≤x∧pt drop add cost (i+1) (j+1)=pt drop add cost i j+x then((i:Int),(j:Int))::bO drop add cost (i+j) i j else if pt drop add cost (i+1) (j+1)=pt drop add cost i (j+1)+Y then bO drop add cost (i+(j+1)) i (j+1)else bO drop add cost ((i+1)+j) (i+1) j):=by unfold Hid;rw[show(i+1)+(j+1)=(i+j+1)+1 by omega,bO,if_pos (by omega)];simp only[Nat.add_sub_cancel,cV.out,cj.out];rw[bm.out (i+j+1) i j (by omega) (by omega),bm.out (i+j+1) i (j+1) (by omega) (by omega),bm.out (i+j+1) (i+1) j (by omega) (by omega)];simp
    have aT:ae.wrap (j:Int)=j:=bA (by omega);have el:(0:Int)≤(j:Int):=by omega
    have em:(j:Int)<(add.length:Int)+1:=by omega
    have en:(j:Int)<(add.length:Int):=by omega
    have eo:(0:Int)≤(j:Int)+1:=by omega
    have ep:(i:Int)<(cost.length:Int):=by omega
    generalize pt drop add cost (i+1) (j+1)=a9 at*;generalize pt drop add cost i (j+1)=a8 at*;generalize pt drop add cost i j=a5 at*;have aV:ae.wrap (a5+x)=a5+x:=bA (by omega);have aX:ae.wrap (a8+Y)=a8+Y:=bA (by omega);by_cases a2:0≤x
    ·by_cases hy:a9=a5+x
     ·have cZ:=kO hy;have A:Hid ((l++[((i:Int),(j:Int))])++bO drop add cost (i+j) i j=bO drop add cost (drop.length+add.length) drop.length add.length):=by unfold Hid;rw[←R.out,aL.out,if_pos ⟨a2,hy⟩];simp
      have d8:l.length+1≤800:=by have a1:=congrArg List.length A.out;have dN:=pR drop add cost (drop.length+add.length) drop.length add.length;simp only[List.length_append,List.length_cons,List.length_nil]at a1;omega
      clear hy;go_wp2_with fail;go_quiet(fail);clear aV aX q1 aT;go_wp2_with(at_builtin;refine ft q3 rfl _ _ rfl ((S'.out.drewN _).alloc _) _ l.length _ rfl ((E.out.drewN _).alloc _) ⟨_,0,none⟩ 1 1 (bV ((i:Int),(j:Int))) rfl rfl (cK _ _ _ _ (by simp)) (cm _ rfl) (by omega) ?_;intro eq w3 de c8 dP dv);go_roundw;case rel=>exact⟨i,j,l++[((i:Int),(j:Int))],by omega,by omega,by go_num,by go_num,de,by unfold lO;rw[xq];simpa using c8,A⟩
      case measure=>simp[intOf];omega
     ·have cZ:=kK hy;have bR:Hid (a9≠a5+x):=hy;clear hy;by_cases hz:a9=a8+Y
      ·have bJ:=kO hz;have A:Hid (l++bO drop add cost (i+(j+1)) i (j+1)=bO drop add cost (drop.length+add.length) drop.length add.length):=by unfold Hid;rw[←R.out,aL.out,if_neg (fun e=>bR.out e.2),if_pos hz]
       clear hz;go_wp2_with fail;go_quiet(fail);go_wp2_with fail;go_quiet(fail);clear aV aX q1 aT;go_wp2_with fail;go_roundw;case rel=>exact⟨i,j+1,l,by omega,by omega,by go_num,by go_num,(S'.out.drewN _),(E.out.drewN _),A⟩
       case measure=>simp[intOf]
      ·have bJ:=kK hz;have A:Hid (l++bO drop add cost ((i+1)+j) (i+1) j=bO drop add cost (drop.length+add.length) drop.length add.length):=by unfold Hid;rw[←R.out,aL.out,if_neg (fun e=>bR.out e.2),if_neg hz]
       clear hz;go_wp2_with fail;go_quiet(fail);go_wp2_with fail;go_quiet(fail);clear aV aX q1 aT;go_wp2_with fail;go_roundw;case rel=>exact⟨i+1,j,l,by omega,by omega,by go_num,by go_num,(S'.out.drewN _),(E.out.drewN _),A⟩
       case measure=>simp[intOf]
    ·have d9:decide (0≤x)=false:=by simpa using a2
     have bN:Hid (¬0≤x):=a2;clear a2;by_cases hz:a9=a8+Y
     ·have bJ:=kO hz;have A:Hid (l++bO drop add cost (i+(j+1)) i (j+1)=bO drop add cost (drop.length+add.length) drop.length add.length):=by unfold Hid;rw[←R.out,aL.out,if_neg (fun e=>bN.out e.1),if_pos hz]
      clear hz;go_wp2_with fail;go_quiet(fail);go_wp2_with fail;go_quiet(fail);clear aV aX q1 aT;go_wp2_with fail;go_roundw;case rel=>exact⟨i,j+1,l,by omega,by omega,by go_num,by go_num,(S'.out.drewN _),(E.out.drewN _),A⟩
      case measure=>simp[intOf]
     ·have bJ:=kK hz;have A:Hid (l++bO drop add cost ((i+1)+j) (i+1) j=bO drop add cost (drop.length+add.length) drop.length add.length):=by unfold Hid;rw[←R.out,aL.out,if_neg (fun e=>bN.out e.1),if_neg hz]
      clear hz;go_wp2_with fail;go_quiet(fail);go_wp2_with fail;go_quiet(fail);clear aV aX q1 aT;go_wp2_with fail;go_roundw;case rel=>exact⟨i+1,j,l,by omega,by omega,by go_num,by go_num,(S'.out.drewN _),(E.out.drewN _),A⟩
      case measure=>simp[intOf]
end Go.Proofs.YtdplggpbgommnaaGreatDoor
