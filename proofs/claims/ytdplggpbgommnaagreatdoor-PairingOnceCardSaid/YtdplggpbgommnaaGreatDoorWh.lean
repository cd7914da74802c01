/- sequence.Align. -/
import Derived.Test.YtdplggpbgommnaaGreatDoorWg
import Derived.Test.YtdplggpbgommnaaGreatDoorG03
open Go.Addr.mk renaming injEq->cx
open Go.IntKind renaming i64->ae
open Go.Lib renaming hid->aa
open Go.Value renaming int->af,slice->ag
open Go.Value.slice renaming injEq->bU
open Nat renaming add_zero->dz,eq_zero_or_pos->et,le_refl->kI
open Option.some renaming injEq->aC
set_option maxRecDepth 100000
set_option maxHeartbeats 4000000
namespace Go.Proofs.YtdplggpbgommnaaGreatDoor
open Go.RowKit
theorem J0{h:Hp}{v:Value}{drop add:List Int}{cost:List (List Int)}(hv:gP h v (iN drop add cost)):∃b off O,v=ag (some ⟨b,off,none⟩) (drop.length+1) O/\∀w,ao h w->b<w.heap.size/\∀k,k<=drop.length->∃b' J c',w.cell? ⟨b,off+k,none⟩=some (ag (some ⟨b',J,none⟩) (add.length+1) c')/\∀q,q<=add.length->w.cell? ⟨b',J+q,none⟩=some (af ae (pt drop add cost k q)):=by
 have aM:(iN drop add cost).length=drop.length+1:=by simp[iN]
 obtain⟨cs,s,e⟩:=hv;obtain⟨a,O,rfl,hn⟩:=s.shape;have hs:=s;obtain⟨a',aQ,he,h1,h2,am⟩:=hs;simp only[bU,true_and]at he;obtain⟨rfl,rfl⟩:=he;rcases am with am|⟨b,off,c,rfl,aJ,hc⟩;·omega
 refine⟨b,off,O,by rw[aM],fun w ab=>⟨cD (ab b c aJ),fun k aT=> ?_⟩⟩;obtain⟨b1,aV,ax,aS,aL⟩:=s.cells ab (by omega);simp only[aC,cx,and_true]at ax;obtain⟨rfl,rfl⟩:=ax;obtain⟨aO,⟨ad,cp,rfl,aG⟩,aB⟩:=e.at 1 io.len k (by omega);have aj:=aB 0 (by omega);simp only[Nat.mul_one,dz,List.getElem?_cons_zero]at aj;obtain⟨aP,c2,ak,_,Y⟩:=aG.open;simp only[bU,true_and]at ak;obtain⟨rfl,rfl⟩:=ak;have G:(iN drop add cost)[k]=(List.range (add.length+1)).map (pt drop add cost k):=by simp[iN]
 obtain⟨b',J,rfl,_,Y⟩:=Y w ab (by rw[G];simp);refine⟨b',J,cp,?_,fun q aN=> ?_⟩;·have:=aL _ _ aj;rw[G]at this;simpa using this
 ·have:=Y q (by rw[G];simpa using Nat.lt_succ_of_le aN);simpa[G]using this
theorem J1(h:Hp)(w:World)(O:ao h w)(cv va vc:Value)(drop add:List Int)(cost:List (List Int))(hd:Ints h cv drop)(ha:Ints h va add)(hc:gP h vc cost)(hp:lS drop add cost):Calls Tryz.prog 149 #[cv,va,vc] w fun e w'=>∃cs,e= .returned (.tuple #[.agg cs.toArray,af ae 0])/\∃h',St w.heap.size h w h' w'/\lL h' (e0 drop add cost) cs:=by
 have aZ:=aa O;have aM:=aa hp;have bR:=aa hd;have bL:=aa ha;have bN:=aa hc;have dR:=hp.dl;have dC:=hp.al;have cc:=hp.cl;have cG:Hid (jt drop add cost=true):=tL.2 hp;obtain⟨ad,dr,rfl,dT,aQ⟩:=hd.open;obtain⟨cY,ca,rfl,dD,b9⟩:=ha.open;obtain⟨ac,dp,rfl,dQ,aP⟩:=hc.open;have cz:=aa (fun w' O=>aQ w' O);have cX:=aa (fun w' O=>b9 w' O);have cw:=aa (fun w' O=>aP w' O);have Y:=aa cc;clear hd ha hc aQ b9 aP O hp cc;go_in;go_wp2_with fail;refine(Da h _ (aZ.out.alloc _) _ _ _ drop add cost bR.out bL.out bN.out).mono ?_;rintro e w' ⟨rfl,rfl⟩;rw[cG.out];go_wp2_with fail;refine(JZ h _ (aZ.out.alloc _) _ _ _ drop add cost bR.out bL.out bN.out aM.out).mono ?_;rintro e w1 ⟨ei,rfl,h1,bT,bv⟩;obtain⟨aO,op,cp,rfl,aS⟩:=J0 bv;have ax:=aa bT;have cA:=aa bv;have bS:=aa (fun w' O=>aS w' O);clear bv aS bT;go_wp2_with fail;have a9:Hid (∀i,w1.cell? ⟨w.heap.size,i,none⟩=(#[ag none 0 0,af ae 0,ag none 0 0]:Array Value)[i]?):=fun i=>by rw[ax.out.below.cell (by simp),World.cell?_alloc_at _ _ _ _ rfl]
 have ba:Hid (∀i,w1.frozen? ⟨w.heap.size,i,none⟩=false):=fun i=>by rw[ax.out.below.frozen (by simp),World.frozen?_alloc_at _ _ _ _ rfl]
 have aJ:w.heap.size<w1.heap.size:=by have:=ax.out.below.size;simp at this;omega
 have aL:Hid (∀i j,0<=pt drop add cost i j/\pt drop add cost i j<=((i+j:Nat):Int)*1048576):=mK aM.out;have cd:=fun f i j h1 h2=>q9 drop add cost f (i+j) i j h1 h2;have bg:=aa cd;clear cd;go_loopw[11,12,13] (fun v i j wr=>∃(a2 a3:Nat) (l:List (Int×Int)),a2<=drop.length/\a3<=add.length/\i=af ae a2/\j=af ae a3/\St w1.heap.size h1 w1 h1 wr/\lO wr h1 w1.heap.size v l/\Hid (l++bO drop add cost (a2+a3) a2 a3=bO drop add cost (drop.length+add.length) drop.length add.length)) (fun _ i j _=>(intOf i).toNat+(intOf j).toNat);case atStart=>exact⟨drop.length,add.length,[],kI _,kI _,rfl,rfl,St.refl ax.out.I,Ow.nil _ _ _ _ _,rfl⟩
 case round=>
  obtain⟨i,j,l,dW,dX,rfl,rfl,S,bp,R⟩:=hrel;obtain⟨al,aB,rfl⟩:=Ow.shape bp;have S':=aa S;have J:=aa bp;obtain⟨dG,aS⟩:=bS.out wr S.I;have bq:=aa aS;have bm:Hid (ao h wr):=fun b c hc=>S'.out.I b c (ax.out.le b c hc);clear aS S bp;rcases et i with rfl|dU
  ·rcases et j with rfl|cF
   ·have bz:l=bO drop add cost (drop.length+add.length) drop.length add.length:=by have:=R.out;rw[show bO drop add cost (0+0) 0 0=[]from rfl,List.append_nil]at this;exact this
    have dY:l.length<=800:=by rw[bz];have:=pR drop add cost (drop.length+add.length) drop.length add.length;omega
    have bG:=aa bz;obtain⟨bY,ct,bZ,b0,ak⟩:=bq.out drop.length (by omega);have aY:=ak add.length (by omega);have b1:=aL.out drop.length add.length;clear bz ak;go_wp2_with fail;refine(DE h1 _ S'.out.I w1.heap.size _ l (by omega) J.out).mono ?_;rintro e am ⟨rfl,gr,own⟩;have ab:St w1.heap.size h1 w1 h1 am:=S'.out.grown gr (fun k cf=>⟨(J.out.lt k cf).1,J.out.free k cf⟩);have cN:am.cell? ⟨w.heap.size,0,none⟩=some (ag none 0 0):=by rw[ab.below.cell aJ,a9.out];rfl
    have k1:am.cell? ⟨w.heap.size,1,none⟩=some (af ae 0):=by rw[ab.below.cell aJ,a9.out];rfl
    have k2:am.cell? ⟨w.heap.size,2,none⟩=some (ag none 0 0):=by rw[ab.below.cell aJ,a9.out];rfl
    have el:am.frozen? ⟨w.heap.size,0,none⟩=false:=by rw[ab.below.frozen aJ];exact ba.out 0
    have em:am.frozen? ⟨w.heap.size,1,none⟩=false:=by rw[ab.below.frozen aJ];exact ba.out 1
    have en:am.frozen? ⟨w.heap.size,2,none⟩=false:=by rw[ab.below.frozen aJ];exact ba.out 2
    obtain⟨dN,cg⟩:=bS.out am ab.I;obtain⟨bY,ct,bZ,b0,ak⟩:=cg drop.length (by omega);have aY:=ak add.length (by omega);have cB:=aa ab;have cu:=aa own;clear gr own ab cg ak;go_wp2_with fail;have bC:h1 w.heap.size=none:=by rw[ax.out.aI _ (by simp)];exact bI aZ.out _ (kI _)
    have cC:=(((St.refl aZ.out).alloc _).call ax.out).call cB.out;have bB:∀i,(ag al l.length aB).ownBlock≠some (⟨w.heap.size,i,none⟩:Addr).block:=fun i e=>by have dB:w1.heap.size<=w.heap.size:=(cu.out.lt _ e).1;omega
    refine bodyPost_ret (v:= .tuple #[.agg #[ag al l.length aB,af ae (pt drop add cost drop.length add.length),ag (some ⟨aO,op,none⟩) (drop.length+1) cp],af ae 0]) (by simp[results,Tryz.results149,go_sem,cN,k1,k2]) rfl ?_;have bX:=((cC.setCell (p:=⟨w.heap.size,0,none⟩) (kI _) bC (ag al l.length aB)).setCell (p:=⟨w.heap.size,1,none⟩) (kI _) bC (af ae (pt drop add cost drop.length add.length))).setCell (p:=⟨w.heap.size,2,none⟩) (kI _) bC (ag (some ⟨aO,op,none⟩) (drop.length+1) cp);have cS:=((((cu.out.setCell (bB 0) (ag al l.length aB)).setCell (bB 1) (af ae (pt drop add cost drop.length add.length))).setCell (bB 2) (ag (some ⟨aO,op,none⟩) (drop.length+1) cp)).base (B':=w.heap.size) (by omega)).sl (by omega);have ch:(iN drop add cost).length=drop.length+1:=by simp[iN]
    refine⟨[ag al l.length aB,af ae (pt drop add cost drop.length add.length),ag (some ⟨aO,op,none⟩) (drop.length+1) cp],rfl,_,bX.fr,al,aB,some ⟨aO,op,none⟩,cp,?_,?_,?_,?_⟩;·simp[e0,ch,bG.out]
    ·simp only[e0];unfold aG;omega
    ·refine⟨?_,fun q ci=> ?_⟩;·simpa[e0,bG.out]using cS
     ·simp only[e0,List.mem_reverse]at ci;have:=nO _ _ _ _ _ _ q ci;unfold aG;omega
    ·have:=cA.out.mono (Hp.gQ (B:=w.heap.size) bX.I);simpa[e0,ch]using this
   ·obtain⟨j,rfl⟩:∃k,j=k+1:=⟨j-1,by omega⟩
    have G:Hid (l++bO drop add cost (0+j) 0 j=bO drop add cost (drop.length+add.length) drop.length add.length):=by unfold Hid;rw[<-R.out,show 0+(j+1)=(0+j)+1 by omega,bO,if_pos (by omega),if_neg (by omega),if_neg (by omega)];rfl
    go_wp2_with fail;go_quiet(fail);go_wp2_with fail;go_quiet(fail);go_wp2_with fail;go_roundw;case rel=>exact⟨0,j,l,by omega,by omega,rfl,by go_num,(S'.out.drewN _),(J.out.drewN _),G⟩
    case measure=>simp[intOf]
  ·obtain⟨i,rfl⟩:∃k,i=k+1:=⟨i-1,by omega⟩
   obtain⟨dg,oa,dn,dv,a1⟩:=bq.out i (by omega);obtain⟨bY,ct,bZ,b0,ak⟩:=bq.out (i+1) (by omega);obtain⟨di,d3,rfl,dF,aQ⟩:=cz.out wr bm.out (by omega);have dd:=aQ i (by omega);have b2:=aM.out.d drop[i] (by simp);have ce:Hid (drop.getD i 0=drop[i]):=vL _ _ _ _;generalize drop[i]=aj at*;have bd:=aa a1;have aY:=aa ak;clear aQ a1 ak;have aT:ae.wrap (i:Int)=i:=bA (by omega);have d4:(0:Int)<=(i:Int):=by omega
   have d5:(i:Int)<(drop.length:Int)+1:=by omega
   have d6:(i:Int)<(drop.length:Int):=by omega
   have d7:(0:Int)<=(i:Int)+1:=by omega
   rcases et j with rfl|cF
   ·have G:Hid (l++bO drop add cost (i+0) i 0=bO drop add cost (drop.length+add.length) drop.length add.length):=by unfold Hid;rw[<-R.out,show(i+1)+0=(i+0)+1 by omega,bO,if_pos (by omega),if_neg (by omega),if_pos ⟨by omega,oV drop add cost i⟩];rfl
    have g0:=bd.out 0 (by omega);have g1:=aY.out 0 (by omega);simp only[dz]at g0 g1;have b1:=aL.out i 0;have b3:Hid (pt drop add cost (i+1) 0=pt drop add cost i 0+aj):=by unfold Hid;rw[oV,ce.out]
    have cU:ae.wrap (pt drop add cost i 0+aj)=pt drop add cost i 0+aj:=bA (by omega);have d8:(pt drop add cost (i+1) 0==pt drop add cost i 0+aj)=true:=kO b3.out;generalize pt drop add cost (i+1) 0=ek at*;generalize pt drop add cost i 0=ej at*;go_wp2_with fail;go_quiet(fail);go_wp2_with fail;go_quiet(fail);clear cU;go_wp2_with fail;go_roundw;case rel=>exact⟨i,0,l,by omega,by omega,by go_num,rfl,(S'.out.drewN _),(J.out.drewN _),G⟩
    case measure=>simp[intOf]
   ·obtain⟨j,rfl⟩:∃k,j=k+1:=⟨j-1,by omega⟩
    have g0:=bd.out j (by omega);have g1:=bd.out (j+1) (by omega);have g2:=aY.out (j+1) (by omega);obtain⟨dh,d2,rfl,dE,aP⟩:=cw.out wr bm.out (by rw[Y.out];omega);obtain⟨ar,cr,cD,cq⟩:=aP i (by rw[Y.out];omega);have co:=aM.out.rl i (by rw[Y.out];omega);obtain⟨cZ,dt,cn,-,cl⟩:=cq.open;simp only[bU,true_and]at cn;obtain⟨rfl,rfl⟩:=cn;obtain⟨dm,or,rfl,dO,cj⟩:=cl wr bm.out (by omega);have du:=cj j (by omega);have c9:=aM.out.c i (by rw[Y.out];omega) ((cost[i]'(by rw[Y.out];omega))[j]'(by omega)) (by simp);have cE:Hid ((cost.getD i []).getD j 0=(cost[i]'(by rw[Y.out];omega))[j]'(by omega)):=by unfold Hid;rw[vL cost i _ (by rw[Y.out];omega),vL _ j _ (by omega)]
    rw[co]at cD;generalize(cost[i]'(by rw[Y.out];omega))[j]'(by omega)=x at*;clear cj cl aP cq;clear co;have dP:i<cost.length:=by rw[Y.out];omega
    have b1:=aL.out i j;have c6:=aL.out i (j+1);have c8:=aL.out (i+1) (j+1);have aN:Hid (bO drop add cost ((i+1)+(j+1)) (i+1) (j+1)=if 0<=x/\pt drop add cost (i+1) (j+1)=pt drop add cost i j+x then((i:Int),(j:Int))::bO drop add cost (i+j) i j else if pt drop add cost (i+1) (j+1)=pt drop add cost i (j+1)+aj then bO drop add cost (i+(j+1)) i (j+1)else bO drop add cost ((i+1)+j) (i+1) j):=by unfold Hid;rw[show(i+1)+(j+1)=(i+j+1)+1 by omega,bO,if_pos (by omega)];simp only[Nat.add_sub_cancel,cE.out,ce.out];rw[bg.out (i+j+1) i j (by omega) (by omega),bg.out (i+j+1) i (j+1) (by omega) (by omega),bg.out (i+j+1) (i+1) j (by omega) (by omega)];simp
    have r1:ae.wrap (j:Int)=j:=bA (by omega);have r2:(0:Int)<=(j:Int):=by omega
    have d9:(j:Int)<(add.length:Int)+1:=by omega
    have ea:(j:Int)<(add.length:Int):=by omega
    have eb:(0:Int)<=(j:Int)+1:=by omega
    have ec:(i:Int)<(cost.length:Int):=by omega
    generalize pt drop add cost (i+1) (j+1)=a8 at*;generalize pt drop add cost i (j+1)=a5 at*;generalize pt drop add cost i j=a4 at*;have aV:ae.wrap (a4+x)=a4+x:=bA (by omega);have aX:ae.wrap (a5+aj)=a5+aj:=bA (by omega);by_cases hx:0<=x
    ·by_cases hy:a8=a4+x
     ·have cM:=kO hy;have G:Hid ((l++[((i:Int),(j:Int))])++bO drop add cost (i+j) i j=bO drop add cost (drop.length+add.length) drop.length add.length):=by unfold Hid;rw[<-R.out,aN.out,if_pos ⟨hx,hy⟩];simp
      have dZ:l.length+1<=800:=by have a1:=congrArg List.length G.out;have dw:=pR drop add cost (drop.length+add.length) drop.length add.length;simp only[List.length_append,List.length_cons,List.length_nil]at a1;omega
      clear hy;go_wp2_with fail;go_quiet(fail);clear aV aX aT r1;go_wp2_with(at_builtin;refine ft q3 rfl _ _ rfl ((S'.out.drewN _).alloc _) _ l.length _ rfl ((J.out.drewN _).alloc _) ⟨_,0,none⟩ 1 1 (bV ((i:Int),(j:Int))) rfl rfl (cK _ _ _ _ (by simp)) (cm _ rfl) (by omega) ?_;intro ed w3 cV cQ dA dk);go_roundw;case rel=>exact⟨i,j,l++[((i:Int),(j:Int))],by omega,by omega,by go_num,by go_num,cV,by unfold lO;rw[xq];simpa using cQ,G⟩
      case measure=>simp[intOf];omega
     ·have cM:=kK hy;have bJ:Hid (a8≠a4+x):=hy;clear hy;by_cases hz:a8=a5+aj
      ·have bE:=kO hz;have G:Hid (l++bO drop add cost (i+(j+1)) i (j+1)=bO drop add cost (drop.length+add.length) drop.length add.length):=by unfold Hid;rw[<-R.out,aN.out,if_neg (fun e=>bJ.out e.2),if_pos hz]
       clear hz;go_wp2_with fail;go_quiet(fail);go_wp2_with fail;go_quiet(fail);clear aV aX aT r1;go_wp2_with fail;go_roundw;case rel=>exact⟨i,j+1,l,by omega,by omega,by go_num,by go_num,(S'.out.drewN _),(J.out.drewN _),G⟩
       case measure=>simp[intOf]
      ·have bE:=kK hz;have G:Hid (l++bO drop add cost ((i+1)+j) (i+1) j=bO drop add cost (drop.length+add.length) drop.length add.length):=by unfold Hid;rw[<-R.out,aN.out,if_neg (fun e=>bJ.out e.2),if_neg hz]
       clear hz;go_wp2_with fail;go_quiet(fail);go_wp2_with fail;go_quiet(fail);clear aV aX aT r1;go_wp2_with fail;go_roundw;case rel=>exact⟨i+1,j,l,by omega,by omega,by go_num,by go_num,(S'.out.drewN _),(J.out.drewN _),G⟩
       case measure=>simp[intOf]
    ·have d1:decide (0<=x)=false:=by simpa using hx
     have bH:Hid (¬0<=x):=hx;clear hx;by_cases hz:a8=a5+aj
     ·have bE:=kO hz;have G:Hid (l++bO drop add cost (i+(j+1)) i (j+1)=bO drop add cost (drop.length+add.length) drop.length add.length):=by unfold Hid;rw[<-R.out,aN.out,if_neg (fun e=>bH.out e.1),if_pos hz]
      clear hz;go_wp2_with fail;go_quiet(fail);go_wp2_with fail;go_quiet(fail);clear aV aX aT r1;go_wp2_with fail;go_roundw;case rel=>exact⟨i,j+1,l,by omega,by omega,by go_num,by go_num,(S'.out.drewN _),(J.out.drewN _),G⟩
      case measure=>simp[intOf]
     ·have bE:=kK hz;have G:Hid (l++bO drop add cost ((i+1)+j) (i+1) j=bO drop add cost (drop.length+add.length) drop.length add.length):=by unfold Hid;rw[<-R.out,aN.out,if_neg (fun e=>bH.out e.1),if_neg hz]
      clear hz;go_wp2_with fail;go_quiet(fail);go_wp2_with fail;go_quiet(fail);clear aV aX aT r1;go_wp2_with fail;go_roundw;case rel=>exact⟨i+1,j,l,by omega,by omega,by go_num,by go_num,(S'.out.drewN _),(J.out.drewN _),G⟩
      case measure=>simp[intOf]
end Go.Proofs.YtdplggpbgommnaaGreatDoor
