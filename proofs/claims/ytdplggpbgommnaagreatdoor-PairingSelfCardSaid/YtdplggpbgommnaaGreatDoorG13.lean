/- pairing.equal: what has equal keys is paired. -/
import Derived.Test.YtdplggpbgommnaaGreatDoorG12
open Go renaming wpStill_nil→ig,wp_region_still_tail→ic
open Go.Addr.mk renaming injEq→cx
open Go.IntKind renaming i64→ae
open Go.Lib renaming hid→aa
open Go.Proofs.Tryz renaming prog→ai,underlying169→vC
open Go.RowKit.Below renaming heap_setCell→cH,refl→aD
open Go.Value renaming int→af,ownBlock→bW,slice→ag,string→ah
open Go.Value.slice renaming injEq→bU
open Go.World renaming drew→dd
open List renaming drop_succ_cons→gj,drop_zero→fm,filter_cons→qG,filter_nil→BT,foldl_append→dH,foldl_cons→dK,foldl_nil→fk,getD_eq_getElem?_getD→bb,getElem?_eq_getElem→aE,getElem_append_left→mf,getElem_mem→aK,getElem_set→mg,length_append→cI,length_cons→bF,length_nil→cL,length_set→oj,map_set→hL,range_succ→dx,range→aw,take_succ_cons→fl,take_zero→ie
open Nat renaming le_of_lt→kB,le_refl→an,lt_of_lt_of_le→bK,zero_le→aW
open Option renaming bind_some→j2,getD_some→fs,map_some→fa
open Option.some renaming injEq→aC,inj→aU
set_option maxRecDepth 100000
set_option maxHeartbeats 8000000
namespace Go.Proofs.YtdplggpbgommnaaGreatDoor
open Go.RowKit
abbrev dX:=Int×Int×ByteArray
def oL(key:Option dX)(W:World)(e:Ending)(W':World):Prop:=∃p b,e= .returned (.tuple #[dA p,.bool b])∧key=(if b=true then some p else none)∧Below W.heap.size W W'
def iH(i:Nat):List Value:=[af ae i]
theorem oM{K α:Type}[DecidableEq K]{l:List (K×α)}{p:K}{v:α}{q:K×α}(h:q∈aY l p v):q∈l∨q=(p,v):=by
 unfold aY at h;cases hp:bm l p with
 |none=>rw[hp]at h;simpa using h
 |some k=>rw[hp]at h;exact List.mem_or_eq_of_mem_set h
def jN(h:Hp)(v:Value)(x:List Nat):Prop:=Sl h v x.length 1 (x.flatMap iH)∧∃a cap,v=ag a x.length cap∧x.length≤cap
structure im(h:Hp)(w:World)(r:Nat)(rest:List (dX×List Nat))(l:List (dX×Value)):Prop where
 map:aS dA w r l
 keys:l.map (·.1)=rest.map (·.1)
 sl:∀i (hi:i<l.length) (hr:i<rest.length),jN h (l[i]).2 (rest[i]).2
theorem Ow.CO{w:World}{h:Hp}{B:Nat}{v:Value}{x:List Nat}(o:Ow w h B 3 1 v x.length (x.flatMap iH))(G:x.length≤140737488355328):jN (h.fr B w) v x:=by
 refine⟨o.sl G,?_⟩;rcases o.row with⟨h1,⟨rfl,A⟩|⟨Y,M,O,rfl,ab,aj,E,ac,ad,ak⟩⟩;·exact⟨_,_,by rw[A],by omega⟩
 ·exact⟨_,_,rfl,E⟩
theorem jN.nil(h:Hp)(a:Option Addr)(A:Nat):jN h (ag a 0 A) []:=⟨Sl.nil _ _ _ _,_,_,rfl,aW _⟩
theorem jN.tail{h:Hp}{a:Option Addr}{n E i:Nat}{x:List Nat}(s:jN h (ag a n E) (i::x)){w:World}(aB:ao h w):n=x.length+1∧x.length+1≤E∧∃b A,a=some ⟨b,A,none⟩∧b<w.heap.size∧w.cell? ⟨b,A,none⟩=some (af ae i)∧∀a',(x=[]∨a'=some ⟨b,A+1,none⟩)→jN h (ag a' x.length (E-1)) x:=by
 obtain⟨M,aJ,c1,O,ac⟩:=s;simp only[bU,bF]at O;obtain⟨rfl,rfl,rfl⟩:=O;simp only[bF]at M ac;have aG:=M;obtain⟨b,A,rfl,aj,ax⟩:=M.cells aB (by omega);refine⟨rfl,ac,b,A,rfl,aj,ax 0 _ rfl,fun a' ad=> ?_⟩;rcases ad with rfl|rfl;·exact jN.nil _ _ _
 ·refine⟨?_,_,_,rfl,by omega⟩;obtain⟨aL,c2,Y,h1,h2,ab⟩:=aG;rcases ab with ab|⟨b',aN,cs,G,ak,am⟩;·omega
  ·simp only[bU]at Y;rw[←Y.1]at G;simp only[aC,cx,and_true]at G;obtain⟨rfl,rfl⟩:=G;refine⟨_,_,rfl,by omega,by simpa[iH]using h2,.inr ⟨b,A+1,cs,rfl,ak,fun k aM=> ?_⟩⟩;have:=am (k+1) (by omega);rw[show A+1+k=A+(k+1) by omega,this];simp[iH]
theorem cY.giveUp{w:World}{h:Hp}{r:Nat}{B:Nat}{rest:List (dX×List Nat)}{l:List (dX×Value)}(g:cY dA 3 1 iH w h B r rest l){m:Nat}(G:∀q∈rest,q.2.length≤m)(M:m≤140737488355328):im (h.fr B w) w r rest l:=
 ⟨g.map,g.keys,fun i E A=>(g.own i E A).CO (Nat.le_trans (G _ (aK A)) M)⟩
theorem im.len{w:World}{h:Hp}{r:Nat}{rest:List (dX×List Nat)}{l:List (dX×Value)}(g:im h w r rest l):l.length=rest.length:=by have:=congrArg List.length g.keys;simpa using this
theorem im.row{w:World}{h:Hp}{r:Nat}{rest:List (dX×List Nat)}{l:List (dX×Value)}(g:im h w r rest l)(p:dX):jN h ((aT l p).getD (ag none 0 0)) ((aT rest p).getD []):=by
 unfold aT;rw[oN g.keys p];cases hp:bm rest p with
 |none=>exact jN.nil _ _ _
 |some k=>have A:=fv hp;have E:=g.len;simp only[j2,aE A,aE (show k<l.length by omega),fa,fs];exact g.sl k (by omega) A
theorem im.U{w w1:World}{h:Hp}{r:Nat}{rest:List (dX×List Nat)}{l:List (dX×Value)}(g:im h w r rest l)(A:w1.heap[r]? =w.heap[r]?):im h w1 r rest l:=⟨g.map.U A,g.keys,g.sl⟩
theorem im.put{w w1:World}{h:Hp}{r:Nat}{rest:List (dX×List Nat)}{l:List (dX×Value)}(g:im h w r rest l)(p:dX)(x:List Nat)(v:Value)(M:aS dA w1 r (aY l p v))(aj:jN h v x):im h w1 r (aY rest p x) (aY l p v):=by
 have ak:=g.len;have ac:=oN g.keys p;cases hp:bm l p with
 |none=>
  have Y:bm rest p=none:=by rw[←ac];exact hp
  have A:aY l p v=l++[(p,v)]:=by unfold aY;rw[hp]
  have O:aY rest p x=rest++[(p,x)]:=by unfold aY;rw[Y]
  rw[A]at M;rw[A,O];refine⟨M,by simp[g.keys],fun i G ad=> ?_⟩;simp only[cI,bF,cL]at G;by_cases ab:i<l.length;·rw[mf ab,mf (by omega)];exact g.sl i ab (by omega)
  ·obtain rfl:i=l.length:=by omega
   have:(rest++[(p,x)])[l.length]'ad=(p,x):=by rw[List.getElem_append_right (by omega)];simp[ak]
   rw[this];simpa using aj
 |some k=>
  have Y:bm rest p=some k:=by rw[←ac];exact hp
  have A:aY l p v=l.set k (p,v):=by unfold aY;rw[hp]
  have O:aY rest p x=rest.set k (p,x):=by unfold aY;rw[Y]
  rw[A]at M;rw[A,O];refine⟨M,by rw[hL,hL,g.keys],fun i G ad=> ?_⟩;simp only[oj]at G;rw[mg,mg];by_cases E:k=i;·rw[if_pos E,if_pos E];exact aj
  ·rw[if_neg E,if_neg E];exact g.sl i G (by omega)
theorem wM(O:List Int)(M:Nat→Option dX)(n:Nat):∀q∈iK O M n,∀x∈q.2,x<n:=by
 unfold iK;induction n with
 |zero=>intro q E;simp at E
 |succ n G=>
  rw[dx,dH,dK,fk];generalize(aw n).foldl (fw O M) []=rest at G;intro q E x A;unfold fw at E;have low:∀q∈rest,∀x∈q.2,x<n+1:=fun q E x A=>by have:=G q E x A;omega
  split at E
  ·rename_i k _;split at E
   ·rcases oM E with h1|rfl;·exact low q h1 x A
    ·simp only[List.mem_append,List.mem_singleton]at A;rcases A with A|rfl
     ·unfold aT at A;cases hp:bm rest k with
      |none=>rw[hp]at A;simp at A
      |some m=>rw[hp]at A;simp only[j2,aE (fv hp),fa,fs]at A;exact low _ (aK (fv hp)) x A
     ·omega
   ·exact low q E x A
  ·exact low q E x A
theorem CP{h:Hp}{w E G:World}(A:ao h w)(bl:Below w.heap.size w E)(g:E.grownBy G (some w.heap.size)):ao h G:=
 A.U fun b c O=>by have M:=cD (A b c O);have:=bl.size;exact(g.block b (by omega) (fun e=>by have:=aU e;omega)).trans (bl.block b M)
theorem CQ{w A:World}{c:List Value}{T:TypeId}{r:Nat}(g:(w.alloc (.cells c.toArray T)).grownBy A (some r))(G:r<w.heap.size):∀j u,c[j]? =some u→A.cell? ((⟨w.heap.size,0,none⟩:Addr).add j)=some u:=fun j u E=>by rw[Addr.add_lit,World.cell?_of_block (a:=⟨w.heap.size,0+j,none⟩) (g.block w.heap.size (by simp) (fun e=>by have:=aU e;omega)),World.cell?_alloc_at _ _ _ _ rfl];simpa using E
theorem CR{w1 A:World}{K:Obj}{c:List Value}{T:TypeId}{r:Nat}(g:((w1.alloc K).alloc (.cells c.toArray T)).grownBy A (some r))(E:r<w1.heap.size):∀j u,c[j]? =some u→A.cell? ((⟨w1.heap.size+1,0,none⟩:Addr).add j)=some u:=by have:=CQ (w:=w1.alloc K) g (by simp;omega);simpa using this
theorem s8(h:Hp)(w:World)(dq:ao h w){B:Nat}(_hB:B≤w.heap.size)(a5 a4:Value)(A G:List Int)(aJ:Ow w h B 3 1 a5 A.length (aV A))(aB:Ow w h B 3 1 a4 G.length (aV G))(ap:cj a5 a4)(eY:A.length≤1000000)(eX:G.length≤1000000)(bO bN:Nat)(c6 cZ:Array Value)(ei:∀args w,(callFunc bO args).run ai w= .ok (.enter bO args) w)(eE:∀args w,(callFunc bN args).run ai w= .ok (.enter bN args) w)(a9:World→Prop)(db:a9 w)(de:∀W cV,a9 W→Tu (fun k=>a5.ownBlock=some k∨a4.ownBlock=some k) W cV→a9 cV)(M ab:Nat→Option dX)(dr:∀i:Nat,i<A.length→∀W,a9 W→Calls ai bO (#[af ae i]++c6) W (oL (M i) W))(bV:∀i:Nat,i<G.length→∀W,a9 W→Calls ai bN (#[af ae i]++cZ) W (oL (ab i) W)):Calls ai 51 #[a5,a4,.func (.func bO) #[] c6,.func (.func bN) #[] cZ] w fun e w'=>e= .returned (.tuple #[])∧Ow w' h B 3 1 a5 A.length (aV (dh A G M ab).1)∧Ow w' h B 3 1 a4 G.length (aV (dh A G M ab).2)∧Tu (fun k=>a5.ownBlock=some k∨a4.ownBlock=some k) w w':=by
 have cc:=aa dq;have bp:=aa aJ;have bH:=aa aB;have d3:=aa dr;have d2:=aa bV;have cD:=aa de;have cA:=aa db;have dQ:=aa ap;have eN:= @run_makeMap ai;obtain⟨ci,a2,rfl⟩:=aJ.shape;obtain⟨bL,a1,rfl⟩:=aB.shape;clear dq aJ aB dr bV de db ap;go_enter Tryz.func51,Tryz.ntmps51;go_wp2_with fail;have B0:Hid (Below w.heap.size w (w.alloc (.map #[] 0))):=(aD _ _).alloc (an _) _;have cB:Hid (cY dA 3 1 iH (w.alloc (.map #[] 0)) h (w.heap.size+1) w.heap.size ([]:List (dX×List Nat)) []):=cY.start _ _ _;go_loopw[9,10,11,12,21,22,23,24,25,26,27,28,29,30,31,32,33,34,35,36,37,38,39,40,41,42,43,44,45] (fun _ _ _ _ i _ _ _ _ _ _ _ _ _ _ _ _ _ _ _ _ _ _ _ _ _ _ _ _ wr=>∃(j:Nat) (l:List (dX×Value)),j≤A.length∧i=af ae j∧cY dA 3 1 iH wr h (w.heap.size+1) w.heap.size ((aw j).foldl (fw A M) []) l∧(∀q∈(aw j).foldl (fw A M) [],q.2.length≤j)∧Below w.heap.size w wr) (fun _ _ _ _ i _ _ _ _ _ _ _ _ _ _ _ _ _ _ _ _ _ _ _ _ _ _ _ _ _=>A.length-(intOf i).toNat);case atStart=>exact⟨0,[],aW _,rfl,cB.out,fun q ac=>by simp at ac,B0.out⟩
 case round=>
  obtain⟨j,l,eM,rfl,g,a3,bl⟩:=hrel;clear B0 cB;by_cases hj:j<A.length
  ·have dD:=bp.out.same bl;obtain⟨go,rfl,-,en,-,bq,-⟩:=dD.cell (by omega);have aQ:wr.cell? ⟨go,j,none⟩=some (af ae (ge A j)):=bq j _ (by simp[aV,ge,bb,aE hj]);have dF:Tu (fun k=>(ag (some ⟨go,0,none⟩) A.length a2).ownBlock=some k∨(ag bL G.length a1).ownBlock=some k) w wr:=(Tu.refl _ _).below bl;have b0:=aa (d3.out j hj wr (cD.out w wr cA.out dF));have eB:(0:Int)≤(j:Int):=by omega
   have bA:(j:Int)<(A.length:Int):=by omega
   have aN:=aa g;have a8:=aa bl;have bd:=aa a3;have eD:=ei;clear g bl a3 dD bq dF;go_wp2_with fail;refine b0.out.mono ?_;rintro e w1 ⟨⟨k1,k2,k3⟩,cl,rfl,aj,b1⟩;have ad:Hid ((aw (j+1)).foldl (fw A M) []=fw A M ((aw j).foldl (fw A M) []) j):=by unfold Hid;rw[dx,dH,dK,fk]
   generalize(aw j).foldl (fw A M) []=rest at aN bd ad;have aM:=aa (a8.out.trans (b1.mono a8.out.size));have ak:=aa (aN.out.tu ((Tu.refl (fun _=>False) wr).below b1) id (fun k q=>q.elim));have eA:=b1.size;have eq:w.heap.size<w1.heap.size:=bK aN.out.map.lt eA;simp only[dA];cases cl
   ·have ax:Hid (M j=none):=aj;have Y:Hid (fw A M rest j=rest):=by unfold Hid fw;rw[ax.out]
    clear aj b1 aQ;go_wp2_with fail;go_roundw;case rel=>exact⟨j+1,l,by omega,by go_num,by rw[ad.out,Y.out];exact ak.out.tu ((Tu.refl (fun _=>False) w1).alloc _) id (fun k q=>q.elim),fun q ac=>by rw[ad.out,Y.out]at ac;have:=bd.out q ac;omega,aM.out.alloc aM.out.size _⟩
    case measure=>simp[intOf];omega
   ·have ax:Hid (M j=some (k1,k2,k3)):=aj;clear aj b1 aQ;by_cases bv:ge A j<0
    ·have Y:Hid (fw A M rest j=aY rest (k1,k2,k3) ((aT rest (k1,k2,k3)).getD []++[j])):=by
      unfold Hid fw;rw[ax.out];have:A.getD j 0<0:=by simpa[ge]using bv
      simp only[if_pos this]
     have aG:Hid (cY dA 3 1 iH ((w1.alloc (.cells #[af ae k1,af ae k2,ah k3] 107)).alloc (.cells #[af ae j] 3)) h (w.heap.size+1) w.heap.size rest l):=ak.out.tu (((Tu.refl (fun _=>False) w1).alloc _).alloc _) id (fun k q=>q.elim);have bZ:Hid (Below w.heap.size w ((w1.alloc (.cells #[af ae k1,af ae k2,ah k3] 107)).alloc (.cells #[af ae j] 3))):=(aM.out.alloc aM.out.size _).alloc (by have:=aM.out.size;simp;omega) _
     have a3:((aT rest (k1,k2,k3)).getD []).length≤j:=by
      unfold aT;cases hp:bm rest (k1,k2,k3)with
      |none=>simp
      |some q=>simp only[j2,aE (fv hp),fa,fs];exact bd.out _ (aK _)
     go_wp2_with(first
      |(refine CS qP rfl 169 _ _ rfl aG.out.map (k1,k2,k3) 34 (ag none 0 0) vC (fun W=>by kernel_rfl) rfl rfl ?_;intro dG dw aX;have ec:=aa ((aG.out.row (k1,k2,k3)).grown aX (fun b di e=>aG.out.wN (by omega) _ b di (aU e).symm));have d8:=aa (CP cc.out bZ.out aX);have cw:=aa (bZ.out.grown aX (bZ.out.size) (fun k e=>Nat.le_of_eq (aU e)));have d9:=aa dw;have dY:=aa aX;have dU:Hid (∀du u,([af ae j]:List Value)[du]? =some u→dG.cell? ((⟨w1.heap.size+1,0,none⟩:Addr).add du)=some u):=(CR (w1:=w1) (K:= .cells #[af ae k1,af ae k2,ah k3] 107) (c:=[af ae j]) (T:=3) aX (by omega));have ed:w.heap.size+1≤dG.heap.size:=(by have:=aX.size;simp at this;omega);clear dw aX)
      |(at_builtin;refine ft fP rfl _ _ rfl (St.dN (B:=w.heap.size+1) d8.out ed) _ ((aT rest (k1,k2,k3)).getD []).length (((aT rest (k1,k2,k3)).getD []).flatMap iH) rfl ec.out ⟨w1.heap.size+1,0,none⟩ 1 1 [af ae j] rfl rfl dU.out (cm _ rfl) (by omega) ?_;intro bA e8 ez dE bS cX;have eb:=aa dE;have dZ:=aa bS;have dR:=aa cX;have ea:=aa (d9.out.U (bS.block w.heap.size (by omega) (fun e=>aG.out.wN (by omega) _ _ e.symm rfl)));have cz:=aa (cw.out.grown bS cw.out.size (fun k e=>by have:=((aG.out.row (k1,k2,k3)).lt k e).1;omega));clear ez dE bS cX)
      |(refine CT (enc:=dA) rfl 169 _ _ _ rfl ea.out (jO l (k1,k2,k3)) (qQ l (k1,k2,k3) _) bA rfl rfl rfl ?_;intro e9 dB cn;have d0:=aa (aG.out.append (by omega) (k1,k2,k3) j bA dY.out dZ.out cn eb.out dR.out (by rw[←CU l (k1,k2,k3) (ag none 0 0) bA];exact dB));have dT:=aa (cz.out.grown cn cz.out.size (fun k e=>Nat.le_of_eq (aU e)));clear dB cn))
     go_roundw
     case rel=>exact⟨j+1,_,by omega,by go_num,by rw[ad.out,Y.out];exact d0.out,fun q ac=>by
      rw[ad.out,Y.out]at ac;rcases oM ac with q1|rfl;·have:=bd.out q q1;omega
      ·simp;omega,dT.out⟩
     case measure=>simp[intOf];omega
    ·have Y:Hid (fw A M rest j=rest):=by
      unfold Hid fw;rw[ax.out];have:¬A.getD j 0<0:=by simpa[ge]using bv
      simp only[if_neg this]
     go_wp2_with fail;go_roundw;case rel=>exact⟨j+1,l,by omega,by go_num,by rw[ad.out,Y.out];exact ak.out.tu ((Tu.refl (fun _=>False) w1).alloc _) id (fun k q=>q.elim),fun q ac=>by rw[ad.out,Y.out]at ac;have:=bd.out q ac;omega,aM.out.alloc aM.out.size _⟩
     case measure=>simp[intOf];omega
  ·obtain rfl:j=A.length:=by omega
   have bC:Hid (iK A M A.length=(aw A.length).foldl (fw A M) []):=rfl;generalize ex:(aw A.length).foldl (fw A M) []=rest at g a3 bC;have cF:=cc.out.below bl;have b9:Hid (im (h.fr (w.heap.size+1) wr) wr w.heap.size rest l):=g.giveUp a3 (by omega);have aL:=aa (bp.out.same bl);have aO:=aa (bH.out.same bl);have a8:=aa bl;clear g a3 bl ex;have GB:Hid (∀q∈iK A M A.length,∀x∈q.2,x<A.length):=wM A M A.length;rw[bC.out]at GB;have ce:Hid (ao (h.fr (w.heap.size+1) wr) wr):=cF.fr;have bE:Hid (∀b,b≤w.heap.size→(h.fr (w.heap.size+1) wr) b=h b):=fun b di=>by unfold Hp.fr;rw[if_pos (by omega)]
   have ey:h w.heap.size=none:=bI cc.out _ (an _);generalize h.fr (w.heap.size+1) wr=h2 at b9 ce bE;have dW:Hid (dh A G M ab=((aw G.length).foldl (gx ab) (rest,A,G)).2):=by unfold Hid dh;rw[bC.out]
   clear cF bC;go_wp2_with fail;go_loopw[13,14,15,16,17,48,49,50,51,52,53,54,55,56,57,58,59,60,61,62,63,64,65,66,67,68,69,70,71,72,73,74,75,76,77,78,79,80,81,82,83,84,85,86,87,88,89,90,91] (fun _ _ _ _ _ i _ _ _ _ _ _ _ _ _ _ _ _ _ _ _ _ _ _ _ _ _ _ _ _ _ _ _ _ _ _ _ _ _ _ _ _ _ _ _ _ _ _ _ bB=>∃(j:Nat) (l2:List (dX×Value)) (E:List (dX×List Nat)×List Int×List Int),j≤G.length∧i=af ae j∧(aw j).foldl (gx ab) (rest,A,G)=E∧im h2 bB w.heap.size E.1 l2∧(∀q∈E.1,∀x∈q.2,x<A.length)∧Ow bB h B 3 1 (ag ci A.length a2) A.length (aV E.2.1)∧Ow bB h B 3 1 (ag bL G.length a1) G.length (aV E.2.2)∧ao h2 bB∧Tu (fun k=>(ag ci A.length a2).ownBlock=some k∨(ag bL G.length a1).ownBlock=some k) w bB) (fun _ _ _ _ _ i _ _ _ _ _ _ _ _ _ _ _ _ _ _ _ _ _ _ _ _ _ _ _ _ _ _ _ _ _ _ _ _ _ _ _ _ _ _ _ _ _ _ _ _=>G.length-(intOf i).toNat);case atStart=>exact⟨0,l,_,aW _,rfl,rfl,b9.out,GB.out,aL.out,aO.out,ce.out,(Tu.refl _ _).below a8.out⟩
   case round=>
    obtain⟨j,l2,E,eL,rfl,bY,g,co,aJ,aB,cv,bz⟩:=hrel;clear b9 GB aL aO ce a8;by_cases er:j<G.length
    ·obtain⟨O,rfl,-,en,-,bq,em⟩:=aB.cell (by omega);have eO:E.2.2.length=G.length:=by have:=aB.len;simpa[aV]using this
     have eP:E.2.1.length=A.length:=by have:=aJ.len;simpa[aV]using this
     have aQ:wr.cell? ⟨O,j,none⟩=some (af ae (ge E.2.2 j)):=bq j _ (by simp[aV,ge,bb,aE (show j<E.2.2.length by omega)]);have b0:=aa (d2.out j er wr (cD.out w wr cA.out bz));have eB:(0:Int)≤(j:Int):=by omega
     have bA:(j:Int)<(G.length:Int):=by omega
     have aN:=aa g;have ba:=aa co;have d5:=aa aJ;have d4:=aa aB;have d7:=aa bz;have d1:=aa cv;have d6:=aa bY;clear g co aJ aB cv bz bY bq em;go_wp2_with fail;refine b0.out.mono ?_;rintro e w1 ⟨⟨k1,k2,k3⟩,cl,rfl,aj,b1⟩;have ad:Hid ((aw (j+1)).foldl (gx ab) (rest,A,G)=gx ab E j):=by unfold Hid;rw[dx,dH,dK,fk,d6.out]
     have b2:Below wr.heap.size wr (w1.alloc (.cells #[af ae k1,af ae k2,ah k3] 107)):=b1.alloc b1.size _;have cS:Tu (fun _=>False) wr (w1.alloc (.cells #[af ae k1,af ae k2,ah k3] 107)):=(Tu.refl _ _).below b2;have ak:=aa (aN.out.U (b2.block _ aN.out.map.lt));have aL:=aa (d5.out.same b2);have aO:=aa (d4.out.same b2);have bg:=aa (d1.out.below b2);have bJ:=aa (d7.out.below b2);have eq:w.heap.size<w1.heap.size:=bK aN.out.map.lt b1.size;simp only[dA];cases cl
     ·have ax:Hid (ab j=none):=aj;have Y:Hid (gx ab E j=E):=by unfold Hid gx;rw[ax.out]
      clear aj b1 b2 cS aQ;go_wp2_with fail;go_roundw;case rel=>exact⟨j+1,l2,E,by omega,by go_num,by rw[ad.out,Y.out],ak.out,ba.out,aL.out,aO.out,bg.out,bJ.out⟩
      case measure=>simp[intOf];omega
     ·have ax:Hid (ab j=some (k1,k2,k3)):=aj;clear aj b1 cS;by_cases bv:0≤ge E.2.2 j
      ·have Y:Hid (gx ab E j=E):=by
        unfold Hid gx;rw[ax.out];have:0≤E.2.2.getD j 0:=by simpa[ge]using bv
        simp only[if_pos this]
       clear aQ b2;go_wp2_with fail;go_roundw;case rel=>exact⟨j+1,l2,E,by omega,by go_num,by rw[ad.out,Y.out],ak.out,ba.out,aL.out,aO.out,bg.out,bJ.out⟩
       case measure=>simp[intOf];omega
      ·have bX:¬0≤E.2.2.getD j 0:=by simpa[ge]using bv
       have bG:=(ak.out.map.look qP (k1,k2,k3) 169 34 (ag none 0 0) vC (fun W=>by kernel_rfl)).1;have cf:=(aS.look qP (w:=(w1.alloc (.cells #[af ae k1,af ae k2,ah k3] 107)).drew) (ak.out.map.U rfl) (k1,k2,k3) 169 34 (ag none 0 0) vC (fun W=>by kernel_rfl)).1;have aZ:=ak.out.row (k1,k2,k3);generalize dt:(aT E.1 (k1,k2,k3)).getD []=x at aZ;generalize(aT l2 (k1,k2,k3)).getD (ag none 0 0)=e7 at bG cf aZ;have cd:=aa dt;clear dt;obtain⟨a,aP,rfl,ct⟩:=aZ.2;simp only[dA]at bG cf;cases x with
       |nil=>
        have Y:Hid (gx ab E j=E):=by unfold Hid gx;rw[ax.out];simp only[if_neg bX,cd.out]
        simp only[cL]at bG ct;clear aQ b2 aZ bX;go_wp2_with fail;go_roundw;case rel=>exact⟨j+1,l2,E,by omega,by go_num,by rw[ad.out,Y.out],ak.out,ba.out,aL.out,aO.out,bg.out,bJ.out⟩
        case measure=>simp[intOf];omega
       |cons i x=>
        have Y:Hid (gx ab E j=(aY E.1 (k1,k2,k3) x,E.2.1.set i (j:Int),E.2.2.set j (i:Int))):=by unfold Hid gx;rw[ax.out];simp only[if_neg bX,cd.out]
        have cE:∀y∈i::x,y<A.length:=fun y hy=>by
         have:=cd.out;unfold aT at this;cases hp:bm E.1 (k1,k2,k3)with
         |none=>rw[hp]at this;simp at this
         |some m=>rw[hp]at this;simp only[j2,aE (fv hp),fa,fs]at this;exact ba.out _ (aK (fv hp)) y (by rw[this];exact hy)
        have eK:i<A.length:=cE i (by simp);obtain⟨bV,el,b,dC,rfl,eF,eC,cg⟩:=aZ.tail bg.out;obtain⟨go,rfl,-,eJ,eI,-,-⟩:=aL.out.cell (by omega);have dp:go≠O:=fun e=>dQ.out go rfl (by rw[e];rfl);have ep:go≠w.heap.size:=by have:=(bp.out.lt go rfl).2;omega
        have es:O≠w.heap.size:=by have:=(bH.out.lt O rfl).2;omega
        obtain⟨V,dg,bT⟩:∃V,jN h2 V x∧V=(if aP=1 then ag (some ⟨b,dC,none⟩) x.length (aP-1)else ag (some ⟨b,dC+1,none⟩) x.length (aP-1)):=by
         refine⟨_,?_,rfl⟩;by_cases h1:aP=1;·rw[if_pos h1];exact cg _ (.inl (List.eq_nil_of_length_eq_zero (by omega)))
         ·rw[if_neg h1];exact cg _ (.inr rfl)
        obtain⟨am,eW,dv,bR⟩:∃am,(Instr.mapUpdate 169 (.map (some w.heap.size)) (.agg #[af ae k1,af ae k2,ah k3]) V).run ai (w1.alloc (.cells #[af ae k1,af ae k2,ah k3] 107)).drew= .ok () am∧aS dA am w.heap.size (aY l2 (k1,k2,k3) V)∧(w1.alloc (.cells #[af ae k1,af ae k2,ah k3] 107)).drew.grownBy am (some w.heap.size):=
         ⟨_,aS.put qP (w:=(w1.alloc (.cells #[af ae k1,af ae k2,ah k3] 107)).drew) (ak.out.map.U rfl) (k1,k2,k3) V 169 34 vC⟩
        simp only[bF]at bG cf ct;have cN:=aa (aL.out.drew.grown bR (fun q ac e=>by have h1:go=q:=aU ac;have h2:w.heap.size=q:=aU e;omega));have cK:=aa (aO.out.drew.grown bR (fun q ac e=>by have h1:O=q:=aU ac;have h2:w.heap.size=q:=aU e;omega));obtain⟨ek,c9,-,eH,-,dk,dn⟩:=cN.out.cell (by omega);obtain rfl:go=ek:=by simpa using c9
        obtain⟨ej,c8,-,eG,-,dj,dm⟩:=cK.out.cell (by omega);obtain rfl:O=ej:=by simpa using c8
        have e':am.cell? ⟨go,i,none⟩=some (af ae (ge E.2.1 i)):=dk i _ (by simp[aV,ge,bb,aE (show i<E.2.1.length by omega)]);have fb:am.cell? ⟨O,j,none⟩=some (af ae (ge E.2.2 j)):=dj j _ (by simp[aV,ge,bb,aE (show j<E.2.2.length by omega)]);have fc:=dn i;have fd:=dm j;have eo:O≠go:=fun e=>dp e.symm;have cQ:Hid (Ow ((am.setCell ⟨go,i,none⟩ (af ae j)).setCell ⟨O,j,none⟩ (af ae i)) h B 3 1 (ag (some ⟨go,0,none⟩) A.length a2) A.length (aV (E.2.1.set i (j:Int)))):=by have:=(cN.out.set i (af ae j) (by omega)).setCell (p:=⟨O,j,none⟩) (by simpa[bW]using dp) (af ae i);unfold Hid;unfold aV at this⊢;rw[hL];exact this
        have cM:Hid (Ow ((am.setCell ⟨go,i,none⟩ (af ae j)).setCell ⟨O,j,none⟩ (af ae i)) h B 3 1 (ag (some ⟨O,0,none⟩) G.length a1) G.length (aV (E.2.2.set j (i:Int)))):=by have:=(cK.out.setCell (p:=⟨go,i,none⟩) (by simpa[bW]using eo) (af ae j)).set j (af ae i) (by omega);unfold Hid;unfold aV at this⊢;rw[hL];exact this
        have ch:Tu (fun k=>k=w.heap.size∨k=go∨k=O) (w1.alloc (.cells #[af ae k1,af ae k2,ah k3] 107)).drew ((am.setCell ⟨go,i,none⟩ (af ae j)).setCell ⟨O,j,none⟩ (af ae i)):=
         (((Tu.refl _ _).grown bR (fun k e=> .inl (.inl (aU e).symm))).set (p:=⟨go,i,none⟩) (.inl (.inr (.inl rfl))) _).set (p:=⟨O,j,none⟩) (.inl (.inr (.inr rfl))) _
        have cG:Hid (ao h2 ((am.setCell ⟨go,i,none⟩ (af ae j)).setCell ⟨O,j,none⟩ (af ae i))):=ch.I (bg.out.drew) (fun k aj=>by
         rcases aj with rfl|rfl|rfl;·rw[bE.out _ (an _)];exact ey
         ·rw[bE.out _ (kB (bp.out.lt k rfl).2)];exact bp.out.free k rfl
         ·rw[bE.out _ (kB (bH.out.lt k rfl).2)];exact bH.out.free k rfl)
        have cU:Hid (Tu (fun k=>(ag (some ⟨go,0,none⟩) A.length a2).ownBlock=some k∨(ag (some ⟨O,0,none⟩) G.length a1).ownBlock=some k) w ((am.setCell ⟨go,i,none⟩ (af ae j)).setCell ⟨O,j,none⟩ (af ae i))):=bJ.out.drew.step ch (fun k aj=>by
         rcases aj with rfl|rfl|rfl;·exact .inr (an _)
         ·exact .inl (.inl rfl)
         ·exact .inl (.inr rfl))
        have aG:Hid (im h2 ((am.setCell ⟨go,i,none⟩ (af ae j)).setCell ⟨O,j,none⟩ (af ae i)) w.heap.size (aY E.1 (k1,k2,k3) x) (aY l2 (k1,k2,k3) V)):=by have:=im.put (ak.out.U (w1:=(w1.alloc (.cells #[af ae k1,af ae k2,ah k3] 107)).drew) rfl) (k1,k2,k3) x V dv dg;refine this.U ?_;rw[cH _ _ _ _ (fun e=>es e.symm),cH _ _ _ _ (fun e=>ep e.symm)]
        have cC:Hid (∀q∈aY E.1 (k1,k2,k3) x,∀y∈q.2,y<A.length):=fun q ac y hy=>by
         rcases oM ac with h1|rfl;·exact ba.out q h1 y hy
         ·exact cE y (by simp[hy])
        have eZ:((x.length:Int)+1==0)=false:=by simp;omega
        have e0:¬(x.length:Int)+1=0:=by omega
        have e1:(0:Int)<(x.length:Int)+1:=by omega
        have e2:(1:Int)≤(x.length:Int)+1:=by omega
        have e3:(x.length:Int)+1≤(aP:Int):=by omega
        have e4:(1:Int)≤(aP:Int):=by omega
        have e5:(0:Int)≤(i:Int):=by omega
        have e6:(i:Int)<(A.length:Int):=by omega
        clear ch dk dj dn dm aZ cg dg dv bR c9 c8 bV el ct bX aQ b2;by_cases cq:aP=1
        ·rw[if_pos cq]at bT;subst cq;subst bT;go_wp2_with fail;refine ic 6 (by kernel_rfl) (by kernel_rfl) ?_;simp only[fl,ie,gj,fm];change wpStill _ _ (dd _) (fun a'=>wpList _ _ _ _ a' (dd _)) _ _;repeat still_step
         refine ig ?_;go_wp2_with fail;go_roundw;case rel=>exact⟨j+1,_,_,by omega,by go_num,by rw[ad.out,Y.out],aG.out,cC.out,cQ.out,cM.out,cG.out,cU.out⟩
         case measure=>simp[intOf];omega
        ·rw[if_neg cq]at bT;subst bT;go_wp2_with fail;refine ic 6 (by kernel_rfl) (by kernel_rfl) ?_;simp only[fl,ie,gj,fm];change wpStill _ _ (dd _) (fun a'=>wpList _ _ _ _ a' (dd _)) _ _;repeat still_step
         refine ig ?_;go_wp2_with fail;go_roundw;case rel=>exact⟨j+1,_,_,by omega,by go_num,by rw[ad.out,Y.out],aG.out,cC.out,cQ.out,cM.out,cG.out,cU.out⟩
         case measure=>simp[intOf];omega
    ·obtain rfl:j=G.length:=by omega
     have cu:dh A G M ab=E.2:=by rw[dW.out,bY]
     have dN:Hid (Ow wr h B 3 1 (ag ci A.length a2) A.length (aV (dh A G M ab).1)):=by unfold Hid;rw[cu];exact aJ
     have dO:Hid (Ow wr h B 3 1 (ag bL G.length a1) G.length (aV (dh A G M ab).2)):=by unfold Hid;rw[cu];exact aB
     have dP:=aa bz;clear aJ aB bz cu bY g co cv;go_wp2_with fail;refine bodyPost_end (results_none rfl _ _ _) rfl ?_;exact⟨rfl,dN.out,dO.out,dP.out⟩
def iS(mates:List Int)(j:Nat):List Nat:=(aw j).filter fun i=>decide (mates.getD i 0<0)
theorem E7(A:List Int)(j:Nat):(iS A j).length≤j:=by have:=List.length_filter_le (fun i=>decide (A.getD i 0<0)) (aw j);simpa[iS]using this
theorem E8(A:List Int)(j:Nat):iS A (j+1)=iS A j++(if A.getD j 0<0 then[j]else[]):=by
 unfold iS;rw[dx,List.filter_append];congr 1;by_cases h:A.getD j 0<0;·simp only[qG,h,decide_true,if_true,BT]
 ·simp only[qG,h,decide_false,Bool.false_eq_true,if_false,BT]
theorem wo(h:Hp)(w:World)(ak:ao h w){B:Nat}(v:Value)(A:List Int)(ab:Ow w h B 3 1 v A.length (aV A))(a3:A.length≤1000000):Calls ai 101 #[v] w fun e w'=>∃v',e= .returned v'∧Ow w' h w.heap.size 3 1 v' (dp A).length ((dp A).flatMap iH)∧Below w.heap.size w w':=by
 have aG:=aa ak;have aM:=aa ab;obtain⟨aQ,aT,rfl⟩:=ab.shape;clear ak ab;go_enter Tryz.func101,Tryz.ntmps101;go_wp2_with fail;go_loopw[3,4,5,8,9,10,11,12,13,14,15,16,17,18,19] (fun s _ _ i _ _ _ _ _ _ _ _ _ _ _ wr=>∃(j:Nat),j≤A.length∧i=af ae j∧Ow wr h w.heap.size 3 1 s (iS A j).length ((iS A j).flatMap iH)∧Below w.heap.size w wr) (fun _ _ _ i _ _ _ _ _ _ _ _ _ _ _ _=>A.length-(intOf i).toNat);case atStart=>exact⟨0,aW _,rfl,by simpa[iS]using Ow.nil w h w.heap.size 3 1,aD _ _⟩
 case round=>
  obtain⟨j,a1,rfl,os,bl⟩:=hrel;have a2:=E7 A j;by_cases hj:j<A.length
  ·have ac:=aM.out.same bl;obtain⟨go,rfl,-,aZ,-,Y,-⟩:=ac.cell (by omega);have aY:wr.cell? ⟨go,j,none⟩=some (af ae (ge A j)):=Y j _ (by simp[aV,ge,bb,aE hj]);have a4:(0:Int)≤(j:Int):=by omega
   have aP:(j:Int)<(A.length:Int):=by omega
   have ad:=aa (E8 A j);have G:=aa os;have E:=aa bl;have aJ:=aa (aG.out.below bl);have M:ge A j=A.getD j 0:=by simp[ge]
   by_cases am:ge A j<0
   ·have O:Hid (iS A (j+1)=iS A j++[j]):=by unfold Hid;rw[ad.out,if_pos (by rw[←M];exact am)]
    clear os bl ac Y M;obtain⟨aS,aX,rfl⟩:=G.out.shape;go_wp2_with(at_builtin;refine ft fP rfl _ _ rfl (St.dN (B:=w.heap.size) (aJ.out.alloc _) (by have:=E.out.size;simp;omega)) _ (iS A j).length ((iS A j).flatMap iH) rfl (G.out.alloc _) ⟨wr.heap.size,0,none⟩ 1 1 [af ae j] rfl rfl (cK _ _ _ _ rfl) (cm _ rfl) (by omega) ?_;intro aP w2 aO ax aj aN;have aL:=aa ax;have aB:=aa ((E.out.alloc E.out.size (.cells #[af ae j] 3)).grown aj (by have:=E.out.size;simp;omega) (fun k e=>(G.out.lt k e).1));clear aO ax aj aN);go_roundw;case rel=>exact⟨j+1,by omega,by go_num,by rw[O.out,cI,List.flatMap_append];exact aL.out,aB.out⟩
    case measure=>simp[intOf];omega
   ·have O:Hid (iS A (j+1)=iS A j):=by unfold Hid;rw[ad.out,if_neg (by rw[←M];exact am),List.append_nil]
    clear os bl ac Y M;go_wp2_with fail;go_roundw;case rel=>exact⟨j+1,by omega,by go_num,by rw[O.out];exact G.out,E.out⟩
    case measure=>simp[intOf];omega
  ·obtain rfl:j=A.length:=by omega
   have G:=aa os;have E:=aa bl;clear os bl;go_wp2_with fail;go_ret;exact⟨_,rfl,G.out,E.out⟩
inductive eL where
 |om|nm|oa|na
 |ot (i:Nat)|nt (i:Nat)|rs (i:Nat)
structure bp where
 om:List Int
 nm:List Int
 oa:List Int
 na:List Int
 ot:List (List Bool)
 nt:List (List Bool)
 rs:List (List (Int×Int))
 cost:Int
 a7:Int
def dD:eL→TypeId
 | .om| .nm| .oa| .na=>3
 | .ot _| .nt _=>4
 | .rs _=>43
def dE:eL→Nat
 | .rs _=>2
 |_=>1
def cf(s:bp):eL→Nat
 | .om=>s.om.length| .nm=>s.nm.length| .oa=>s.oa.length| .na=>s.na.length
 | .ot i=>(s.ot.getD i []).length
 | .nt i=>(s.nt.getD i []).length
 | .rs i=>(s.rs.getD i []).length
def ch(s:bp):eL→List Value
 | .om=>aV s.om| .nm=>aV s.nm| .oa=>aV s.oa| .na=>aV s.na
 | .ot i=>dZ (s.ot.getD i [])
 | .nt i=>dZ (s.nt.getD i [])
 | .rs i=>(s.rs.getD i []).flatMap bV
structure nW(w:World)(h:Hp)(B:Nat)(V:eL→Value)(s:bp):Prop where
 own:∀k,Ow w h B (dD k) (dE k) (V k) (cf s k) (ch s k)
 apart:∀k k',k≠k'→cj (V k) (V k')
section
variable {w w1:World} {h:Hp} {B:Nat} {V:eL→Value} {s s':bp}
theorem nW.tu{S:Nat→Prop}(r:nW w h B V s)(t:Tu S w w1)(A:∀k b,(V k).ownBlock=some b→¬S b):nW w1 h B V s:=
 ⟨fun k=>(r.own k).mO t (A k),r.apart⟩
theorem nW.p6(r:nW w h B V s)(k:eL)(t:Tu (fun b=>(V k).ownBlock=some b) w w1)(o:Ow w1 h B (dD k) (dE k) (V k) (cf s' k) (ch s' k))(A:∀q,q≠k→cf s' q=cf s q∧ch s' q=ch s q):nW w1 h B V s':=by
 refine⟨fun q=> ?_,r.apart⟩;by_cases e:q=k;·subst e;exact o
 ·rw[(A q e).1,(A q e).2];exact(r.own q).mO t fun b E G=>r.apart q k e b E G
end
def eM{α:Type}(l:List (List α))(i j:Nat)(x:α):List (List α):=l.set i ((l.getD i []).set j x)
theorem p7{α:Type}(l:List (List α))(i j:Nat)(x:α)(A:i<l.length):(eM l i j x).getD i []=(l.getD i []).set j x:=by simp[eM,bb,A]
theorem p8{α:Type}(l:List (List α))(i j k:Nat)(x:α)(h:k≠i):(eM l i j x).getD k []=l.getD k []:=by simp[eM,bb,List.getElem?_set_ne (fun e=>h e.symm)]
theorem lW{α:Type}(l:List (List α))(i j k:Nat)(x:α):((eM l i j x).getD k []).length=(l.getD k []).length:=by
 by_cases h:k=i
 ·subst h;by_cases A:k<l.length;·rw[p7 l k j x A,oj]
  ·simp[eM,bb,Nat.not_lt.1 A]
 ·rw[p8 l i j k x h]
def du(s:bp)(m n:Nat)(t k:Nat):bp:=
 {s with rs:=eM s.rs m n ((t:Int),(k:Int)),nt:=eM s.nt m n true,ot:=eM s.ot t k true}
def hV(h:Hp)(v:Value)(vals:List Value):Prop:=Sl h v vals.length 1 vals
structure bH(h:Hp)(w:World)(B xb so sn:Nat)(budget:Int)(V:eL→Value)(s:bp):Prop where
 I:ao h w
 rows:nW w h B V s
 aI:∃tv nv dv kv,h so=some #[tv,nv,dv,V .om,V .oa,kv]∧hV h kv ((aw s.ot.length).map fun i=>V (.ot i))
 new:∃tv nv dv kv,h sn=some #[tv,nv,dv,V .nm,V .na,kv]∧hV h kv ((aw s.nt.length).map fun i=>V (.nt i))
 box:∃rv,Has w xb #[.pointer (some ⟨so,0,none⟩),.pointer (some ⟨sn,0,none⟩),af ae budget,rv,af ae s.cost,af ae s.a7]∧hV h rv ((aw s.rs.length).map fun i=>V (.rs i))
 xn:h xb=none
 xr:∀k,(V k).ownBlock≠some xb
theorem hV.at{h:Hp}{w:World}(ad:ao h w){v:Value}{n:Nat}{f:Nat→Value}(o:hV h v ((aw n).map f)):∃a E,v=ag a n E∧n≤140737488355328∧∀i,i<n→∃b A,a=some ⟨b,A,none⟩∧b<w.heap.size∧w.cell? ⟨b,A+i,none⟩=some (f i)∧h b≠none:=by
 unfold hV at o;simp only[List.length_map,List.length_range]at o;have am:=o;obtain⟨a,E,rfl,ak⟩:=o.shape;refine⟨a,E,rfl,ak,fun i aj=> ?_⟩;obtain⟨b,A,rfl,Y,ac⟩:=o.cells ad (by omega);refine⟨b,A,rfl,Y,ac i _ (by simp[aj]),?_⟩;obtain⟨ax,c2,M,_,_,O⟩:=am;rcases O with O|⟨b',aB,cs,G,ab,_⟩;·omega
 ·simp only[bU]at M;rw[←M.1]at G;simp only[aC,cx,and_true]at G;rw[G.1,ab];simp
instance:Inhabited Tree:=⟨.node 0 ⟨#[]⟩ [] []⟩
instance:Inhabited cF:=⟨⟨0,0,default⟩⟩
def lG(a b:List Nat)(cost:Nat→Nat→Int)(drop add:Nat→Int)(i j:Nat):Int:=
 if i<a.length then(if j<b.length then cost (a.getD i 0) (b.getD j 0)else drop (a.getD i 0))else if j<b.length then add (b.getD j 0)else 0
def gp(a b:List Nat)(cost:Nat→Nat→Int)(drop add:Nat→Int):List (List Int):=
 (aw (a.length+b.length)).map fun i=>(aw (a.length+b.length)).map fun j=>lG a b cost drop add i j
def oJ(a b:List Nat)(M:List (List Int))(tq:List Int)(s:List Int×List Int)(i:Nat):List Int×List Int:=
 if i<a.length∧0≤ge tq i∧ge tq i<b.length∧gm M i (ge tq i)≠1048576 then(s.1.set (a.getD i 0) (b.getD (ge tq i).toNat 0:Nat),s.2.set (b.getD (ge tq i).toNat 0) (a.getD i 0:Nat))else s
def nC(a b:List Nat)(M:List (List Int))(tq:List Int)(aI new:List Int):List Int×List Int:=(aw (a.length+b.length)).foldl (oJ a b M tq) (aI,new)
def mA(M:List (List Int)):List Int:=((nV M).map (·.tq)).getD []
def eX(aI new:List Int)(cost:Nat→Nat→Int)(drop add:Nat→Int):List Int×List Int:=
 let a:=dp aI;let b:=dp new
 if 40<a.length+b.length then(aI,new)else nC a b (gp a b cost drop add) (mA (gp a b cost drop add)) aI new
def eC(ts:List Tree)(i:Nat):Option dX:=some (0,0,(ts.getD i default).text)
def la(ds:List cF)(i:Nat):Option dX:=some ((ds.getD i default).J,(ds.getD i default).t.kind,(ds.getD i default).t.text)
def km(ds:List cF)(nm:List Int)(j:Nat):Option dX:=
 if 0≤ge nm (ds.getD j default).J then some (ge nm (ds.getD j default).J,(ds.getD j default).t.kind,(ds.getD j default).t.text)else none
def iw(ds:List cF)(i:Nat):Option dX:=some (0,(ds.getD i default).t.kind,(ds.getD i default).t.text)
def hW(a b:List (lU×Value)):Nat:=(a.filter fun q=>(aT b q.1).isSome).length
def iT(a b:List (lU×Value)):Int:=if hW a b=0 then 1048576 else(a.length:Int)+b.length-2*hW a b
def countP(ts:List Tree)(i:Nat):Int:=(bX (ts.getD i default).kids).length
def ix(ds:List cF)(i:Nat):Int:=(ds.getD i default).t.size
def hI(budget:Int)(a b:Tree):Int:=
 if a.kind=b.kind then(if(a.size:Int)+b.size<bS (2*(bE (aO a) (aO b) budget).cost)then 1048576 else(bE (aO a) (aO b) budget).cost)else 1048576
def ea(s:bp)(j:Nat):bp:=if 0≤ge s.nm j then du s j 0 (ge s.nm j).toNat 0 else s
def gX(m n m' n':Nat)(ps:List (Int×Int))(s:bp):bp:=ps.foldl (fun s p=>du s m' (n'+p.2.toNat) m (n+p.1.toNat)) s
def ek(budget:Int)(od nd:List cF)(s:bp)(i:Nat):bp:=
 let d:=od.getD i default
 if ge s.oa i<0 then{s with cost:=bS (s.cost+d.t.size),a7:=bS (s.a7+d.t.size)}
 else
  let e:=nd.getD (ge s.oa i).toNat default;let m:=bE (aO d.t) (aO e.t) budget
  gX d.J d.number e.J e.number m.aR {s with cost:=bS (s.cost+m.cost),a7:=bS (s.a7+m.a7)}
def gF(nd:List cF)(s:bp)(j:Nat):bp:=
 if ge s.na j<0 then{s with cost:=bS (s.cost+(nd.getD j default).t.size),a7:=bS (s.a7+(nd.getD j default).t.size)}else s
structure bq where
 J:Nat
 number:Nat
 size:Nat
 a6:Nat
instance:Inhabited bq:=⟨⟨0,0,0,0⟩⟩
def gw(kn:List ByteArray)(key:ByteArray):Nat×List ByteArray:=match kn.findIdx? fun k=>decide (k=key)with
 |some i=>(i,kn)
 |none=>(kn.length,kn++[key])
section
variable (ck:Int→ByteArray→List Nat→ByteArray)
mutual
def cS(m:Nat):Tree→Nat→List ByteArray→List bq×Nat×List ByteArray
 | .node k s _ ks,n,kn=>
  let r:=bz m ks (n+1) kn;let q:=gw r.2.2 (ck k s r.2.1)
  (⟨m,n,ax ks+1,q.1⟩::r.1,q.1,q.2)
def bz(m:Nat):List Tree→Nat→List ByteArray→List bq×List Nat×List ByteArray
 |[],_,kn=>([],[],kn)
 |t::ts,n,kn=>
  let a:=cS m t n kn;let b:=bz m ts (n+t.size) a.2.2
  (a.1++b.1,a.2.1::b.2.1,b.2.2)
end
def gG(s:List bq×List ByteArray)(d:cF):List bq×List ByteArray:=
 let r:=bz ck d.J d.t.kids (d.number+1) s.2
 (s.1++r.1,r.2.2)
def dk(ds:List cF)(kn:List ByteArray):List bq×List ByteArray:=ds.foldl (gG ck) ([],kn)
end
def fX(tk:List (List Bool))(x:bq):Bool:=(((tk.getD x.J []).drop x.number).take x.size).all fun b=> !b
def gH(g:List (Int×List bq))(t:bq):List (Int×List bq):=if 3≤t.size then aY g t.a6 ((aT g (t.a6:Int)).getD []++[t])else g
def e3(s:List (Int×List bq)×bp)(t:bq):List (Int×List bq)×bp:=
 if t.size<3∨(aT s.1 (t.a6:Int)).getD []=[]∨fX s.2.nt t=false then s
 else match((aT s.1 (t.a6:Int)).getD []).dropWhile fun o=> !fX s.2.ot o with
  |[]=>(aY s.1 t.a6 [],s.2)
  |o::r=>(aY s.1 t.a6 (o::r),(aw t.size).foldl (fun s i=>du s t.J (t.number+i) o.J (o.number+i)) s.2)
def lc(ck:Int→ByteArray→List Nat→ByteArray)(od nd:List cF)(s:bp):bp:=
 let a:=dk ck od [];let b:=dk ck nd a.2
 (b.1.foldl e3 (a.1.foldl gH [],s)).2
end Go.Proofs.YtdplggpbgommnaaGreatDoor
