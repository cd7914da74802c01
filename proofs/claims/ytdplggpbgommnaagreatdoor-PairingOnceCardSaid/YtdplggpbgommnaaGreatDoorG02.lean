/- Sizes of trees; comparisons of pairs; small functions. -/
import Derived.Test.YtdplggpbgommnaaGreatDoorG01
import Derived.Test.YtdplggpbgommnaaGreatDoorSh
open Array renaming getElem?_append_left->Kf,getElem?_eq_getElem->pn,getElem?_modify->Bu,getElem?_toList->vO
open Go renaming getObj->kE,run_underlying->gl,wpList->dI
open Go.Addr.mk renaming injEq->cx
open Go.ByteArray renaming toList_eq->eT
open Go.Calls renaming mono->vP
open Go.Instr renaming entryStore->Kk,mapEntry->Km,sameBits->KY
open Go.IntKind renaming i64->ae
open Go.Lib renaming hid->aa
open Go.Obj renaming cells->au
open Go.Op renaming equalIn->nn,equal->Lb
open Go.Oper renaming wp->jC
open Go.Proofs.Tryz renaming prog->ai,underlying3->sA,underlying9->vW
open Go.Result renaming andThen_ok->mh,andThen->nj
open Go.RowKit.Below renaming heap_setCell->cH,refl->aD
open Go.Sem renaming run_bind->lD,run->kF
open Go.Sort renaming ahead->vN,alloc_eq_grow->BI
open Go.Value renaming agg->aq,int->af,ownBlock->bW,slice->ag,string->ah,tuple->bD
open Go.Value.slice renaming injEq->bU
open Go.World renaming cell?_alloc_at->cJ,cell?_alloc_past->eg,cell?_of_block->dc,drew->q1,setCell->ef
open Go.World.grownBy renaming refl->kC
open List renaming ext_getElem?->lF,findIdx?_toArray->Kl,getElem?_append_right->ih,getElem?_eq_getElem->aE,getElem?_eq_none->gM,getElem?_mapIdx->px,getElem?_modify->BX,length_eq_zero_iff->BL,set_append_right->ma,size_toArray->j6,take_of_length_le->iG
open Nat renaming eq_zero_or_pos->et,le_refl->kI,lt_or_ge->b7,zero_add->cO,zero_le->aW
open Option renaming map_some->fa
open Option.some renaming injEq->aC,inj->aU
set_option maxHeartbeats 2000000
set_option maxRecDepth 100000
namespace Go.Proofs.YtdplggpbgommnaaGreatDoor
open Go.RowKit
theorem nK(n:Nat):∀(h:Hp) (w:World) (_:ao h w) (v:Value) (t:Tree) (_:aP h v t) (_:t.size<=n) (_:t.size<=1000000000),Calls ai 47 #[v] w fun e w'=>e= .returned (af ae t.size)/\Below w.heap.size w w':=by
 induction n with
 |zero=>intro h w Y v t J hn;cases t;simp[Tree.size]at hn
 |succ n ak=>
  intro h w Y v t J hn aJ;obtain⟨al,aS,aM,ck,xs,rfl,aZ,a2,a1,aL,O,he⟩:=J.open;have hz:=Tree.size_eq t;have am:=aa hz;rw[hz]at hn aJ;have aB:=aa ak;clear ak J hz;go_in;go_wp2;go_loopw[3,9] (fun c i wr=>∃j:Nat,j<=t.kids.length/\i=af ae j/\c=af ae (1+ax (t.kids.take j))/\Below w.heap.size w wr) (fun _ i _=>t.kids.length-(intOf i).toNat);case atStart=>exact⟨0,aW _,rfl,rfl,(aD _ _).alloc (kI _) _⟩
  case round=>
   obtain⟨j,hj,rfl,rfl,G⟩:=hrel;have aL:=jK t.kids j;by_cases aj:j<t.kids.length
   ·have ab:=Y.below G;obtain⟨b,off,aO,aT,aN,aQ,rfl,-,d0,aV,aX,aY,J⟩:=j9 O he ab j aj;have hs:=aa (eY t.kids j aj);have O:=jK t.kids (j+1);rw[hs.out]at O;go_wp2_with fail;refine(aB.out h _ ?_ _ _ J (by omega) (by omega)).mono ?_;·exact ab.alloc _
    ·rintro e w1 ⟨rfl,aG⟩;go_wp2_with fail;go_roundw;case rel=>exact⟨j+1,by omega,by go_num,by rw[hs.out];go_num,(G.alloc G.size _).trans (aG.mono (by have:=G.size;simp;omega))⟩
     case measure=>simp[intOf];omega
   ·go_wp2_with fail;go_ret;have:t.kids.take j=t.kids:=iG (by omega);exact⟨by rw[am.out,this];simp;omega,G⟩
theorem Mc(n:Nat):∀(h:Hp) (w:World) (_:ao h w) (v:Value) (t:Tree) (_:aP h v t) (_:t.size<=n) (_:t.size<=1000000000),Calls ai 8 #[v] w fun e w'=>e= .returned (af ae t.size)/\Below w.heap.size w w':=by
 induction n with
 |zero=>intro h w ak v t J hn;cases t;simp[Tree.size]at hn
 |succ n aG=>
  intro h w ak v t J hn aO;obtain⟨al,aM,ab,ck,xs,rfl,a3,a5,a4,aQ,O,he⟩:=J.open;have hz:=Tree.size_eq t;have aJ:=aa hz;rw[hz]at hn aO;have aL:=aa aG;clear aG J hz;go_in;go_wp2;go_loopw[3,4] (fun c i wr=>∃j:Nat,j<=t.kids.length/\i=af ae j/\c=af ae (1+ax (t.kids.take j))/\Below (w.heap.size+1) (w.alloc (au #[af ae t.kind,ah t.text,ag al t.leads.length aM,ag ab t.kids.length ck] 26)) wr) (fun _ i _=>t.kids.length-(intOf i).toNat);case atStart=>exact⟨0,aW _,rfl,rfl,aD _ _⟩
  case round=>
   obtain⟨j,hj,rfl,rfl,G⟩:=hrel;have aQ:=jK t.kids j;have a2:wr.cell? ⟨w.heap.size,3,none⟩=some (ag ab t.kids.length ck):=by rw[G.cell (by simp)];simp
   have aj:Below w.heap.size w wr:=((aD w.heap.size w).alloc (kI _) _).trans (G.mono (by omega));by_cases aB:j<t.kids.length
   ·have am:=ak.below aj;obtain⟨b,off,aT,aX,aS,aV,rfl,-,d0,aY,aZ,a1,J⟩:=j9 O he am j aB;have hs:=aa (eY t.kids j aB);have O:=jK t.kids (j+1);rw[hs.out]at O;have Y:=aa G;clear G;go_wp2_with fail;refine(aL.out h _ am _ _ J (by omega) (by omega)).mono ?_;rintro e w1 ⟨rfl,aN⟩;go_wp2_with fail;go_roundw;case rel=>exact⟨j+1,by omega,by go_num,by rw[hs.out];go_num,Y.out.trans (aN.mono (by have:=Y.out.size;simpa using this))⟩
    case measure=>simp[intOf];omega
   ·clear G;go_wp2_with fail;go_ret;have:t.kids.take j=t.kids:=iG (by omega);exact⟨by rw[aJ.out,this];simp;omega,aj⟩
def cZ(a b:ByteArray):Int:=if a=b then 0 else 1
theorem bytes_inj{a b:ByteArray}(h:a.toList=b.toList):a=b:=by rw[eT,eT]at h;obtain⟨⟨x⟩⟩:=a;obtain⟨⟨y⟩⟩:=b;simp only at h;rw[h]
theorem Dt{a b:ByteArray}(h:a=b):(a.toList==b.toList)=true:=by simp[h]
theorem Du{a b:ByteArray}(h:a≠b):(a.toList==b.toList)=false:=by rw[beq_eq_false_iff_ne];intro e;exact h (bytes_inj e)
theorem Ln(w:World)(k1 k2 ak am ao ax:Int)(G J:ByteArray)(O Y:Option Addr)(ab aj c1 c2:Nat):
  Calls ai 150 #[aq #[af ae k1,ah G,af ae ak,ag O ab c1,af ae ao],aq #[af ae k2,ah J,af ae am,ag Y aj c2,af ae ax]] w fun e w'=>e= .returned (af ae (cZ G J))/\Below w.heap.size w w':=by
 by_cases h:G=J;·have g:=Dt h;have H:=aa h;clear h;go_in;go_wp2;go_ret;exact⟨by rw[cZ,if_pos H.out];rfl,((aD _ _).alloc (kI _) _).alloc (by simp) _⟩
 ·have g:=Du h;have H:Hid (G≠J):=h;clear h;go_in;go_wp2;go_ret;exact⟨by rw[cZ,if_neg H.out];rfl,((aD _ _).alloc (kI _) _).alloc (by simp) _⟩
theorem Lo(w:World)(x:Int):Calls ai 214 #[af ae x] w fun e w'=>e= .returned (.bool false)/\w=w':=by
 have g:(x !=x)=false:=by simp
 go_in;go_wp2;go_ret;exact⟨rfl,rfl⟩
def kQ(x y:Int):Int:=if x<y then-1 else if y<x then 1 else 0
theorem Dv(w:World)(x y:Int):Calls ai 187 #[af ae x,af ae y] w fun e w'=>e= .returned (af ae (kQ x y))/\w=w':=by
 by_cases h1:x<y;·go_in;go_wp2_with(go_at_call 214;refine(Lo _ _).mono ?_;rintro e w' ⟨rfl,rfl⟩);go_ret;exact⟨by rw[kQ,if_pos h1];rfl,rfl⟩
 ·have G:y<=x:=by omega
  by_cases h2:y<x;·go_in;go_wp2_with(go_at_call 214;refine(Lo _ _).mono ?_;rintro e w' ⟨rfl,rfl⟩);go_ret;exact⟨by rw[kQ,if_neg (by omega),if_pos h2];rfl,rfl⟩
  ·have J:x<=y:=by omega
   go_in;go_wp2_with(go_at_call 214;refine(Lo _ _).mono ?_;rintro e w' ⟨rfl,rfl⟩);go_ret;exact⟨by rw[kQ,if_neg (by omega),if_neg (by omega)];rfl,rfl⟩
def jP:List Int->Int
 |[]=>0
 |x::l=>if x=0 then jP l else x
theorem Dw(l:List Int)(k:Nat)(G:k<l.length):jP (l.drop k)=if l[k]=0 then jP (l.drop (k+1))else l[k]:=by rw[List.drop_eq_getElem_cons G,jP]
theorem Dx(w:World)(l:List Int)(b:Nat)(ab:Nat)(am:l.length<=140737488355328)(hc:∀k (aj:k<l.length),w.cell? ⟨b,k,none⟩=some (af ae l[k])):Calls ai 186 #[ag (some ⟨b,0,none⟩) l.length ab] w fun e w'=>e= .returned (af ae (jP l))/\w=w':=by
 have Y:=aa hc;clear hc;go_in;go_wp2;go_loop[8] (fun i=>∃k:Nat,k<=l.length/\i=af ae k/\Hid (jP (l.drop k)=jP l)) (fun i=>l.length-(intOf i).toNat);case atStart=>exact⟨0,aW _,rfl,rfl⟩
 case round=>
  obtain⟨k,aj,rfl,hw⟩:=hrel;by_cases J:k<l.length
  ·have ak:=Y.out k J;have G:Hid (jP l=if l[k]=0 then jP (l.drop (k+1))else l[k]):=by unfold Hid;rw[<-hw.out];exact Dw l k J
   generalize l[k]=x at*;by_cases h1:x=0
   ·subst h1;go_wp2;go_round;case rel=>exact⟨k+1,by omega,by go_num,by unfold Hid;rw[G.out];simp⟩
    case measure=>simp[intOf];omega
   ·have g:=q0 h1;have O:Hid (x≠0):=h1;clear h1;go_wp2;go_ret;exact⟨by rw[G.out,if_neg O.out];rfl,rfl⟩
  ·go_wp2;go_ret;have:=hw.out;rw[List.drop_of_length_le (by omega)]at this;exact⟨by rw[<-this];rfl,rfl⟩
def kR(p q:Int×Int):Int:=jP [kQ p.1 q.1,kQ p.2 q.2]
theorem xc(w:World)(x y:Int):Calls ai 187 #[af ae x,af ae y] w fun e w'=>e= .returned (af ae (kQ x y))/\w'=w:=
 (Dv w x y).mono fun _ _ ⟨a,b⟩=>⟨a,b.symm⟩
theorem Dy(w:World)(p q:Int×Int):
  Calls ai 147 #[aq #[af ae p.1,af ae p.2],aq #[af ae q.1,af ae q.2]] w fun e w'=>e= .returned (af ae (kR p q))/\∃n os,w'=Sort.grow (w.drewN n) os:=by
 go_in;go_wp2_with fail;refine wp_region_still_tail 10 (by kernel_rfl) (by kernel_rfl) ?_;simp only[List.take_succ_cons,List.take_zero,List.drop_succ_cons,List.drop_zero];change wpStill _ _ (q1 _) (fun a'=>dI _ _ _ _ a' (q1 _)) _ _;iterate 4 still_step
 still_call (xc _ _ _)
 iterate 4 still_step
 still_call (xc _ _ _)
 refine wpStill_nil ?_;go_wp2_with fail;refine(Dx _ [kQ p.1 q.1,kQ p.2 q.2] _ _ (by simp) ?_).mono ?_
 ·intro k G
  match k,G with
  |0,_=>simp;rw[cJ _ _ _ _ (by simp)];rfl
  |1,_=>simp;rw[cJ _ _ _ _ (by simp)];rfl
 rintro e w' ⟨rfl,rfl⟩;go_wp2_with fail;go_ret;exact⟨rfl,1,_,by rw[BI,BI,BI,Sort.grow_grow,Sort.grow_grow];rfl⟩
structure pO(w:World)(h:Hp)(B:Nat)(v:Value)(n:Nat)(xs:List Value)(l:List aB)(w':World)(h':Hp)(v':Value)(news:List Value):Prop where
 I:ao h' w'
 le:h.le h'
 aI:∀b,b<w.heap.size->h' b=h b
 grown:w.grownBy w' v.ownBlock
 own:Ow w' h' B 179 5 v' (n+l.length) (xs++news)
 enc:aJ (kM h') l news
 bi:v'.ownBlock=v.ownBlock\/∃g,v'.ownBlock=some g/\w.heap.size<=g
theorem pO.keeps{w:World}{h:Hp}{B:Nat}{n J:Nat}{xs:List Value}{l:List aB}{w':World}{h':Hp}{v':Value}{news:List Value}{b:Nat}{Z:Obj}(G:pO (w.alloc Z) h B (ag (some ⟨w.heap.size,0,none⟩) n J) n xs l w' h' v' news)(O:b+1<=w.heap.size)(i:Nat):w'.cell? ⟨b,i,none⟩=w.cell? ⟨b,i,none⟩:=by rw[dc (a:=⟨b,i,none⟩) (G.grown.block b (by simp;omega) (fun e=>by simp[bW]at e;omega)),eg _ _ _ (by show b<_;omega)]
structure kT(w:World)(h:Hp)(B:Nat)(vl:Value)(n:Nat)(xs:List Value)(t:Tree)(parent:Int)(j:Nat)(wr:World)(vj:Value)(hj:Hp)(vk:Value)(news:List Value):Prop where
 I:ao hj wr
 le:h.le hj
 aI:∀b,b<w.heap.size->hj b=h b
 grown:w.grownBy wr vl.ownBlock
 own:Ow wr hj B 179 5 vj (n+1+ax (t.kids.take j)) (xs++([af ae t.kind,ah t.text,af ae parent,vk,af ae 0]++news))
 enc:aJ (kM hj) (eJ (t.kids.take j) n (n+1)) news
 kids:Ow wr hj w.heap.size 3 1 vk j ((dC (t.kids.take j) (n+1)).map (af ae))
 apart:∀g,vk.ownBlock=some g->vj.ownBlock≠some g
 bi:vj.ownBlock=vl.ownBlock\/∃g,vj.ownBlock=some g/\w.heap.size<=g
theorem DJ(xs ys _zs:List Value)(a b c d e u:Value)(n:Nat)(hn:xs.length=n*5):(xs++([a,b,c,d,e]++ys)).set (n*5+3) u=xs++([a,b,c,u,e]++ys):=by rw[ma _ _ (by omega),show n*5+3-xs.length=3 by omega];rfl
theorem DK(xs ys _zs:List Value)(a b c d e u:Value)(n:Nat)(hn:xs.length=n*5):(xs++([a,b,c,d,e]++ys)).set (n*5+4) u=xs++([a,b,c,d,u]++ys):=by rw[ma _ _ (by omega),show n*5+4-xs.length=4 by omega];rfl
theorem tB(xs ys:List Value)(a b c d e:Value)(n:Nat)(hn:xs.length=n*5):(xs++([a,b,c,d,e]++ys))[n*5+3]? =some d/\(xs++([a,b,c,d,e]++ys))[n*5+4]? =some e:=by
 constructor;·rw[ih (by omega),show n*5+3-xs.length=3 by omega];rfl
 ·rw[ih (by omega),show n*5+4-xs.length=4 by omega];rfl
theorem DL{w:World}{h:Hp}{B:Nat}{a0:Option Addr}{n G:Nat}{xs:List Value}{t:Tree}{parent:Int}{al O:Option Addr}{ak ck:Nat}{aj:Obj}{w1:World}{J:Value}(_hi:ao h w)(aL:Ow w h B 179 5 (ag a0 n G) n xs)(ab:Ow w1 h B 179 5 J (n+1) (xs++[af ae t.kind,ah t.text,af ae parent,ag none 0 0,af ae 0]))(am:((w.alloc (.cells #[af ae t.kind,ah t.text,ag al t.leads.length ak,ag O t.kids.length ck] 26)).alloc aj).grownBy w1 (ag a0 n G).ownBlock)(aG:J.ownBlock=(ag a0 n G).ownBlock\/J.ownBlock=some ((w.alloc (.cells #[af ae t.kind,ah t.text,ag al t.leads.length ak,ag O t.kids.length ck] 26)).alloc aj).heap.size)(aN:ao h w1):∃g1 c1,J=ag (some ⟨g1,0,none⟩) (n+1) c1/\Hid (kT w h B (ag a0 n G) n xs t parent 0 w1 (ag (some ⟨g1,0,none⟩) (n+1) c1) h (ag none 0 0) [])/\w1.cell? ⟨w.heap.size,3,none⟩=some (ag O t.kids.length ck):=by
 obtain⟨aO,c1,rfl⟩:=ab.shape;obtain⟨g1,rfl,aB⟩:=ab.cell (by omega);have aM:∀k,(ag a0 n G).ownBlock=some k->k<w.heap.size:=fun k Y=>(aL.lt k Y).2;refine⟨g1,c1,rfl,?_,?_⟩
 ·refine⟨aN,Hp.le_refl _,fun _ _=>rfl,?_,?_,?_,?_,?_,?_⟩;·exact kc (mD (mD (kC _ _) _) _) am (fun k Y=> .inl Y)
  ·have:ax (t.kids.take 0)=0:=by simp[ax]
   rw[this];simpa using ab
  ·simp[eJ,aJ]
  ·simpa[dC]using Ow.nil w1 h w.heap.size 3 1
  ·intro g aB;simp[bW]at aB
  ·rcases aG with h1|h1;·exact .inl h1
   ·exact .inr ⟨_,h1,by simp;omega⟩
 ·have:=dc (a:=⟨w.heap.size,3,none⟩) (am.block w.heap.size (by simp;omega) (fun e=>by have:=aM _ e.symm;omega));rw[this,eg _ _ _ (by simp),cJ _ _ _ _ rfl];rfl
theorem kT.mid{w:World}{h:Hp}{B:Nat}{vl:Value}{n:Nat}{xs:List Value}{t:Tree}{parent:Int}{j:Nat}{wr:World}{hj:Hp}{G:Value}{news:List Value}{g ab:Nat}(O:kT w h B vl n xs t parent j wr (ag (some ⟨g,0,none⟩) (n+1+ax (t.kids.take j)) ab) hj G news)(am:xs.length=n*5){X Y:Obj}{w2:World}(g2:((wr.alloc X).alloc Y).grownBy w2 G.ownBlock):Ow w2 hj B 179 5 (ag (some ⟨g,0,none⟩) (n+1+ax (t.kids.take j)) ab) (n+1+ax (t.kids.take j)) (xs++([af ae t.kind,ah t.text,af ae parent,G,af ae 0]++news))/\w2.cell? ⟨g,n*5+3,none⟩=some G/\w2.frozen? ⟨g,n*5+3,none⟩=false:=by
 have o:=((O.own.alloc X).alloc Y).grown g2 (fun g' J e=>O.apart g' e J);obtain⟨g',J,_,_,_,aj,ak⟩:=o.cell (by omega);obtain rfl:g=g':=by simpa using J
 exact⟨o,aj _ _ (tB xs news _ _ _ G _ n am).1,ak _⟩
theorem kT.step{w:World}{h:Hp}{B:Nat}{vl:Value}{n:Nat}{xs:List Value}{t:Tree}{parent:Int}{j:Nat}{wr:World}{hj:Hp}{aO:Value}{news:List Value}{g ak:Nat}(aS:xs.length=n*5)(_hlv:∀k,vl.ownBlock=some k->k<w.heap.size)(O:kT w h B vl n xs t parent j wr (ag (some ⟨g,0,none⟩) (n+1+ax (t.kids.take j)) ak) hj aO news)(aJ:j<t.kids.length)(X aj:Obj){w2:World}{J:Value}(ab:Ow w2 hj w.heap.size 3 1 J (j+1) ((dC (t.kids.take j) (n+1)).map (af ae)++[af ae ((n+1+ax (t.kids.take j):Nat):Int)]))(g2:((wr.alloc X).alloc aj).grownBy w2 aO.ownBlock)(aY:ao hj w2)(b2:J.ownBlock=aO.ownBlock\/J.ownBlock=some ((wr.alloc X).alloc aj).heap.size)
  :ao hj (w2.setCell ⟨g,n*5+3,none⟩ J)/\B<=(w2.setCell ⟨g,n*5+3,none⟩ J).heap.size/\
   Ow (w2.setCell ⟨g,n*5+3,none⟩ J) hj B 179 5 (ag (some ⟨g,0,none⟩) (n+1+ax (t.kids.take j)) ak) (n+1+ax (t.kids.take j)) (xs++([af ae t.kind,ah t.text,af ae parent,J,af ae 0]++news))/\
   ∀aP am aN aM,pO (w2.setCell ⟨g,n*5+3,none⟩ J) hj B (ag (some ⟨g,0,none⟩) (n+1+ax (t.kids.take j)) ak) (n+1+ax (t.kids.take j)) (xs++([af ae t.kind,ah t.text,af ae parent,J,af ae 0]++news)) (ej t.kids[j] n (n+1+ax (t.kids.take j))) aP am aN aM->
    kT w h B vl n xs t parent (j+1) aP aN am J (news++aM):=by
 obtain⟨om,-,-⟩:=O.mid aS g2;have aZ:=om.lt g rfl;have aX:=om.free g rfl
 have aG:∀g',J.ownBlock=some g'->g'≠g:=by
  intro g' aB e;subst e;rcases b2 with b|b;·exact O.apart g' (by rw[<-b,aB]) rfl
  ·rw[b]at aB;have:=(O.own.lt g' rfl).2;simp at aB;omega
 have aT:=om.set (n*5+3) J (by omega);rw[DJ xs news [] _ _ _ _ _ _ n aS]at aT;have aQ:w.grownBy w2 vl.ownBlock:=kc (mD (mD O.grown X) aj) g2 (fun k G=> .inr (by have:=(O.kids.lt k G).1;omega));refine⟨aY.keep fun b c hc=>cH _ _ _ _ (fun e=>by subst e;rw[aX]at hc;cases hc),by simp only[ef,Array.size_modify];omega,aT,?_⟩;intro aP am aN aM H;have a1:w.heap.size<=w2.heap.size:=aQ.size;have a2:(w2.setCell ⟨g,n*5+3,none⟩ J).heap.size=w2.heap.size:=by simp[ef]
 have aL:vl.ownBlock=some g\/w.heap.size<=g:=by
  rcases O.bi with b|⟨g',b,Y⟩;·exact .inl b.symm
  ·simp only[bW,aC]at b;subst b;exact .inr Y
 have aV:(ej t.kids[j] n (n+1+ax (t.kids.take j))).length=t.kids[j].size:=lN _ _ _;refine⟨H.I,Hp.le_trans O.le H.le,fun b Y=>(H.aI b (by omega)).trans (O.aI b Y),?_,?_,?_,?_,?_,?_⟩;·exact kc (pJ aQ aL _) H.grown (fun k G=>by simp only[bW,aC]at G;subst G;exact aL)
 ·have:=H.own;rw[aV]at this;rw[eY t.kids j aJ,<-Nat.add_assoc];simpa only[List.append_assoc]using this
 ·rw[Ds t.kids n (n+1) j aJ];exact(O.enc.mono fun _ _ r=>r.mono H.le).append H.enc
 ·rw[Dr t.kids (n+1) j aJ,List.map_append];refine ab.keep (fun k G=> ?_) (fun k G=>H.aI k (by have:=(ab.lt k G).2;omega));rw[H.grown.block k (by have:=(ab.lt k G).2;omega) (fun e=>aG k G (by simpa[bW]using e)),cH _ _ _ _ (aG k G)]
 ·intro k G e;rcases H.bi with b|⟨g',b,Y⟩;·rw[b]at e;simp only[bW,aC]at e;exact aG k G e.symm
  ·rw[b]at e;simp only[aC]at e;subst e;have:=(ab.lt g' G).2;omega
 ·rcases H.bi with b|⟨g',b,Y⟩
  ·rw[b];rcases aL with r|r;·exact .inl r.symm
   ·exact .inr ⟨g,rfl,r⟩
  ·exact .inr ⟨g',b,by omega⟩
theorem kT.done{w:World}{h:Hp}{B:Nat}{vl:Value}{n:Nat}{xs:List Value}{t:Tree}{parent:Int}{wr:World}{hj:Hp}{aY:Value}{news:List Value}{g ak:Nat}(aS:xs.length=n*5)(ab:aG t.kind)(hp:aG parent)(aZ:n+(ax t.kids+1)<=1000000000)(G:kT w h B vl n xs t parent t.kids.length wr (ag (some ⟨g,0,none⟩) (n+1+ax (t.kids.take t.kids.length)) ak) hj aY news)(z:Int)(hz:z=(t.size:Int)):∃h' aV,pO w h B vl n xs (ej t parent n) (wr.setCell ⟨g,n*5+4,none⟩ (af ae z)) h' (ag (some ⟨g,0,none⟩) (n+1+ax (t.kids.take t.kids.length)) ak) aV:=by
 subst hz;have a2:=t.size_eq;have a1:=w9 t.kids;have aj:t.kids.take t.kids.length=t.kids:=iG (kI _);have aN:=G.own.free g rfl;have aM:=G.own.set (n*5+4) (af ae (t.size:Int)) (by omega);rw[DK xs news [] _ _ _ _ _ _ n aS]at aM
 have aP:vl.ownBlock=some g\/w.heap.size<=g:=by
  rcases G.bi with b|⟨g',b,O⟩;·exact .inl b.symm
  ·simp only[bW,aC]at b;subst b;exact .inr O
 have aO:ao hj (wr.setCell ⟨g,n*5+4,none⟩ (af ae (t.size:Int))):=G.I.keep fun b c hc=>cH _ _ _ _ (fun e=>by subst e;rw[aN]at hc;cases hc);have aX:=G.kids.setCell (p:=⟨g,n*5+4,none⟩) (fun e=>G.apart g e rfl) (af ae (t.size:Int));obtain⟨h',aT,aB,aJ,aL⟩:=aX.giveUp aO (by omega);have aQ:=G.kids.shape;obtain⟨J,ck,rfl⟩:=aQ;have am:(dC t.kids (n+1)).length=t.kids.length:=Dq _ _;refine⟨h',[af ae t.kind,ah t.text,af ae parent,ag J t.kids.length ck,af ae (t.size:Int)]++news,aT,Hp.le_trans G.le aB,?_,?_,?_,?_,?_⟩;·intro b O;rw[aJ b (fun g' Y e=>by have:=(G.kids.lt g' Y).1;omega)];exact G.aI b O
 ·exact pJ G.grown aP _
 ·have e:n+(ej t parent n).length=n+1+ax (t.kids.take t.kids.length):=by rw[lN,aj];omega
  rw[e];refine aM.keep (fun _ _=>rfl) (fun g' Y=>aJ g' (fun k ab e=> ?_));subst e;exact G.apart _ ab Y
 ·rw[w7];refine⟨[af ae t.kind,ah t.text,af ae parent,ag J t.kids.length ck,af ae (t.size:Int)],news,rfl,⟨J,ck,by simp[am],ab,hp,?_,?_,?_⟩,?_⟩;·unfold aG;simp only;omega
  ·have:Sl h' (ag J t.kids.length ck) t.kids.length 1 ((dC t.kids (n+1)).map (af ae)):=by rw[aj]at aL;exact aL
   simp only[am];exact this
  ·intro x hx;have:=xa _ _ _ hx;unfold aG;omega
  ·have:=G.enc;rw[aj]at this;exact this.mono fun _ _ r=>r.mono aB
 ·exact G.bi
theorem DM(m:Nat):∀(t:Tree) (_:t.size<=m) (h:Hp) (w:World) (_:ao h w) (B:Nat) (_:B<=w.heap.size) (v:Value) (_:aP h v t) (parent:Int) (_:aG parent) (vl:Value) (n:Nat) (xs:List Value) (_:Ow w h B 179 5 vl n xs) (_:n+t.size<=1000000000),Calls ai 145 #[v,af ae parent,vl] w fun e w'=>∃v' h' news,e= .returned v'/\pO w h B vl n xs (ej t parent n) w' h' v' news:=by
 induction m with
 |zero=>intro t hn;have:=t.size_eq;omega
 |succ m a8=>
  intro t bR h w a4 B bJ v aM parent hp vl n xs aS a3;obtain⟨al,ce,bY,ck,ys,rfl,J,cz,cv,a5,aL,he⟩:=aM.open;have hz:=Tree.size_eq t;have bC:=aa hz;have cw:=w9 t.kids;rw[hz]at bR a3;have bE:=aa a8;have aX:=aa a4;have bB:=aa aL;have bA:=aa he;obtain⟨a0,bG,rfl⟩:=aS.shape;have aB:=aa aS;clear a8 aM hz a4 aL a5 he aS;go_in;go_wp2_with(at_builtin;refine ft Ll rfl _ _ rfl (((St.dN aX.out bJ).alloc _).alloc _) _ n xs rfl ((aB.out.alloc _).alloc _) ⟨_,0,none⟩ 1 1 [af ae t.kind,ah t.text,af ae parent,ag none 0 0,af ae 0] rfl rfl (cK _ _ _ _ (by simp)) (cm _ rfl) (by omega) ?_;intro cC w1 bq ba a1 aY;obtain⟨g1,c1,rfl,bz,cA⟩:=DL aX.out aB.out ba a1 aY bq.I;clear bq ba a1 aY);have am:Hid (xs.length=n*5):=aB.out.len;go_loopw[2,24] (fun v i wr=>∃(j:Nat) (aO g:Nat) (hj:Hp) (aN:Value) (news:List Value),j<=t.kids.length/\i=af ae j/\v=ag (some ⟨g,0,none⟩) (n+1+ax (t.kids.take j)) aO/\kT w h B (ag a0 n bG) n xs t parent j wr (ag (some ⟨g,0,none⟩) (n+1+ax (t.kids.take j)) aO) hj aN news) (fun _ i _=>t.kids.length-(intOf i).toNat);case atStart=>exact⟨0,_,_,_,_,_,aW _,rfl,rfl,bz.out⟩
  case round=>
   obtain⟨j,aO,g,hj,aN,news,cu,rfl,rfl,O⟩:=hrel;have a5:=jK t.kids j;by_cases aQ:j<t.kids.length
   ·obtain⟨b,off,b0,cf,bZ,cd,rfl,ct,d0,ci,cj,cl,aM⟩:=j9 (bB.out.mono O.le) (bA.out.mono fun _ _ r=>r.mono O.le) O.I j aQ;obtain⟨g',ak,bL,bO,bN,aj,aJ⟩:=O.own.cell (by omega);obtain rfl:g=g':=by simpa using ak
    have bH:=aj _ _ (tB xs news _ _ _ aN _ n am.out).1;obtain⟨cc,ch,rfl⟩:=O.kids.shape;have G:=aa O;have hs:=aa (eY t.kids j aQ);have aL:=jK t.kids (j+1);rw[hs.out]at aL;clear aj aJ ak O;go_wp2_with(at_builtin;refine ft fP rfl _ _ rfl (St.dN (B:=w.heap.size) ((G.out.I.alloc _).alloc _) (by have:=G.out.grown.size;simp;omega)) _ j _ rfl ((G.out.kids.alloc _).alloc _) ⟨_,0,none⟩ 1 1 [af ae ((n+1+ax (t.kids.take j):Nat):Int)] rfl rfl (cK _ _ _ _ (by simp)) (cm _ rfl) (by omega) ?_;intro cD w2 bv aT Y aZ;obtain⟨b9,cg,rfl⟩:=aT.shape;obtain⟨-,cn,co⟩:=G.out.mid am.out Y;have cE:=Lf Y (fun k J=>(G.out.kids.lt k J).2) 0;have cF:=Lf Y (fun k J=>(G.out.kids.lt k J).2) 1;have cG:=Lf Y (fun k J=>(G.out.kids.lt k J).2) 2;have cM:=Lf Y (fun k J=>(G.out.kids.lt k J).2) 3;have aV:=aa (G.out.step am.out (fun k J=>(aB.out.lt k J).2) aQ _ _ aT Y bv.I aZ);clear bv aT Y aZ);obtain⟨bd,bg,bm,bp⟩:=aV.out;refine(bE.out t.kids[j] (by omega) hj _ bd B bg _ aM n (by unfold aG;omega) _ _ _ bm (by omega)).mono ?_;rintro e bV ⟨bT,a2,a9,rfl,H⟩;have ab:=bp bV a2 bT a9 H;obtain⟨bX,c4,rfl⟩:=ab.own.shape;obtain⟨bI,rfl,-⟩:=ab.own.cell (by omega);have ab:=aa ab;clear bd bg bm bp H aV;go_wp2_with fail;go_roundw;case rel=>exact⟨j+1,c4,bI,a2,_,news++a9,by omega,by go_num,rfl,ab.out⟩
    case measure=>simp[intOf];omega
   ·obtain rfl:j=t.kids.length:=by omega
    obtain⟨g',ak,bL,bO,bN,aj,aJ⟩:=O.own.cell (by omega);obtain rfl:g=g':=by simpa using ak
    have bH:=aj _ _ (tB xs news _ _ _ aN _ n am.out).2;have cq:=aJ (n*5+4);have G:=aa O;have cB:Hid (ax (t.kids.take t.kids.length)=ax t.kids):=by unfold Hid;rw[iG (kI _)]
    clear aj aJ ak O;go_wp2_with fail;go_ret;obtain⟨h',bS,D⟩:=kT.done am.out J hp a3 G.out ((n:Int)+1+(ax t.kids:Int)-n) (by rw[bC.out];omega);exact⟨_,h',bS,rfl,D⟩
theorem xp(h:Hp)(w:World)(am:ao h w)(v:Value)(t:Tree)(ab:aP h v t)(hn:t.size<=1000000000):Calls ai 103 #[v] w fun e w'=>∃v' h',e= .returned v'/\St w.heap.size h w h' w'/\gy h' v' (aO t):=by
 have ak:=aa ab;have aj:=aa am;obtain⟨al,Y,O,ck,ys,rfl,aT,a3,a2,aV,aX,he⟩:=ab.open;clear ab aV aX he am;have a4:∀W:World,(Instr.makeSlice 176 (af ae 0) (af ae (t.size:Int))).run ai W= .ok (ag (some ⟨W.heap.size,0,none⟩) 0 t.size) (W.alloc (.cells (madeCells #[af ae 0,ah ⟨#[]⟩,af ae 0,ag none 0 0,af ae 0] (t.size*5)) 179)):=fun W=>by obtain⟨i,zv,h1,h2,aN,aQ,aS⟩:=Ll.lJ;have:=run_make W 176 179 i zv Ll.und h1 h2 ae ae 0 (t.size:Int) (by omega) (by omega) (by rw[aQ];omega) (by omega);simpa[aN,aS]using this
 go_in;go_wp2_with fail;have hmx:t.size<=maxLen:=by simp only[maxLen];omega
 go_region_held3(fun w'=>w'.cell? ⟨w.heap.size,0,none⟩=some (af ae t.kind)/\w'.cell? ⟨w.heap.size,1,none⟩=some (ah t.text)/\w'.cell? ⟨w.heap.size,2,none⟩=some (ag al t.leads.length Y)/\w'.cell? ⟨w.heap.size,3,none⟩=some (ag O t.kids.length ck)) (first|go_keep|exact⟨aB,aJ,aL,aM⟩|exact⟨(kp.out 0).trans aB,(kp.out 1).trans aJ,(kp.out 2).trans aL,(kp.out 3).trans aM⟩) (first|(go_at_call 47;refine(nK t.size h _ (by exact(aj.out.alloc _).drew) _ t ak.out (kI _) hn).mono ?_;rintro e w1 ⟨rfl,J⟩;have ax:=aa ((aj.out.alloc _).drew.below J);have aZ:w.heap.size+1<=w1.heap.size:=(by have:=J.size;simpa using this);have k1:Hid (Below (w.heap.size+1) (w.alloc (au #[af ae t.kind,ah t.text,ag al t.leads.length Y,ag O t.kids.length ck] 26)) w1):=(by have:=(aD (w.heap.size+1) _).drew.trans (J.mono (by simp));exact this);have aB:w1.cell? ⟨w.heap.size,0,none⟩=some (af ae t.kind):=(by rw[k1.out.cell (by simp)];simp);have aJ:w1.cell? ⟨w.heap.size,1,none⟩=some (ah t.text):=(by rw[k1.out.cell (by simp)];simp);have aL:w1.cell? ⟨w.heap.size,2,none⟩=some (ag al t.leads.length Y):=(by rw[k1.out.cell (by simp)];simp);have aM:w1.cell? ⟨w.heap.size,3,none⟩=some (ag O t.kids.length ck):=(by rw[k1.out.cell (by simp)];simp);clear J)|(go_at_call 145;refine(DM t.size t (kI _) h _ (by exact ax.out.alloc _) w.heap.size (by simp;omega) _ ak.out (-1) (by unfold aG;omega) _ 0 [] (by exact CW ax.out (by omega) _ _ _ _ hmx) (by omega)).mono ?_;rintro e w2 ⟨a5,h2,news,rfl,G⟩;have kp:=aa (G.keeps aZ);have G:=aa G));go_wp2_with fail;go_ret;have S:St w.heap.size h w h2 w2:=by refine⟨?_,G.out.I,G.out.le,fun b a1=>G.out.aI b (by simp;omega),kI _⟩;refine((aD _ _).alloc (kI _) _).trans ((k1.out.mono (by omega)).trans ⟨G.out.grown.os,G.out.grown.tape,G.out.grown.output,by have:=G.out.grown.size;simp at this;omega,fun k aT=> ?_⟩);rw[G.out.grown.block k (by simp;omega) (fun e=>by simp[bW]at e;omega),Below.heap_alloc _ _ _ (by omega)]
 have aY:(ej t (-1) 0).length=t.size:=lN _ _ _;refine⟨_,_,rfl,S.fr,_,?_,G.out.enc.mono fun _ _ r=>r.mono (Hp.gQ G.out.I)⟩;have:=G.out.own.sl (by rw[aY];omega);rw[cO,List.nil_append]at this;exact this
open Go.RowKit Go.Sort
def cq(l:List (Int×Int)):List (Int×Int):=l.mergeSort fun x y=> !decide (kR y x<0)
theorem nM(p q:Int×Int):kR p q<0↔p.1<q.1\/p.1=q.1/\p.2<q.2:=by
 unfold kR jP kQ;by_cases h1:p.1<q.1;·simp[h1]
 ·by_cases h2:q.1<p.1;·simp[h1,h2];omega
  ·have O:p.1=q.1:=by omega
   simp only[O,Int.lt_irrefl,if_false,if_true,jP,false_or,true_and];by_cases G:p.2<q.2;·simp[G]
   ·by_cases J:q.2<p.2;·simp[G,J]
    ·simp[G,J]
theorem DA:SWO (ltOf kR) where
 irrefl x:=by unfold ltOf;rw[decide_eq_false_iff_not,nM];omega
 trans x y z h1 h2:=by unfold ltOf at*;rw[decide_eq_true_eq,nM]at*;omega
 ntrans x y z h1 h2:=by unfold ltOf at*;rw[decide_eq_false_iff_not,nM]at*;omega
theorem DB(x y:Int×Int)(h1:ltOf kR x y=false)(h2:ltOf kR y x=false):x=y:=by unfold ltOf at*;rw[decide_eq_false_iff_not,nM]at*;exact Prod.ext (by omega) (by omega)
theorem tz(l:List (Int×Int)):(flatK bV 2 l.toArray).toList=l.flatMap bV:=by
 apply lF;intro t;have am:=qU l;rcases b7 t (l.length*2)with G|G
 ·obtain⟨i,aj⟩:∃i,t=i*2\/t=i*2+1:=⟨t/2,by omega⟩
  have J:i<l.length:=by omega
  obtain⟨Y,ab⟩:=mE l i J;rcases aj with rfl|rfl
  ·rw[Y];have O:i*2/2=i:=by omega
   simp[flatK,G,O,J,bV]
  ·rw[ab];have O:(i*2+1)/2=i:=by omega
   have ak:(i*2+1)%2=1:=by omega
   simp[flatK,G,O,ak,J,bV]
 ·rw[gM (by simpa using G),gM (by omega)]
theorem xj{w:World}{h:Hp}{B:Nat}{T:TypeId}{g O:Nat}{l l':List (Int×Int)}(own:Ow w h B T 2 (ag (some ⟨g,0,none⟩) l.length O) l.length (l.flatMap bV))(J:l'.length=l.length)(m:Nat)(os:Array Obj):w.grownBy (grow (putRowK bV 2 (vN w m) g 0 l'.toArray) os) (some g)/\Ow (grow (putRowK bV 2 (vN w m) g 0 l'.toArray) os) h B T 2 (ag (some ⟨g,0,none⟩) l.length O) l.length (l'.flatMap bV):=by
 have aB:=own.free;have aM:=(own.lt g rfl).2;rcases own.row with⟨h1,⟨hv,_⟩|⟨g',aO,Y,hv,ao,aJ,ak,ax,aj,aQ⟩⟩;·simp at hv
 simp only[bU,aC,cx,and_true,true_and]at hv;obtain⟨rfl,rfl⟩:=hv;have ab:(grow (putRowK bV 2 (vN w m) g 0 l'.toArray) os).heap=w.heap.modify g (onCells (putCells id 0 (flatK bV 2 l'.toArray)))++os:=rfl;have aG:(grow (putRowK bV 2 (vN w m) g 0 l'.toArray) os).heap[g]? =some (.cells (putCells id 0 (flatK bV 2 l'.toArray) Y) T (0,0)):=by rw[ab,Kf (by simpa using aM),Bu,if_pos rfl,aJ];rfl
 refine⟨⟨rfl,rfl,rfl,by rw[ab];simp,fun k aL aN=> ?_⟩,⟨⟨by rw[qU,J],.inr ⟨g,O,_,rfl,ao,aG,ak,ax,by simpa[putCells]using aj,?_⟩⟩,aB⟩⟩;·rw[ab,Kf (by simpa using aL),Bu,if_neg (fun e=>aN (by rw[e]))]
 ·rw[<-tz];apply lF;intro t;have aP:l.length*2<=Y.size:=by rw[aj];exact Nat.mul_le_mul_right _ ak
  rw[List.getElem?_take];by_cases G:t<l.length*2
  ·rw[if_pos G];have h2:t<(flatK bV 2 l'.toArray).size:=by simpa[J]using G
   have am:t<Y.size:=by omega
   rw[vO,vO,pn h2];simp[putCells,am,J,G]
  ·rw[if_neg G,gM (by simpa[J]using Nat.le_of_not_lt G)]
theorem DC(bi off size:Nat)(w:World):CmpLays ai 147 #[] bV 2 kR bi off size w:=
 fun _ _ _ _ x y=>Dy _ x y
theorem tA(h:Hp)(w:World)(ax:ao h w)(B:Nat)(v:Value)(l:List (Int×Int))(aB:l.length<=70368744177664)(own:Ow w h B 79 2 v l.length (l.flatMap bV)):Calls ai 146 #[v,.func (.func 147) #[] #[]] w fun e w'=>e= .returned (bD #[])/\w.grownBy w' v.ownBlock/\Ow w' h B 79 2 v l.length ((cq l).flatMap bV):=by
 obtain⟨a,J,rfl⟩:=own.shape;rcases et l.length with G|G;·have ak:l=[]:=BL.1 G;subst ak;have:=AnyF.slices_SortFunc_none (P:=ai) {Tryz.sortL with} a J (.func (.func 147) #[] #[]) w;refine vP this ?_;rintro e w' ⟨rfl,rfl⟩;exact⟨rfl,kC _ _,by simpa[cq]using own⟩
 ·obtain⟨g,rfl,h1,h2,am,Y,ab⟩:=own.cell G
  have aj:HoldsK bV 2 w g 0 l.toArray:=by
   intro j hj;have O:j<(l.flatMap bV).length:=by rw[qU];simpa using hj
   have e:(flatK bV 2 l.toArray)[j]! =(l.flatMap bV)[j]:=by have:=congrArg (fun z=>z[j]?) (tz l);simp only[aE O]at this;rw[getElem!_def];rw[vO]at this;rw[this]
   refine⟨?_,ab _⟩;rw[cO,e];exact Y j _ (aE O)
  have:=AnyQ.slices_SortFunc_total (P:=ai) Tryz.sortL 2 (fun _=>by kernel_rfl) (fun _=>by kernel_rfl) bV (fun _=>rfl) (fun x=>cm _ rfl) kR DA 147 #[] g 0 J l.toArray w (enters_of Tryz.func147 (by kernel_rfl) rfl) (DC _ _ _ _) aj h2 (by simp;omega) DB
  change Calls ai 146 _ _ _ at this;simp only[j6]at this;refine vP this ?_;rintro e w' ⟨rfl,n,os,rfl⟩;refine⟨rfl,?_⟩;exact xj own (List.length_mergeSort _) n os
theorem DD{w:World}{h:Hp}{B:Nat}{T:TypeId}{g J:Nat}{l:List (Int×Int)}(own:Ow w h B T 2 (ag (some ⟨g,0,none⟩) l.length J) l.length (l.flatMap bV))(O:0<l.length):HoldsK bV 2 w g 0 l.toArray:=by
 obtain⟨g',aj,h1,h2,ak,Y,ab⟩:=own.cell O;obtain rfl:g=g':=by simpa using aj
 intro j hj;have G:j<(l.flatMap bV).length:=by rw[qU];simpa using hj
 have e:(flatK bV 2 l.toArray)[j]! =(l.flatMap bV)[j]:=by have:=congrArg (fun z=>z[j]?) (tz l);simp only[aE G]at this;rw[getElem!_def];rw[vO]at this;rw[this]
 refine⟨?_,ab _⟩;rw[cO,e];exact Y j _ (aE G)
theorem DE(h:Hp)(w:World)(Y:ao h w)(B:Nat)(v:Value)(l:List (Int×Int))(ab:l.length<=70368744177664)(own:Ow w h B 79 2 v l.length (l.flatMap bV)):Calls ai 190 #[v] w fun e w'=>e= .returned (bD #[])/\w.grownBy w' v.ownBlock/\Ow w' h B 79 2 v l.length (l.reverse.flatMap bV):=by
 obtain⟨a,J,rfl⟩:=own.shape;rcases et l.length with G|G;·have O:l=[]:=BL.1 G;subst O;have:=AnyQ.slices_Reverse_empty (P:=ai) Tryz.revL a J w;refine vP this ?_;rintro e w' ⟨rfl,rfl⟩;exact⟨rfl,kC _ _,by simpa using own⟩
 ·obtain⟨g,rfl,-⟩:=own.cell G;have:=AnyQ.slices_Reverse (P:=ai) Tryz.revL 2 (fun _=>by kernel_rfl) (fun _=>by kernel_rfl) bV (fun _=>rfl) (fun x=>cm _ rfl) g 0 J l.toArray w (DD own G) (by simp;omega);change Calls ai 190 _ _ _ at this;simp only[j6]at this;refine vP this ?_;rintro e w' ⟨rfl,n,rfl⟩;refine⟨rfl,?_⟩;have:=xj own (l':=l.reverse) (by simp) n #[];rw[grow_empty]at this;simp only[List.reverse_toArray];exact this
section
variable {K:Type}
theorem EN(enc:K->Value)(l:List (K×Value))(k:Nat)(p:K)(v:Value)(J:k<l.length)(hp:(l[k]).1=p):bR enc (l.set k (p,v))=(bR enc l).modify k fun e=>{e with val:=v}:=by
 apply lF;intro i;simp only[bR,px,List.getElem?_set,BX];by_cases G:k=i;·subst G;simp[J,hp]
 ·simp[G]
theorem EO(enc:K->Value)(l:List (K×Value))(k:Nat)(p:K)(J:k<l.length)(hp:(l[k]).1=p):((bR enc l).modify k fun e=>{e with key:=enc p})=bR enc l:=by
 apply lF;intro i;simp only[bR,px,BX];by_cases G:k=i;·subst G;simp[J,hp]
 ·simp[G]
theorem EP{w:World}{r:Nat}{o:Obj}(h:w.heap[r]? =some o):sG w r o=w:=by
 unfold sG
 have hr:r<w.heap.size:=by
  rcases b7 r w.heap.size with q|q;·exact q
  ·rw[Array.getElem?_eq_none q]at h;cases h
 have:w.heap.setIfInBounds r o=w.heap:=by
  apply Array.ext_getElem?;intro i;by_cases e:r=i;·subst e;have h2:=h;rw[pn hr]at h2;have G:=aU h2;simp[hr,G]
  ·simp[e]
 rw[this]
theorem aS.store{enc:K->Value}{w:World}{r:Nat}{l:List (K×Value)}(m:aS enc w r l)(k:Nat)(G:k<l.length)(T:TypeId)(v:Value):∃w',(Kk T (.map (some r)) (af ae k) v).run ai w= .ok () w'/\aS enc w' r (l.set k ((l[k]).1,v))/\w.grownBy w' (some r):=by
 have ab:=m.lt;unfold aS at m;refine⟨sG w r (cG enc (l.set k ((l[k]).1,v))),?_,by unfold aS;simp[sG,ab],qY _ _ _⟩;have O:(bR enc l).toArray.findIdx? (fun e=>((e.born:Int)==(k:Int)))=some k:=by rw[Kl,List.findIdx?_eq_some_iff_getElem];refine⟨by simpa[bR]using G,by simp[bR],fun j hj=> ?_⟩;simp[bR];omega
 have J:cG enc (l.set k ((l[k]).1,v))= .map ((bR enc l).modify k fun e=>{e with val:=v}).toArray l.length:=by unfold cG;rw[List.length_set,EN enc l k _ v G rfl]
 unfold Kk;rw[J];have Y:(bR enc l).findIdx? (fun e=>((e.born:Int)==(k:Int)))=some k:=by rw[<-Kl];exact O
 simp[kE,setObj,kF,m,cG,asInt,asIntOf,sG,Y]
theorem CT{enc:K->Value}{ops:Array Oper}{rest:List Oper}{o:Oper}{a:Act}{Q:Exit->Act->World->Prop}{w:World}(G:o.guard=none)(T:TypeId)(x y u:Operand)(O:o.op= .entryStore T x y u){r:Nat}{l:List (K×Value)}(m:aS enc w r l)(k:Nat)(J:k<l.length)(v:Value)(hx:a.eval x= .map (some r))(hy:a.eval y=af ae k)(ab:a.eval u=v)(h:∀w',aS enc w' r (l.set k ((l[k]).1,v))->w.grownBy w' (some r)->dI ai ops Q rest (a.put o.dst undef) w'):dI ai ops Q (o::rest) a w:=by obtain⟨w',Y,h1,h2⟩:=m.store k J T v;refine wpList_plain G fun aj hK'=> ?_;unfold jC;simp[execOp,O,hx,hy,ab,Y,nj];exact hK' _ _ (h w' h1 h2)
variable [DecidableEq K]
def jO(l:List (K×Value))(p:K):Nat:=(bm l p).getD l.length
def ki(l:List (K×Value))(p:K)(z:Value):List (K×Value):=match bm l p with
 |some _=>l
 |none=>l++[(p,z)]
theorem aS.entry{O:TypeId}{enc:K->Value}(J:jm O enc){w:World}{r:Nat}{l:List (K×Value)}(m:aS enc w r l)(p:K)(T e:TypeId)(z:Value)(Y:ai.underlying T=some (.map O e))(hz:∀w,(zeroValue e).run ai w= .ok z w):∃w',(Km T (.map (some r)) (enc p)).run ai w= .ok (bD #[(aT l p).getD z,af ae (jO l p)]) w'/\aS enc w' r (ki l p z)/\w.grownBy w' (some r):=by
 have aG:=m.lt;have hm:=m;unfold aS at m;have hf:=J.find w p (bR enc l) l (uf enc l);have hc:∀b,(Instr.checkKey b 10000 O (enc p)).run ai w= .ok () w:=fun b=>J.check b w p;unfold Km aT jO ki;cases hk:bm l p with
 |none=>
  rw[hk]at hf;simp only[Option.bind_none]at hf;refine⟨sG w r (cG enc (l++[(p,z)])),?_,?_,qY _ _ _⟩
  ·have ak:cG enc (l++[(p,z)])= .map ((bR enc l).toArray.push {key:=enc p,val:=z,born:=l.length}) (l.length+1):=by unfold cG bR;rw[List.mapIdx_append];simp
   rw[ak];simp[gl Y,kE,setObj,kF,m,cG,hc,hf,sG,hz,goInt]
  ·unfold aS;simp[sG,aG]
 |some k=>
  have G:=fv hk;have ab:=p0 hk G;rw[hk]at hf;simp only[Option.bind_some,aE G,fa]at hf;have ax:((bR enc l)[k]?).map (·.key)=some (enc p):=by simp[bR,aE G,ab]
  have am:((bR enc l)[k]?).map (·.born)=some k:=by simp[bR,aE G]
  have aB:∀d,(((bR enc l)[k]?).map (·.key)).getD d=enc p:=fun d=>by rw[ax];rfl
  have aJ:∀d,(((bR enc l)[k]?).map (·.born)).getD d=k:=fun d=>by rw[am];rfl
  have ao:∀d,(Option.map (fun x:MapEntry=>(x.born:Int)) (bR enc l)[k]?).getD d=k:=fun d=>by simp[bR,aE G]
  refine⟨w,?_,hm,kC _ _⟩;have aj:=EP m;unfold sG cG at aj;simp[gl Y,kE,setObj,kF,m,cG,hc,hf,Instr.keyThatStays,aB,ao,J.bits,EO enc l k p G ab,goInt,G,aj]
theorem CS{G:TypeId}{enc:K->Value}(J:jm G enc){ops:Array Oper}{rest:List Oper}{o:Oper}{a:Act}{Q:Exit->Act->World->Prop}{w:World}(Y:o.guard=none)(T:TypeId)(x y:Operand)(ab:o.op= .mapEntry T x y){r:Nat}{l:List (K×Value)}(m:aS enc w r l)(p:K)(e:TypeId)(z:Value)(O:ai.underlying T=some (.map G e))(hz:∀w,(zeroValue e).run ai w= .ok z w)(hx:a.eval x= .map (some r))(hy:a.eval y=enc p)(h:∀w',aS enc w' r (ki l p z)->w.grownBy w' (some r)->dI ai ops Q rest (a.put o.dst (bD #[(aT l p).getD z,af ae (jO l p)])) w'):dI ai ops Q (o::rest) a w:=by obtain⟨w',aj,h1,h2⟩:=m.entry J p T e z O hz;refine wpList_plain Y fun ak hK'=> ?_;unfold jC;simp[execOp,ab,hx,hy,aj,nj];exact hK' _ _ (h w' h1 h2)
theorem qQ(l:List (K×Value))(p:K)(z:Value):jO l p<(ki l p z).length:=by
 unfold jO ki;cases h:bm l p with
 |none=>simp
 |some k=>exact fv h
theorem EQ(l:List (K×Value))(p:K)(z:Value):((ki l p z)[jO l p]'(qQ l p z)).1=p:=by
 have h:((ki l p z)[jO l p]?).map (·.1)=some p:=by
  unfold jO ki;cases h:bm l p with
  |none=>simp
  |some k=>simp only[Option.getD_some];rw[aE (fv h),fa,p0 h (fv h)]
 rw[aE (qQ l p z),fa]at h;exact aU h
theorem CU(l:List (K×Value))(p:K)(z v:Value):(ki l p z).set (jO l p) (((ki l p z)[jO l p]'(qQ l p z)).1,v)=aY l p v:=by
 rw[EQ];unfold jO ki aY;cases h:bm l p with
 |none=>simp
 |some k=>rfl
end
def dQ(p:Int×ByteArray):Value:=aq #[af ae p.1,ah p.2]
def dA(p:Int×Int×ByteArray):Value:=aq #[af ae p.1,af ae p.2.1,ah p.2.2]
theorem nT(a b:ByteArray):(a.toList==b.toList)=decide (b=a):=by rw[<-beq_toListBytes,bytes_beq];exact decide_eq_decide.2 ⟨fun h=>h.symm,fun h=>h.symm⟩
theorem ER(w:World)(p q:Int×ByteArray):(Lb 99 (dQ p) (dQ q)).run ai w= .ok (decide (q=p)) w:=by
 have h:(Lb 99 (dQ p) (dQ q)).run ai w=(nn 10000 99 (dQ p) (dQ q)).run ai w:=rfl
 obtain⟨G,J,hf,ax,aj,aB,ak,O,Y⟩:∃G J:Field,(ai.fieldsOf 99).toList=[G,J]/\G.type=3/\G.offset=0/\J.type=9/\J.offset=1/\(G.name== "_")=false/\(J.name== "_")=false:=
  ⟨(ai.fieldsOf 99).toList.getD 0 default,(ai.fieldsOf 99).toList.getD 1 default,by kernel_rfl,by kernel_rfl,by kernel_rfl,by kernel_rfl,by kernel_rfl,by kernel_rfl,by kernel_rfl⟩
 replace O:=beq_eq_false_iff_ne.1 O;replace Y:=beq_eq_false_iff_ne.1 Y;have am:∀(x y:Value) w,(part 3 #[x,y] 0).run ai w= .ok x w:=fun _ _ _=>by kernel_rfl
 have ao:∀(x y:Value) w,(part 9 #[x,y] 1).run ai w= .ok y w:=fun _ _ _=>by kernel_rfl
 have ab:∀(x y:Int) w,(nn 9999 3 (af ae x) (af ae y)).run ai w= .ok (x==y) w:=fun x y w=>run_equalIn_int w 9998 3 ae ae x y sA;have hs:∀(x y:ByteArray) w,(nn 9999 9 (ah x) (ah y)).run ai w= .ok (x.toList==y.toList) w:=fun x y w=>run_equalIn_string w 9998 9 x y vW;rw[h,dQ,dQ,run_equalIn_agg w 9999 99 _ _ (by kernel_rfl) (by kernel_rfl),hf];simp only[Op.eqFields,O,Y,ne_eq,not_false_eq_true,if_true,lD,ax,aj,aB,ak,am,ab,mh];obtain⟨a,b⟩:=p;obtain⟨c,d⟩:=q;by_cases h1:a=c;·subst h1;by_cases h2:d=b<;>simp[h2,ao,hs,nT]
 ·have:¬c=a:=fun e=>h1 e.symm;simp[h1,this]
theorem ES(w:World)(p q:Int×Int×ByteArray):(Lb 107 (dA p) (dA q)).run ai w= .ok (decide (q=p)) w:=by
 have h:(Lb 107 (dA p) (dA q)).run ai w=(nn 10000 107 (dA p) (dA q)).run ai w:=rfl
 obtain⟨G,J,O,hf,aM,aB,aN,aG,aO,aJ,ab,aj,ak⟩:∃G J O:Field,(ai.fieldsOf 107).toList=[G,J,O]/\G.type=3/\G.offset=0/\J.type=3/\J.offset=1/\O.type=9/\O.offset=2/\(G.name== "_")=false/\(J.name== "_")=false/\(O.name== "_")=false:=
  ⟨(ai.fieldsOf 107).toList.getD 0 default,(ai.fieldsOf 107).toList.getD 1 default,(ai.fieldsOf 107).toList.getD 2 default,by kernel_rfl,by kernel_rfl,by kernel_rfl,by kernel_rfl,by kernel_rfl,by kernel_rfl,by kernel_rfl,by kernel_rfl,by kernel_rfl,by kernel_rfl⟩
 replace ab:=beq_eq_false_iff_ne.1 ab;replace aj:=beq_eq_false_iff_ne.1 aj;replace ak:=beq_eq_false_iff_ne.1 ak;have aL:∀(x y z:Value) w,(part 3 #[x,y,z] 0).run ai w= .ok x w:=fun _ _ _ _=>by kernel_rfl
 have am:∀(x y z:Value) w,(part 3 #[x,y,z] 1).run ai w= .ok y w:=fun _ _ _ _=>by kernel_rfl
 have ao:∀(x y z:Value) w,(part 9 #[x,y,z] 2).run ai w= .ok z w:=fun _ _ _ _=>by kernel_rfl
 have Y:∀(x y:Int) w,(nn 9999 3 (af ae x) (af ae y)).run ai w= .ok (x==y) w:=fun x y w=>run_equalIn_int w 9998 3 ae ae x y sA;have hs:∀(x y:ByteArray) w,(nn 9999 9 (ah x) (ah y)).run ai w= .ok (x.toList==y.toList) w:=fun x y w=>run_equalIn_string w 9998 9 x y vW;rw[h,dA,dA,run_equalIn_agg w 9999 107 _ _ (by kernel_rfl) (by kernel_rfl),hf];simp only[Op.eqFields,ab,aj,ak,ne_eq,not_false_eq_true,if_true,lD,aM,aB,aN,aG,aO,aJ,aL,Y,mh];obtain⟨a,b,c⟩:=p;obtain⟨a',b',c'⟩:=q;by_cases h1:a=a'
 ·subst h1;by_cases h2:b=b';·subst h2;by_cases ax:c'=c<;>simp[ax,am,ao,Y,hs,nT]
  ·have:¬b'=b:=fun e=>h2 e.symm;simp[h2,this,am,ao,Y,hs,nT]
 ·have:¬a'=a:=fun e=>h1 e.symm;simp[h1,this]
theorem x4:jm 99 dQ:=
 x3 Tryz.underlying99 (fun _ _=>rfl) ER (fun b w p=>by cases b<;>kernel_rfl) (fun p=>by rw[show(10000:Nat)=9999+1 from rfl,dQ,KY];simp[KY,bytes_beq])
theorem qP:jm 107 dA:=
 x3 Tryz.underlying107 (fun _ _=>rfl) ES (fun b w p=>by cases b<;>kernel_rfl) (fun p=>by rw[show(10000:Nat)=9999+1 from rfl,dA,KY];simp[KY,bytes_beq])
theorem ww:jm 9 (fun s:ByteArray=>ah s):=EM vW
end Go.Proofs.YtdplggpbgommnaaGreatDoor
