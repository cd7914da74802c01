/- The lexer: the walk of Scan over a text without comments. -/
import Derived.Test.YtdplggpbgommnaaGreatDoorG11
open Go renaming bodyPost_ret->aF,results->aH
open Go.Addr.mk renaming injEq->cx
open Go.DataW renaming trod->vU
open Go.Instr renaming field->vY
open Go.IntKind renaming i64->ae
open Go.Lib renaming hid->aa
open Go.Obj renaming cells->au
open Go.Proofs.Tryz renaming prog->ai,results131->KE,underlying34->sD,underlying3->sA
open Go.RowKit.Below renaming heap_setCell->cH,refl->aD
open Go.Value renaming agg->aq,int->af,okWide->sJ,pointer->az,slice->ag,string->ah,tuple->bD
open Go.Value.slice renaming injEq->bU
open Go.World renaming cell?_of_block->dc,cells?_some->Kj,drew->q1,frozen?_of_block->kG,setCell->ef
open Go.World.grownBy renaming refl->kC
open List renaming flatMap_cons->fH,getElem?_cons_succ->bQ,getElem?_cons_zero->bc,getElem?_eq_getElem->aE,getElem?_toArray->bw,length_cons->bF,take_succ_cons->fl
open Nat renaming add_assoc->bP,add_zero->dz,le_refl->kI,lt_of_lt_of_le->bK,zero_le->aW,zero_mul->Kg
open Option.some renaming injEq->aC,inj->aU
set_option maxRecDepth 100000
set_option maxHeartbeats 4000000
namespace Go.Proofs.YtdplggpbgommnaaGreatDoor
open Go.RowKit
abbrev tK:=List cU×ByteArray×Int×Int
def mJ(s:ByteArray):Nat->Nat->Nat->List cU->tK
 |0,start,_,l=>(l,s.extract start s.size,0,0)
 |f+1,start,i,l=>
  if i<s.size then
   if Kh (bt s i)=true then mJ s f start (i+1) l
   else if(dO (s.extract i s.size)).2.2=0 then
    mJ s f (i+(dO (s.extract i s.size)).2.1.toNat) (i+(dO (s.extract i s.size)).2.1.toNat) (l++[⟨(dO (s.extract i s.size)).1,s.extract start i,s.extract i (i+(dO (s.extract i s.size)).2.1.toNat)⟩])
   else([],⟨#[]⟩,ae.wrap ((i:Int)+(dO (s.extract i s.size)).2.1),(dO (s.extract i s.size)).2.2)
  else(l,s.extract start s.size,0,0)
def oT(s:ByteArray):tK:=mJ s (s.size+1) 0 0 []
def DZ(h:Hp)(w:World)(R:tK)(e:Ending)(w':World):Prop:=
 ∃v,e= .returned (bD #[v,ah R.2.1,af ae R.2.2.1,af ae R.2.2.2])/\∃h',St w.heap.size h w h' w'/\Sl h' v R.1.length 3 (R.1.flatMap ir)/\∃a c,v=ag a R.1.length c/\R.1.length<=c
theorem Ow.cap{w:World}{h:Hp}{B k n c:Nat}{e:TypeId}{a:Option Addr}{xs:List Value}(o:Ow w h B e k (ag a n c) n xs):n<=c:=by
 rcases o.row.2 with⟨O,_⟩|⟨g',G,J,e',Y,ab,aj,_⟩;·omega
 ·simp only[bU,true_and]at e';omega
theorem D0(l:List cU):(l.flatMap ir).length=l.length*3:=by
 induction l with
 |nil=>rfl
 |cons a l G=>rw[fH,List.length_append,G,bF];simp[ir];omega
theorem D1(h:Hp)(w:World)(aL:ao h w)(s:ByteArray)(hs:s.size<=4096)(hc:∀i,i<s.size->bt s i≠35):Calls ai 43 #[ah s] w (DZ h w (oT s)):=by
 generalize hR:oT s=R;have aS:=aa hR;have aP:=aa hc;have aQ:=aa aL;clear hR hc aL;have g0:decide (4096<s.size)=false:=by simp;omega
 have ba:¬4096<s.size:=by omega
 go_in;go_wp2_with fail;go_step3;go_wp2_with fail;go_step3;go_wp2_with fail;go_loopw[2,6,7] (fun v st i wr=>∃(a n:Nat) (l:List cU) (f:Nat),a<=n/\n<=s.size/\st=af ae a/\i=af ae n/\s.size-n<f/\Hid (mJ s f a n l=R)/\l.length<=n/\St w.heap.size h w h wr/\Ow wr h w.heap.size 95 3 v l.length (l.flatMap ir)) (fun _ _ i _=>s.size-(intOf i).toNat);case atStart=>exact⟨0,0,[],s.size+1,kI _,aW _,rfl,rfl,by omega,aS,aW _,St.refl aQ.out,Ow.nil _ _ _ _ _⟩
 case round=>
  obtain⟨a,n,l,f,bg,hn,rfl,rfl,hf,aG,bp,S,aj⟩:=hrel;obtain⟨av,aB,rfl⟩:=aj.shape;obtain⟨f,rfl⟩:∃k,f=k+1:=⟨f-1,by omega⟩
  have Y:=aa S;have O:=aa aj
  have G:Hid ((if n<s.size then
   if Kh (bt s n)=true then mJ s f a (n+1) l
   else if(dO (s.extract n s.size)).2.2=0 then
    mJ s f (n+(dO (s.extract n s.size)).2.1.toNat) (n+(dO (s.extract n s.size)).2.1.toNat) (l++[⟨(dO (s.extract n s.size)).1,s.extract a n,s.extract n (n+(dO (s.extract n s.size)).2.1.toNat)⟩])
   else([],⟨#[]⟩,ae.wrap ((n:Int)+(dO (s.extract n s.size)).2.1),(dO (s.extract n s.size)).2.2)
   else(l,s.extract a s.size,0,0))=R):=aG.out
  clear aG S aj;by_cases J:n<s.size
  ·have bz:(0:Int)<=(n:Int):=by omega
   have bB:(n:Int)<(s.size:Int):=by omega
   have bC:(n:Int)<=(s.size:Int):=by omega
   have a9:((s[n]'J).toNat:Int)=bt s n:=ei J;have hz:(s.extract n s.size).size=s.size-n:=by rw[extract_size];omega
   have a3:=aP.out n J;have bq:(bt s n==35)=false:=by simpa using a3
   generalize aM:Kh (bt s n)=a8 at*;have aT:=aa aM;clear aM;go_wp2_with fail;refine(wZ _ _).mono ?_;rintro e w1 ⟨rfl,rfl⟩;rw[aT.out];cases a8
   ·go_wp2_with fail;refine(xz _ _ (by omega) (by omega)).mono ?_;rintro e w1 ⟨rfl,rfl⟩;have am:=DY (s.extract n s.size) (by omega);generalize a2:dO (s.extract n s.size)=t at*;obtain⟨ax,tn,te⟩:=t;by_cases he:te=0
    ·subst he;have aJ:=am rfl;dsimp only at aJ;obtain⟨m,rfl⟩:∃m:Nat,tn=(m:Int):=⟨tn.toNat,by omega⟩
     have hm:1<=m/\n+m<=s.size:=by omega
     have bE:(n:Int)+(m:Int)<=(s.size:Int):=by omega
     have bG:(n:Int)<=(n:Int)+(m:Int):=by omega
     have a4:(0:Int)<=(a:Int):=by omega
     have a5:(a:Int)<=(n:Int):=by omega
     have bv:ae.wrap ((n:Int)+(m:Int))=(n:Int)+(m:Int):=bA (by omega);have a1:(l.length+1)*40<=140737488355328:=by omega
     have ab:Hid (mJ s f (n+m) (n+m) (l++[⟨ax,s.extract a n,s.extract n (n+m)⟩])=R):=by have:=G.out;rw[if_pos J,if_neg (by simp),if_pos rfl]at this;exact this
     clear G am aJ a2;go_wp2_with fail;go_region_law(first|(refine gS xk (by rfl) _ _ (by rfl) ((Y.out.alloc _).drewN _) _ l.length (l.flatMap ir) (by rfl) ((Ow.alloc O.out _).drewN _) ⟨wr.heap.size,0,none⟩ 1 1 [af ae ax,ah (s.extract a n),ah (s.extract n (n+m))] (by rfl) (by rfl) (cK _ _ _ _ (by simp)) (cm _ rfl) (by omega) a1 ?_;intro bd cg bH aO aN aZ aY;have aX:=aa aO;have aV:=aa aN;clear aO aN aZ aY))
     all_goals
      go_wp2_with fail;go_roundw;case rel=>exact⟨n+m,n+m,l++[⟨ax,s.extract a n,s.extract n (n+m)⟩],f,kI _,by omega,by go_num,by go_num,by omega,ab,by simp;omega,aX.out,by simpa[ir]using aV.out⟩
      case measure=>simp[intOf];omega
    ·have ak:R=([],⟨#[]⟩,ae.wrap ((n:Int)+tn),te):=by have:=G.out;rw[if_pos J,if_neg (by simp),if_neg he]at this;exact this.symm
     have bm:(te !=0)=true:=by simpa using he
     subst ak;clear G am;go_wp2_with fail;refine aF (v:=bD #[ag none 0 0,ah ⟨#[]⟩,af ae (ae.wrap ((n:Int)+tn)),af ae te]) (by simp[aH,Tryz.results43,go_sem,wrap64,IntKind.wrap_i64]) rfl ?_;exact⟨_,rfl,h,Y.out,Sl.nil _ _ _ _,none,0,rfl,aW _⟩
   ·have ab:Hid (mJ s f a (n+1) l=R):=by have:=G.out;rw[if_pos J,if_pos rfl]at this;exact this
    clear G;go_wp2_with fail;go_roundw;case rel=>exact⟨a,n+1,l,f,by omega,by omega,rfl,by go_num,by omega,ab,by omega,Y.out,O.out⟩
    case measure=>simp[intOf];omega
  ·have ak:R=(l,s.extract a s.size,0,0):=by have:=G.out;rw[if_neg J]at this;exact this.symm
   have a4:(0:Int)<=(a:Int):=by omega
   have a5:(a:Int)<=(s.size:Int):=by omega
   subst ak;clear G;go_wp2_with fail;go_region_law(fail)
   all_goals
    go_wp2_with fail;refine aF (v:=bD #[ag av l.length aB,ah (s.extract a s.size),af ae 0,af ae 0]) (by simp[aH,Tryz.results43,go_sem]) rfl ?_;exact⟨_,rfl,_,(Y.out.drewN _).fr,(O.out.drewN _).sl (by omega),av,aB,rfl,O.out.cap⟩
theorem Has.hU{w:World}{b:Nat}{c:Array Value}(x:Has w b c)(i:Nat)(G:i<c.size)(v:Value):Has (w.setCell ⟨b,i,none⟩ v) b (c.setIfInBounds i v):=by
 refine⟨by simpa[ef]using x.lt,fun o=> ?_,fun o=>by have:=x.fz o;simp[this]⟩;by_cases e:o=i;·subst e;rw[World.cell?_setCell_same _ _ _ ((x.cl o).trans (Array.getElem?_eq_getElem G))];simp[G]
 ·rw[World.cell?_setCell_other _ _ _ _ (by simp),x.cl o];rw[Array.getElem?_setIfInBounds_ne (fun h=>e h.symm)]
structure bJ(h:Hp)(w:World)(p:Nat)(ts:List cU):Prop where
 no:h p=none
 row:∃(a:Option Addr) (c:Nat) (off sz at':Int),Has w p #[ag a ts.length c,af ae off,af ae sz,af ae 0,af ae at']/\ts.length<=c/\Sl h (ag a ts.length c) ts.length 3 (ts.flatMap ir)
structure bB(p:Nat)(h:Hp)(w:World)(h':Hp)(w':World):Prop where
 gr:w.grownBy w' (some p)
 I:ao h' w'
 le:h.le h'
 aI:∀b,b<w.heap.size->h' b=h b
section
variable {p:Nat} {h h1 h2:Hp} {w w1 w2:World} {ts:List cU}
theorem bB.refl(G:ao h w):bB p h w h w:=⟨kC _ _,G,Hp.le_refl _,fun _ _=>rfl⟩
theorem bB.call(s:bB p h w h1 w1)(t:bB p h1 w1 h2 w2):bB p h w h2 w2:=
 ⟨kc s.gr t.gr (fun _k J=> .inl J),t.I,Hp.le_trans s.le t.le,fun b G=>(t.aI b (bK G s.gr.size)).trans (s.aI b G)⟩
theorem bB.alloc(s:bB p h w h1 w1)(o:Obj):bB p h w h1 (w1.alloc o):=⟨mD s.gr o,s.I.alloc o,s.le,s.aI⟩
theorem bB.drewN(s:bB p h w h1 w1)(n:Nat):bB p h w h1 (w1.drewN n):=⟨⟨s.gr.os,s.gr.tape,s.gr.output,s.gr.size,s.gr.block⟩,s.I,s.le,s.aI⟩
theorem bB.drew(s:bB p h w h1 w1):bB p h w h1 w1.drew:=⟨⟨s.gr.os,s.gr.tape,s.gr.output,s.gr.size,s.gr.block⟩,s.I,s.le,s.aI⟩
theorem bB.set(s:bB p h w h1 w1){q:Addr}(G:w.heap.size<=q.block\/q.block=p)(hn:h1 q.block=none)(v:Value):bB p h w h1 (w1.setCell q v):=
 ⟨pJ s.gr (by rcases G with G|G;exact .inr G;exact .inl (by rw[G])) v,s.I.keep fun b c hc=>cH _ _ _ _ (fun e=>by subst e;rw[hn]at hc;cases hc),s.le,s.aI⟩
theorem bB.size(s:bB p h w h1 w1):w.heap.size<=w1.heap.size:=s.gr.size
theorem bB.below(J:ao h w)(G:Below w.heap.size w w1):bB p h w h w1:=
 ⟨⟨G.os,G.tape,G.output,G.size,fun b O _=>G.block b O⟩,J.below G,Hp.le_refl _,fun _ _=>rfl⟩
theorem bB.add(s:bB p h w h1 w1){b:Nat}{c:Array Value}(J:w.heap.size<=b)(hn:h1 b=none)(hc:bi w1 b=some c):bB p h w (h1.add b c) w1:=
 ⟨s.gr,s.I.add hc,Hp.le_trans s.le (Hp.eG _ hn),fun k G=>by unfold Hp.add;rw[if_neg (by omega)];exact s.aI k G⟩
theorem Has.gW{b:Nat}{c:Array Value}(x:Has w b c)(s:bB p h w h1 w1)(G:b≠p):Has w1 b c:=by have e:=s.gr.block b x.lt (fun e=>G (aU e));exact⟨bK x.lt s.gr.size,fun q=>(dc (a:=⟨b,q,none⟩) e).trans (x.cl q),fun q=>(kG (a:=⟨b,q,none⟩) e).trans (x.fz q)⟩
theorem bJ.lt(q:bJ h w p ts):p<w.heap.size:=by obtain⟨_,_,_,_,_,x,_⟩:=q.row;exact x.lt
theorem bJ.keep(q:bJ h w p ts)(G:w1.heap[p]? =w.heap[p]?)(hs:w.heap.size<=w1.heap.size)(O:h.le h1)(hn:h1 p=none):bJ h1 w1 p ts:=by obtain⟨a,c,off,sz,J,x,hc,s⟩:=q.row;exact⟨hn,a,c,off,sz,J,⟨bK x.lt hs,fun o=>(dc (a:=⟨p,o,none⟩) G).trans (x.cl o),fun o=>(kG (a:=⟨p,o,none⟩) G).trans (x.fz o)⟩,hc,s.mono O⟩
theorem bJ.alloc(q:bJ h w p ts)(o:Obj):bJ h (w.alloc o) p ts:=q.keep (Below.heap_alloc _ _ _ q.lt) (by simp) (Hp.le_refl _) q.no
theorem bJ.drewN(q:bJ h w p ts)(n:Nat):bJ h (w.drewN n) p ts:=q.keep rfl (kI _) (Hp.le_refl _) q.no
theorem bJ.drew(q:bJ h w p ts):bJ h w.drew p ts:=q.keep rfl (kI _) (Hp.le_refl _) q.no
theorem bJ.set(q:bJ h w p ts){a:Addr}(ha:a.block≠p)(v:Value):bJ h (w.setCell a v) p ts:=q.keep (cH _ _ _ _ (fun e=>ha e.symm)) (by simp[ef]) (Hp.le_refl _) q.no
theorem bJ.below(q:bJ h w p ts)(G:Below w.heap.size w w1):bJ h w1 p ts:=q.keep (G.block p q.lt) G.size (Hp.le_refl _) q.no
theorem bJ.tok{t:cU}(q:bJ h w p (t::ts))(ak:ao h w):∃(b o c:Nat) (off sz J:Int),Has w p #[ag (some ⟨b,o,none⟩) (ts.length+1) c,af ae off,af ae sz,af ae 0,af ae J]/\ts.length+1<=c/\b<w.heap.size/\b≠p/\w.cell? ⟨b,o,none⟩=some (af ae t.kind)/\w.cell? ⟨b,o+1,none⟩=some (ah t.lead)/\w.cell? ⟨b,o+2,none⟩=some (ah t.text)/\ts.length+1<=140737488355328/\∀a' c',(ts=[]\/a'=some ⟨b,o+3,none⟩)->Sl h (ag a' ts.length c') ts.length 3 (ts.flatMap ir):=by
 obtain⟨a,c,off,sz,J,x,hc,ax,c1,ab,h1,h2,O⟩:=q.row;simp only[bU,bF,true_and]at ab;obtain⟨rfl,rfl⟩:=ab;rcases O with O|⟨b,o,cs,rfl,G,aj⟩;·simp at O
 ·have Y:∀i v,i<(ts.length+1)*3->((t::ts).flatMap ir)[i]? =some v->w.cell? ⟨b,o+i,none⟩=some v:=fun i v am hv=>by rw[pH (ak b cs G),aj i am,hv]
  refine⟨b,o,c,off,sz,J,x,hc,cD (ak b cs G),fun e=>(by rw[e,q.no]at G;cases G),Y 0 _ (by omega) rfl,Y 1 _ (by omega) rfl,Y 2 _ (by omega) rfl,h1,fun a' c' ha=> ?_⟩;rcases ha with rfl|rfl;·exact Sl.nil _ _ _ _
  ·refine⟨_,_,rfl,by(simp only[bF]at h1;omega),D0 ts,.inr ⟨b,o+3,cs,rfl,G,fun i am=> ?_⟩⟩;have:=aj (i+3) (by simp;omega);rw[show o+3+i=o+(i+3) by omega,this,fH,List.getElem?_append_right (by simp[ir])];rfl
end
theorem mU(h:Hp)(w:World)(G:ao h w)(p:Nat)(t:cU)(ts:List cU)(q:bJ h w p (t::ts)):Calls ai 92 #[az (some ⟨p,0,none⟩)] w fun e w'=>e= .returned (aq #[af ae t.kind,ah t.lead,ah t.text])/\Below w.heap.size w w':=by
 obtain⟨b,o,c,off,sz,J,x,hc,O,Y,aj,k1,k2,ab,-⟩:=q.tok G;have aG:=x.lt;have ak:w.cell? ⟨p,0,none⟩=some (ag (some ⟨b,o,none⟩) (ts.length+1) c):=x.cl 0;have am:((ts.length:Int)+1==0)=false:=by simp;omega
 have ax:¬(ts.length:Int)+1=0:=by omega
 have aB:(0:Int)<(ts.length:Int)+1:=by omega
 clear x hc q;go_in;go_wp2_with fail;refine aF (v:=aq #[af ae t.kind,ah t.lead,ah t.text]) (by simp[aH,Tryz.results92,go_sem]) rfl ⟨rfl,?_⟩;exact(aD _ _).alloc (kI _) _
theorem Gt(h:Hp)(w:World)(_hi:ao h w)(p:Nat)(q:bJ h w p []):Calls ai 92 #[az (some ⟨p,0,none⟩)] w fun e w'=>e= .returned (aq #[af ae 0,ah ⟨#[]⟩,ah ⟨#[]⟩])/\Below w.heap.size w w':=by obtain⟨a,c,off,sz,G,x,hc,-⟩:=q.row;have O:=x.lt;have J:w.cell? ⟨p,0,none⟩=some (ag a 0 c):=x.cl 0;clear x hc q;go_in;go_wp2_with fail;refine aF (v:=aq #[af ae 0,ah ⟨#[]⟩,ah ⟨#[]⟩]) (by simp[aH,Tryz.results92,go_sem]) rfl ⟨rfl,?_⟩;exact(aD _ _).alloc (kI _) _
theorem qg(h:Hp)(w:World)(J:ao h w)(p:Nat)(t:cU)(ts:List cU)(q:bJ h w p (t::ts)):Calls ai 131 #[az (some ⟨p,0,none⟩)] w fun e w'=>e= .returned (aq #[af ae t.kind,ah t.lead,ah t.text])/\bB p h w h w'/\bJ h w' p ts:=by
 obtain⟨b,o,c,off,sz,ab,x,hc,aL,aM,aO,k1,k2,aN,Y⟩:=q.tok J;have a4:=x.lt;have aS:w.cell? ⟨p,0,none⟩=some (ag (some ⟨b,o,none⟩) (ts.length+1) c):=x.cl 0;have aT:w.cell? ⟨p,1,none⟩=some (af ae off):=x.cl 1;have aV:w.cell? ⟨p,2,none⟩=some (af ae sz):=x.cl 2;have aG:=x.fz 0;have aJ:=x.fz 1;have X:=aa x;have Q:=aa q;have G:=aa J;have aX:(0:Int)<(ts.length:Int)+1:=by omega
 have aY:(1:Int)<=(ts.length:Int)+1:=by omega
 have aZ:(ts.length:Int)+1<=(c:Int):=by omega
 have a1:(1:Int)<=(c:Int):=by omega
 clear x q J;cases ts with
 |nil=>
  have E:Hid (∀(a':Option Addr) (c':Nat),Sl h (ag a' 0 c') 0 3 []):=fun a' c'=>Sl.nil _ _ _ _;simp only[List.length_nil]at*;by_cases ax:c=1
  all_goals
   go_in;go_wp2_with fail;refine aF (v:=aq #[af ae t.kind,ah t.lead,ah t.text]) (by simp[aH,KE,go_sem]) rfl ⟨rfl,?_,?_⟩;·exact((((bB.refl G.out).set (q:=⟨p,0,none⟩) (.inr rfl) Q.out.no _).set (q:=⟨p,1,none⟩) (.inr rfl) Q.out.no _).alloc _).alloc _
   ·exact⟨Q.out.no,_,_,sz,sz,ab,((((X.out.hU 0 (by simp) _).hU 1 (by simp) _).alloc _).alloc _),by simp,E.out _ _⟩
 |cons aB r=>
  have O:=Y (some ⟨b,o+3,none⟩) (c-1) (.inr rfl);obtain⟨b',aQ,aj,-,ak⟩:=O.cells G.out (by simp);simp only[aC,cx,and_true]at aj;obtain⟨rfl,rfl⟩:=aj;have aP:w.cell? ⟨b,o+3+1,none⟩=some (ah aB.lead):=ak 1 _ rfl;have am:=aa O;simp only[bF]at*;have ax:¬c=1:=by omega
  have a2:¬((r.length:Int)+1=0):=by omega
  have a3:(0:Int)<(r.length:Int)+1:=by omega
  clear ak O Y;go_in;go_wp2_with fail;refine wp_region_still_tail 19 (by kernel_rfl) (by kernel_rfl) ?_;simp only[fl,List.take_zero,List.drop_succ_cons,List.drop_zero];change wpStill _ _ (q1 _) (fun a'=>wpList _ _ _ _ a' (q1 _)) _ _;repeat still_step
  refine wpStill_nil ?_;go_wp2_with fail;refine aF (v:=aq #[af ae t.kind,ah t.lead,ah t.text]) (by simp[aH,KE,go_sem]) rfl ⟨rfl,?_,?_⟩;·exact(((((bB.refl G.out).set (q:=⟨p,0,none⟩) (.inr rfl) Q.out.no _).set (q:=⟨p,1,none⟩) (.inr rfl) Q.out.no _).alloc _).alloc _).drew
  ·exact⟨Q.out.no,some ⟨b,o+3,none⟩,c-1,_,sz,ab,(((((X.out.hU 0 (by simp) _).hU 1 (by simp) _).alloc _).alloc _).drew),by simp;omega,am.out⟩
theorem rO(k:Int)(l t:ByteArray)(w:World):(vY 95 (aq #[af ae k,ah l,ah t]) 0).run ai w= .ok (af ae k) w:=by kernel_rfl
theorem rP(k:Int)(l t:ByteArray)(w:World):(vY 95 (aq #[af ae k,ah l,ah t]) 1).run ai w= .ok (ah l) w:=by kernel_rfl
theorem nX(k:Int)(l t:ByteArray)(w:World):(vY 95 (aq #[af ae k,ah l,ah t]) 2).run ai w= .ok (ah t) w:=by kernel_rfl
theorem o3(h:Hp)(w:World)(O:ao h w)(p:Nat)(t:cU)(ts:List cU)(q:bJ h w p (t::ts))(s:ByteArray)(hs:t.text=s):Calls ai 90 #[az (some ⟨p,0,none⟩),ah s] w fun e w'=>e= .returned (ah t.lead)/\bB p h w h w'/\bJ h w' p ts:=by
 have J:=aa O;have Q:=aa q;have g:(t.text.toList !=s.toList)=false:=by rw[hs];simp
 have g':(s.toList !=s.toList)=false:=by simp
 have aG:=rO;have aJ:=rP;have aL:=nX;clear O q;go_in;go_wp2_with fail;refine(mU h _ J.out p t ts Q.out).mono ?_;rintro e w1 ⟨rfl,G⟩;have aj:=aa (J.out.below G);have ak:=aa (Q.out.below G);have ax:Hid (bB p h w h w1):=bB.below J.out G;clear G;go_wp2_with fail;refine(qg h _ aj.out p t ts ak.out).mono ?_;rintro e w2 ⟨rfl,ab,Y⟩;have aB:=aa (ax.out.call ab);have am:=aa Y;clear ab Y;go_wp2_with fail;go_ret;exact⟨rfl,aB.out,am.out⟩
theorem zj(h:Hp)(w:World)(O:ao h w)(p:Nat)(t:cU)(ts:List cU)(q:bJ h w p (t::ts))(k o:Int)(aG:t.kind=k)(aJ:k≠0):Calls ai 91 #[az (some ⟨p,0,none⟩),af ae k,af ae o] w fun e w'=>e= .returned (bD #[ah t.text,ah t.lead])/\bB p h w h w'/\bJ h w' p ts:=by
 have J:=aa O;have Q:=aa q;subst aG;have g:(t.kind==0)=false:=by simpa using aJ
 have g':(t.kind !=t.kind)=false:=by simp
 have aL:=rO;have aM:=rP;have aN:=nX;clear O q;go_in;go_wp2_with fail;refine(mU h _ J.out p t ts Q.out).mono ?_;rintro e w1 ⟨rfl,G⟩;have aj:=aa (J.out.below G);have ak:=aa (Q.out.below G);have ax:Hid (bB p h w h w1):=bB.below J.out G;clear G;go_wp2_with fail;refine(qg h _ aj.out p t ts ak.out).mono ?_;rintro e w2 ⟨rfl,ab,Y⟩;have aB:=aa (ax.out.call ab);have am:=aa Y;clear ab Y;go_wp2_with fail;go_quiet(fail);go_wp2_with fail;go_ret2;exact⟨rfl,(aB.out.alloc _).drewN _,(am.out.alloc _).drewN _⟩
theorem bJ.add{h:Hp}{w:World}{p:Nat}{ts:List cU}(q:bJ h w p ts){b:Nat}(c:Array Value)(G:b≠p)(hn:h b=none):bJ (h.add b c) w p ts:=
 q.keep rfl (kI _) (Hp.eG _ hn) (by unfold Hp.add;rw[if_neg (fun e=>G e.symm)];exact q.no)
theorem Has.zk{w:World}{b:Nat}{a0 Y ab aj:Value}(x:Has w b #[a0,Y,ab,aj])(v0 G J O:Value)(o:Obj):
  ((((((w.setCell ⟨b,0,none⟩ v0).setCell ⟨b,1,none⟩ G).setCell ⟨b,2,none⟩ J).setCell ⟨b,3,none⟩ O).alloc o).cell? ⟨b,0,none⟩=some v0/\(((((w.setCell ⟨b,0,none⟩ v0).setCell ⟨b,1,none⟩ G).setCell ⟨b,2,none⟩ J).setCell ⟨b,3,none⟩ O).alloc o).cell? ⟨b,1,none⟩=some G/\
   (((((w.setCell ⟨b,0,none⟩ v0).setCell ⟨b,1,none⟩ G).setCell ⟨b,2,none⟩ J).setCell ⟨b,3,none⟩ O).alloc o).cell? ⟨b,2,none⟩=some J/\(((((w.setCell ⟨b,0,none⟩ v0).setCell ⟨b,1,none⟩ G).setCell ⟨b,2,none⟩ J).setCell ⟨b,3,none⟩ O).alloc o).cell? ⟨b,3,none⟩=some O):=by
 have y:=((((x.hU 0 (by simp) v0).hU 1 (by simp) G).hU 2 (by simp) J).hU 3 (by simp) O).alloc o;exact⟨y.cl 0,y.cl 1,y.cl 2,y.cl 3⟩
theorem zm{p b:Nat}{h h1:Hp}{w w2:World}{ts:List cU}(S:bB p h w h1 w2)(Q:bJ h1 w2 p ts)(G:w.heap.size<=b)(hn:h1 b=none)(J:b≠p)(_hbl:b<w2.heap.size)(k:Int)(ak:aG k)(s lead:ByteArray)(T:TypeId):bB p h w (h1.add w2.heap.size #[ah lead]) (((((w2.setCell ⟨b,0,none⟩ (af ae k)).setCell ⟨b,1,none⟩ (ah s)).setCell ⟨b,2,none⟩ (ag (some ⟨w2.heap.size,0,none⟩) 1 1)).setCell ⟨b,3,none⟩ (ag none 0 0)).alloc (au #[ah lead] T))/\bJ (h1.add w2.heap.size #[ah lead]) (((((w2.setCell ⟨b,0,none⟩ (af ae k)).setCell ⟨b,1,none⟩ (ah s)).setCell ⟨b,2,none⟩ (ag (some ⟨w2.heap.size,0,none⟩) 1 1)).setCell ⟨b,3,none⟩ (ag none 0 0)).alloc (au #[ah lead] T)) p ts/\aP (h1.add w2.heap.size #[ah lead]) (aq #[af ae k,ah s,ag (some ⟨w2.heap.size,0,none⟩) 1 1,ag none 0 0]) (.node k s [lead] []):=by
 have O:h1 w2.heap.size=none:=bI S.I _ (kI _);have hz:((((w2.setCell ⟨b,0,none⟩ (af ae k)).setCell ⟨b,1,none⟩ (ah s)).setCell ⟨b,2,none⟩ (ag (some ⟨w2.heap.size,0,none⟩) 1 1)).setCell ⟨b,3,none⟩ (ag none 0 0)).heap.size=w2.heap.size:=by simp[ef]
 have ab:=(((S.set (q:=⟨b,0,none⟩) (.inl G) hn (af ae k)).set (q:=⟨b,1,none⟩) (.inl G) hn (ah s)).set (q:=⟨b,2,none⟩) (.inl G) hn (ag (some ⟨w2.heap.size,0,none⟩) 1 1)).set (q:=⟨b,3,none⟩) (.inl G) hn (ag none 0 0);have Y:=(((Q.set (a:=⟨b,0,none⟩) J (af ae k)).set (a:=⟨b,1,none⟩) J (ah s)).set (a:=⟨b,2,none⟩) J (ag (some ⟨w2.heap.size,0,none⟩) 1 1)).set (a:=⟨b,3,none⟩) J (ag none 0 0);generalize(((w2.setCell ⟨b,0,none⟩ (af ae k)).setCell ⟨b,1,none⟩ (ah s)).setCell ⟨b,2,none⟩ (ag (some ⟨w2.heap.size,0,none⟩) 1 1)).setCell ⟨b,3,none⟩ (ag none 0 0)=w3 at*;rw[<-hz]at O⊢;have am:=Y.lt;refine⟨(ab.alloc _).add ab.size O (by unfold bi;rw[heap_alloc_new]),(Y.alloc _).add _ (by omega) O,?_⟩;refine⟨_,rfl,?_⟩;rw[bg];refine⟨_,_,_,_,[],rfl,ak,⟨_,_,rfl,by simp,rfl,.inr ⟨w3.heap.size,0,#[ah lead],rfl,by unfold Hp.add;rw[if_pos rfl],fun i aj=> ?_⟩⟩,Sl.nil _ _ _ _,by rw[eH]⟩;have:i=0:=by simp at aj;omega
 subst this;rfl
theorem Gu(h:Hp)(w:World)(ab:ao h w)(p:Nat)(t:cU)(ts:List cU)(q:bJ h w p (t::ts))(aO:t.text=⟨#[73,110,116]⟩):Calls ai 133 #[az (some ⟨p,0,none⟩)] w fun e w'=>∃v,e= .returned v/\∃h',bB p h w h' w'/\bJ h' w' p ts/\aP h' v (.node 5 ⟨#[]⟩ [t.lead] []):=by
 have J:=aa ab;have Q:=aa q;have ak:w.heap.size≠p:=by have:=q.lt;omega
 have aT:=rO;have aV:=rP;have aX:=nX;clear ab q;go_in;go_wp2_with fail;refine(mU h _ (J.out.alloc _) p t ts (Q.out.alloc _)).mono ?_;rintro e w1 ⟨rfl,O⟩;have aM:Hid (Has w1 w.heap.size #[af ae 0,ah ⟨#[]⟩,ag none 0 0,ag none 0 0]):=(Has.new _ _ _).below O;have am:=aa ((J.out.alloc (au #[af ae 0,ah ⟨#[]⟩,ag none 0 0,ag none 0 0] 26)).below O);have ax:=aa ((Q.out.alloc (au #[af ae 0,ah ⟨#[]⟩,ag none 0 0,ag none 0 0] 26)).below O);have aJ:Hid (bB p h w h w1):=((bB.refl J.out).alloc _).call (bB.below (J.out.alloc _) O);rw[aO];clear O;go_wp2_with fail;refine(qg h _ am.out p t ts ax.out).mono ?_;rintro e w2 ⟨rfl,Y,aj⟩;have G:=aa (aM.out.gW Y ak);have aL:=aa (aJ.out.call Y);have aB:=aa aj;clear Y aj;have aN:=G.out.cl 0;have c1:=G.out.cl 1;have c2:=G.out.cl 2;have c3:=G.out.cl 3;have aY:=G.out.fz 0;have aZ:=G.out.fz 1;have a1:=G.out.fz 2;have a2:=G.out.fz 3;have aS:=G.out.lt;simp only[bw,bc,bQ]at aN c1 c2 c3;go_wp2_with fail;obtain⟨aQ,k1,k2,k3⟩:=G.out.zk (af ae 5) (ah ⟨#[]⟩) (ag (some ⟨w2.heap.size,0,none⟩) 1 1) (ag none 0 0) (au #[ah t.lead] 9);refine aF (v:=aq #[af ae 5,ah ⟨#[]⟩,ag (some ⟨w2.heap.size,0,none⟩) 1 1,ag none 0 0]) (by simp[aH,Tryz.results133,go_sem,aQ,k1,k2,k3]) rfl ⟨_,rfl,_,zm aL.out aB.out (kI _) (bI J.out _ (kI _)) ak aS 5 (by unfold aG;omega) ⟨#[]⟩ t.lead _⟩
theorem uO(h:Hp)(w:World)(aj:ao h w)(p:Nat)(t:cU)(ts:List cU)(q:bJ h w p (t::ts))(aQ:t.kind=5)(a4:(t.text.toList==[116,114,117,101])=false)(a5:(t.text.toList==[102,97,108,115,101])=false)(a8:(t.text.toList==[63])=false)(a9:(t.text.toList==[91])=false)(ba:(t.text.toList==[40])=false):Calls ai 180 #[az (some ⟨p,0,none⟩)] w fun e w'=>∃v,e= .returned v/\∃h',bB p h w h' w'/\bJ h' w' p ts/\aP h' v (.node 10 t.text [t.lead] []):=by
 have J:=aa aj;have Q:=aa q;have am:w.heap.size≠p:=by have:=q.lt;omega
 have aV:=rO;have aX:=rP;have aY:=nX;clear aj q;go_in;go_wp2_with fail;refine(mU h _ (J.out.alloc _) p t ts (Q.out.alloc _)).mono ?_;rintro e w1 ⟨rfl,O⟩;have aN:Hid (Has w1 w.heap.size #[af ae 0,ah ⟨#[]⟩,ag none 0 0,ag none 0 0]):=(Has.new _ _ _).below O;have ax:=aa ((J.out.alloc (au #[af ae 0,ah ⟨#[]⟩,ag none 0 0,ag none 0 0] 26)).below O);have aB:=aa ((Q.out.alloc (au #[af ae 0,ah ⟨#[]⟩,ag none 0 0,ag none 0 0] 26)).below O);have aL:Hid (bB p h w h w1):=((bB.refl J.out).alloc _).call (bB.below (J.out.alloc _) O);rw[aQ];clear O;have Y:=aa ((aN.out.alloc (au #[af ae 5,ah t.lead,ah t.text] 95)));go_wp2_with fail;go_quiet(fail);go_wp2_with fail;refine(qg h _ ((ax.out.alloc _).drewN _) p t ts ((aB.out.alloc _).drewN _)).mono ?_;rintro e w2 ⟨rfl,ab,ak⟩;have G:Hid (Has w2 w.heap.size #[af ae 0,ah ⟨#[]⟩,ag none 0 0,ag none 0 0]):=Has.gW (w:=(w1.alloc (au #[af ae 5,ah t.lead,ah t.text] 95)).drewN _) ⟨Y.out.lt,Y.out.cl,Y.out.fz⟩ ab am;have aM:=aa (((aL.out.alloc _).drewN _).call ab);have aJ:=aa ak;clear ab ak;have aO:=G.out.cl 0;have c1:=G.out.cl 1;have c2:=G.out.cl 2;have c3:=G.out.cl 3;have aZ:=G.out.fz 0;have a1:=G.out.fz 1;have a2:=G.out.fz 2;have a3:=G.out.fz 3;have aT:=G.out.lt;simp only[bw,bc,bQ]at aO c1 c2 c3;go_wp2_with fail;obtain⟨aS,k1,k2,k3⟩:=G.out.zk (af ae 10) (ah t.text) (ag (some ⟨w2.heap.size,0,none⟩) 1 1) (ag none 0 0) (au #[ah t.lead] 9);refine aF (v:=aq #[af ae 10,ah t.text,ag (some ⟨w2.heap.size,0,none⟩) 1 1,ag none 0 0]) (by simp[aH,Tryz.results180,go_sem,aS,k1,k2,k3]) rfl ⟨_,rfl,_,zm aM.out aJ.out (kI _) (bI J.out _ (kI _)) am aT 10 (by unfold aG;omega) t.text t.lead _⟩
mutual
def Tree.depth:Tree->Nat
 | .node _ _ _ ks=>hC ks+1
def hC:List Tree->Nat
 |[]=>0
 |t::ts=>max t.depth (hC ts)
end
theorem DF(ts:List Tree)(t:Tree):hC (ts++[t])=max (hC ts) t.depth:=by
 induction ts with
 |nil=>simp[hC]
 |cons a ts G=>simp only[List.cons_append,hC,G];omega
theorem DG(ts:List Tree)(j:Nat)(h:j<ts.length):hC (ts.take (j+1))=max (hC (ts.take j)) ts[j].depth:=by rw[<-DF,List.take_succ_eq_append_getElem h]
theorem Tree.DH(t:Tree):t.depth=hC t.kids+1:=by cases t;rw[Tree.depth];rfl
theorem xl(ts:List Tree)(j:Nat):hC (ts.take j)<=hC ts:=by
 induction ts generalizing j with
 |nil=>simp
 |cons a ts G=>
  cases j with
  |zero=>simp[hC]
  |succ j=>simp only[fl,hC];have:=G j;omega
theorem DI(n:Nat):∀(h:Hp) (w:World) (_:ao h w) (v:Value) (t:Tree) (_:aP h v t) (_:t.size<=n) (_:t.depth<=1000000000),Calls ai 45 #[v] w fun e w'=>e= .returned (af ae t.depth)/\Below w.heap.size w w':=by
 induction n with
 |zero=>intro h w ab v t J hn;cases t;simp[Tree.size]at hn
 |succ n ak=>
  intro h w ab v t J hn aG;obtain⟨al,aQ,aL,ck,xs,rfl,aY,a1,aZ,aJ,Y,he⟩:=J.open;have hz:=Tree.size_eq t;have hd:=Tree.DH t;have am:=aa hd;rw[hz]at hn;rw[hd]at aG;have ax:=aa ak;clear ak J hz hd;go_in;go_wp2_with fail;go_loopw[3,9] (fun c i wr=>∃j:Nat,j<=t.kids.length/\i=af ae j/\c=af ae (hC (t.kids.take j))/\Below w.heap.size w wr) (fun _ i _=>t.kids.length-(intOf i).toNat);case atStart=>exact⟨0,aW _,rfl,by simp[hC],(aD _ _).alloc (kI _) _⟩
  case round=>
   obtain⟨j,hj,rfl,rfl,G⟩:=hrel;have aJ:=xl t.kids j;by_cases O:j<t.kids.length
   ·have aj:=ab.below G;obtain⟨b,off,aN,aS,aM,aO,rfl,-,d0,aT,aV,aX,J⟩:=j9 Y he aj j O;have hs:=aa (DG t.kids j O);have a3:=eY t.kids j O;have a2:=jK t.kids (j+1);have Y:=xl t.kids (j+1);rw[hs.out]at Y;go_wp2_with fail;refine(ax.out h _ ?_ _ _ J (by omega) (by omega)).mono ?_;·exact aj.alloc _
    ·rintro e w1 ⟨rfl,aB⟩;go_wp2_with fail;go_roundw;case rel=>exact⟨j+1,by omega,by go_num,by rw[hs.out];simp;first|omega|(split<;>omega),(G.alloc G.size _).trans (aB.mono (by have:=G.size;simp;omega))⟩
     case measure=>simp[intOf];omega
   ·go_wp2_with fail;go_ret;have:t.kids.take j=t.kids:=List.take_of_length_le (by omega);exact⟨by rw[am.out,this];simp;try omega,G⟩
open Go.RowKit Go.ChangeShapes Go.WideShapes
set_option maxRecDepth 100000
theorem EH:laidOutB ai=true:=by kernel_rfl
theorem EI:ownKnob ai.godebug=none:=by kernel_rfl
section
variable {H:Type} {enc:TypeId×Value->H} {W:World} {r:Reach} {base:Nat} {v:Value} {d:DataW H} {p:List MemPlace}
theorem EJ{t e:TypeId}(G:ai.underlying t=some (.slice e))(hv:sJ ai W r base t v){a:Option Addr}{n c:Nat}(hc:v.cells.toList=[ag a n c]):v=ag a n c:=by
 cases v with
 |agg cs=>unfold sJ at hv;rw[G]at hv;simp[Cell.okWide,Cell.ok,G]at hv
 |tuple cs=>unfold sJ at hv;rw[G]at hv;simp[Cell.okWide,Cell.ok,G]at hv
 |_=>simp_all[Value.cells]
theorem LC(hv:sJ ai W r base 3 v)(h:DataW.Trod enc ai W 0 (fun _=>true) true 3 v d p):∃n,v=af ae n/\aG n:=by obtain⟨n,rfl,_,_,w⟩:=open_int sA hv h;exact⟨n,rfl,Ez w⟩
end
open Go.RowKit Go.ChangeShapes Go.WideShapes
set_option maxRecDepth 100000
section
variable {H:Type} {enc:TypeId×Value->H} {w:World} {sp:Nat->Bool} {held:Bool}
theorem EK{α:Type}{t e:TypeId}{k aM:Nat}{cs:List Value}{x:DataW H×List MemPlace}(aX:ai.underlying t=some (.slice e))(aP:ai.cellsOf e=k)(aB:0<k)(R:α->List Value->Prop)(hR:∀n cs x,vU enc ai w 0 sp held n e cs=some x->∃y,R y cs/\cs.length=k)(h:vU enc ai w 0 sp held aM t cs=some x):∃(a:Option Addr) (n G:Nat),cs=[ag a n G]/\n<=G/\G<=9223372036854775807/\(n<=140737488355328->∃(l:List α) (xs:List Value),l.length=n/\Sl (bi w) (ag a n G) n k xs/\aJ R l xs):=by
 rcases DataW.trod_slice aX h with⟨rfl,rfl⟩|⟨a,len,G,elems,rest,n,hn,rfl,rfl,a2,aS,hm,aT,ax,_,_⟩;·exact⟨none,0,0,rfl,kI _,by omega,fun _=>⟨[],[],rfl,Sl.nil _ _ _ _,rfl⟩⟩
 ·rw[aP]at ax;refine⟨some a,len,G,rfl,aS,by unfold maxLen at hm;omega,fun aV=> ?_⟩;have aG:∀i (O:i<elems.length),∃c,w.cells? 0 (a.add (i*k)) k=some c/\vU enc ai w 0 sp held n e c=some elems[i]:=fun i O=>by have:=ax i (by omega);rw[aE O]at this;obtain⟨c,h1,h2⟩:=Option.bind_eq_some_iff.1 this;exact⟨c,h1,h2⟩
  have am:∀i q,(a.add (i*k)).add q=a.add (i*k+q):=fun i q=>by unfold Addr.add;by_cases h1:i*k=0<;>by_cases h2:q=0<;>simp[h1,h2,bP]
  have aL:0<elems.length->a.spot=none:=fun J=>by obtain⟨c,h1,_⟩:=aG 0 J;obtain⟨_,h2,ab⟩:=Kj h1;have:=ab 0 aB;rw[am]at this;simp only[Kg,dz]at this;rw[aE (by omega)]at this;exact(xW this).1
  have aN:0<elems.length->∀q,a.add q=⟨a.block,a.off+q,none⟩:=fun J q=>by
   have:=aL J;unfold Addr.add;by_cases Y:q=0;·rw[if_pos Y,Y,dz,<-this]
   ·rw[if_neg Y]
  obtain⟨l,xs,h1,h2,ab,ak,a1⟩:=xX (w:=w) R (fun _=>0) k a.block a.off elems 0 (fun i O=>by obtain⟨c,c1,c2⟩:=aG i O;obtain⟨_,c3,c4⟩:=Kj c1;obtain⟨y,aY,aZ⟩:=hR n c _ c2;refine⟨y,c,aY,aZ,fun q Y=> ?_,aW _⟩;rw[<-c4 q Y,am,aN (by omega),Nat.zero_add,bP])
  subst aT;refine⟨l,xs,h1,⟨some a,G,rfl,aV,by rw[ab],?_⟩,h2⟩;rcases Nat.eq_zero_or_pos elems.length with J|J;·left;omega
  ·right;have aO:=aL J;have aQ:0<elems.length*k:=Nat.mul_pos J aB;have ao:=ak 0 aQ;rw[aE (by omega)]at ao;obtain⟨_,c,aj,_⟩:=xW ao;refine⟨a.block,a.off,c,by rw[<-aO],aj,fun i O=> ?_⟩;rw[<-ak i O,Kg,dz,pH aj]
end
section
variable {H:Type} {enc:TypeId×Value->H} {W:World} {r:Reach} {base:Nat} {v:Value} {d:DataW H} {p:List MemPlace}
theorem EL(hv:sJ ai W r base 34 v)(h:DataW.Trod enc ai W 0 (fun _=>true) true 34 v d p):∃a n G,v=ag a n G/\n<=G/\G<=9223372036854775807/\(n<=140737488355328->∃L,L.length=n/\Ints (bi W) (ag a n G) L):=by
 obtain⟨f,hn⟩:=h;obtain⟨a,n,G,h1,h2,ab,aj⟩:=EK sD (k:=1) (by kernel_rfl) (by decide) xY (fun n cs x h=>by obtain⟨z,e,i⟩:=EA sA h;exact⟨z,⟨e,i⟩,by rw[e];rfl⟩) hn
 rw[EJ sD hv h1];refine⟨a,n,G,rfl,h2,ab,fun hs=> ?_⟩;obtain⟨l,xs,J,O,Y⟩:=aj hs;obtain⟨ak,am⟩:=xZ Y;subst ak J;exact⟨l,rfl,O,am⟩
end
end Go.Proofs.YtdplggpbgommnaaGreatDoor
