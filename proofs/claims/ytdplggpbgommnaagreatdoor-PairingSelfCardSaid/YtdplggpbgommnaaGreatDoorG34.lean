/- semvcsref04.Arrange. -/
import Derived.Test.YtdplggpbgommnaaGreatDoorKl
import Derived.Test.YtdplggpbgommnaaGreatDoorG33
open Go renaming bodyPost_ret→aF,results→aH
open Go.Addr.mk renaming injEq→cx
open Go.IntKind renaming i64→ae
open Go.Lib renaming hid→aa
open Go.Proofs.Tryz renaming prog→ai
open Go.Value renaming agg→aq,int→af,slice→ag,string→ah
open List renaming getElem?_eq_getElem→aE,getElem?_map→jB,getElem_mem→aK,length_map→dL,mem_map→b6,mem_or_eq_of_mem_set→qu,nil_append→ji,setIfInBounds_toArray→bh,set_cons_succ→bf,set_cons_zero→be
open List.cons renaming injEq→ii
open Nat renaming le_refl→an,le_succ→my,zero_add→cO,zero_le→aW
open Option.some renaming injEq→aC,inj→aU
set_option maxRecDepth 100000
set_option maxHeartbeats 8000000
namespace Go.Proofs.YtdplggpbgommnaaGreatDoor
open Go.RowKit
def ly:Tree:= .node 0 ⟨#[]⟩ [] []
def A5(t t':Tree):Prop:=(t'.bare=t.bare∧t'.lb)∨t'=ly
def IH(h:Hp)(w:World)(t:Tree)(e:Ending)(w':World):Prop:=∃v' h' t',e= .returned v'∧St w.heap.size h w h' w'∧aP h' v' t'∧A5 t t'
theorem II(h:Hp):aP h (aq #[af ae 0,ah ⟨#[]⟩,ag none 0 0,ag none 0 0]) ly:=gJ h 0 (by unfold aG;omega) ⟨#[]⟩
theorem IJ(t:Tree)(hz:t.size≤100000)(mk:dw t)(h:Hp)(w:World)(a1:ao h w)(v:Value)(aJ:aP h v t):Calls ai 81 #[v] w (IH h w t):=by
 have aM:=aa a1;have aO:=aa aJ;have aN:=aa mk;obtain⟨M,O,G,ck,bN,rfl,-,bJ,bH,bv,bz,bq⟩:=aJ.open;clear a1 aJ mk bv bz bq;have ad:Hid (Has ((w.alloc (.cells #[af ae t.kind,ah t.text,ag M t.leads.length O,ag G t.kids.length ck] 26)).alloc (.cells #[af ae 0,ah ⟨#[]⟩,ag none 0 0,ag none 0 0] 26)) w.heap.size #[af ae t.kind,ah t.text,ag M t.leads.length O,ag G t.kids.length ck]):=(Has.new _ _ _).alloc _;have ab:Hid (Has ((w.alloc (.cells #[af ae t.kind,ah t.text,ag M t.leads.length O,ag G t.kids.length ck] 26)).alloc (.cells #[af ae 0,ah ⟨#[]⟩,ag none 0 0,ag none 0 0] 26)) (w.heap.size+1) #[af ae 0,ah ⟨#[]⟩,ag none 0 0,ag none 0 0]):=Has.kY _ _ _ _;have E:Hid (St w.heap.size h w h ((w.alloc (.cells #[af ae t.kind,ah t.text,ag M t.leads.length O,ag G t.kids.length ck] 26)).alloc (.cells #[af ae 0,ah ⟨#[]⟩,ag none 0 0,ag none 0 0] 26))):=((St.refl aM.out).alloc _).alloc _;have aQ:Hid (h (w.heap.size+1)=none):=bI aM.out _ (by omega);go_enter Tryz.func81,Tryz.ntmps81;go_wp2_with fail;generalize(w.alloc (.cells #[af ae t.kind,ah t.text,ag M t.leads.length O,ag G t.kids.length ck] 26)).alloc (.cells #[af ae 0,ah ⟨#[]⟩,ag none 0 0,ag none 0 0] 26)=w0 at ad ab E⊢;refine(AJ _ t (an _) (.inr aN.out) h _ E.out.I _ aO.out).mono ?_;rintro e w2 ⟨⟨b,rfl,-⟩,b2⟩;have aG:=ad.out.below b2;have A:=aa (ab.out.below b2);have ac:=aa (E.out.same b2);obtain⟨⟨bB,bC,bE,bG⟩,-⟩:=aG.four;obtain⟨⟨r0,aj,ak,am⟩,aT,aV,aX,aY⟩:=A.out.four;have bA:=aG.lt;have a3:=A.out.lt;clear b2 aG;cases b;·clear ad ab E;go_wp2_with fail;refine aF (v:=aq #[af ae 0,ah ⟨#[]⟩,ag none 0 0,ag none 0 0]) (by simp[aH,Tryz.results81,go_sem,r0,aj,ak,am]) rfl ?_;exact⟨_,h,ly,rfl,ac.out.aM (my _) aQ.out _ _ _ _,II h,.inr rfl⟩
 ·go_wp2_with fail;refine(IK t.size hz t (an _) aN.out h w2 ac.out.I _ aO.out ⟨#[]⟩ (by unfold Sh1;decide)).mono ?_;rintro e w3 ⟨bL,aZ,Y,rfl,ax,aL,aS,a2⟩;obtain⟨bg,bp,bd,bm,-,rfl,-,-,-,-,-,-⟩:=aL.open;have aB:=A.out.below ax.below;have a9:=aa (ac.out.call ax);have a8:Hid (aZ (w.heap.size+1)=none):=(ax.aI _ A.out.lt).trans aQ.out;have ba:=aa aL;have a4:=aa aS;have a5:=aa a2;clear ad ab E A ac bB bC bE bG r0 aj ak am aT aV aX aY bA a3 ax aL aS a2;obtain⟨⟨r0,aj,ak,am⟩,aT,aV,aX,aY⟩:=aB.four;have a3:=aB.lt;clear aB;go_wp2_with fail;refine aF (v:=aq #[af ae Y.kind,ah Y.text,ag bg Y.leads.length bp,ag bd Y.kids.length bm]) (by simp[aH,Tryz.results81,go_sem,r0,aj,ak,am]) rfl ?_;exact⟨_,aZ,Y,rfl,a9.out.aM (my _) a8.out _ _ _ _,ba.out,.inl ⟨a4.out,a5.out⟩⟩
theorem A6{R:Tree→List Value→Prop}(A:∀x a,R x a→a.length=4){u:Tree}{a b c d:Value}(ac:R u [a,b,c,d]):∀(us:List Tree) (xs:List Value) (j:Nat),aJ R us xs→j<us.length→aJ R (us.set j u) ((((xs.set (j*4) a).set (j*4+1) b).set (j*4+2) c).set (j*4+3) d)
 |[],_,_,_,hj=>by simp at hj
 |x::us,xs,0,⟨e,r,E,h1,h2⟩,_=>by
  have G:=A _ _ h1
  match e,G with
  |[M,O,Y,ab],_=>subst E;exact⟨[a,b,c,d],r,by simp,ac,h2⟩
 |x::us,xs,j+1,⟨e,r,E,h1,h2⟩,hj=>by
  have G:=A _ _ h1
  match e,G with
  |[M,O,Y,ab],_=>subst E;have:=A6 A ac us r j h2 (by simpa using hj);refine⟨[M,O,Y,ab],_,?_,h1,this⟩;rw[show(j+1)*4=j*4+4 by omega,show j*4+4+1=j*4+1+4 by omega,show j*4+4+2=j*4+2+4 by omega,show j*4+4+3=j*4+3+4 by omega];simp[bf]
theorem A7:∀(ts us:List Tree) (j:Nat) (u:Tree),aN us=aN ts→j<us.length→u.bare=(ts.getD j default).bare→aN (us.set j u)=aN ts
 |[],[],j,u,_,hj,_=>by simp at hj
 |[],A::us,j,u,h,_,_=>by rw[aN,aN]at h;cases h
 |t::ts,[],j,u,_,hj,_=>by simp at hj
 |t::ts,A::us,0,u,h,_,e=>by rw[aN,aN,ii]at h;rw[List.getD_cons_zero]at e;rw[be,aN,aN,h.2,e]
 |t::ts,A::us,j+1,u,h,hj,e=>by rw[aN,aN,ii]at h;rw[List.getD_cons_succ]at e;rw[bf,aN,aN,h.1,A7 ts us j u h.2 (by simpa using hj) e]
structure hn(g:Nat)(D:List Int)(h:Hp)(w:World)(t:Tree)(lv kv:Value)(h1:Hp)(wr:World)(ls:List Value):Prop where
 ds:aL g D h w h1 wr
 tb:Has wr w.heap.size #[af ae t.kind,ah t.text,lv,kv]
 tn:h1 w.heap.size=none
 rb:Has wr (w.heap.size+1) #[af ae 0,ah ⟨#[]⟩,ag none 0 0,ag none 0 0]
 rn:h1 (w.heap.size+1)=none
 lo:Ow wr h1 (w.heap.size+2) 9 1 lv t.leads.length ls
 jY:PcV ls
section
variable {g:Nat} {D:List Int} {h h1 h2:Hp} {w wr w2:World} {t:Tree} {lv kv:Value} {ls xs:List Value}
theorem Ow.ss{w w':World}{h h':Hp}{B:Nat}{e:TypeId}{k n:Nat}{v:Value}{xs:List Value}(o:Ow w h B e k v n xs)(s:aL g D h w h' w')(E:g<B):Ow w' h' B e k v n xs:=
 o.U (fun b A=>s.gr.block b (o.lt b A).2 (fun e=>by have:=aU e;have:=(o.lt b A).1;omega)) (fun b A=>s.aI b (o.lt b A).2)
theorem hn.call(a:hn g D h w t lv kv h1 wr ls)(s:aL g D h1 wr h2 w2):hn g D h w t lv kv h2 w2 ls:=
 have A:=a.ds.lt
 ⟨a.ds.call s,a.tb.dst s (by omega),(s.aI _ a.tb.lt).trans a.tn,a.rb.dst s (by omega),(s.aI _ a.rb.lt).trans a.rn,a.lo.ss s (by omega),a.jY⟩
theorem hn.drew(a:hn g D h w t lv kv h1 wr ls):hn g D h w t lv kv h1 wr.drew ls:=by obtain⟨n,d⟩:=a.ds.bj;exact a.call ((aL.refl a.ds.I d).drew)
theorem hn.alloc(a:hn g D h w t lv kv h1 wr ls)(o:Obj):hn g D h w t lv kv h1 (wr.alloc o) ls:=by obtain⟨n,d⟩:=a.ds.bj;exact a.call ((aL.refl a.ds.I d).alloc o)
theorem hn.lead{A G:Nat}(a:hn g D h w t (ag (some ⟨A,0,none⟩) t.leads.length G) kv h1 wr ls)(i:Nat)(Y:i<t.leads.length)(s:ByteArray)(O:Sh1 s):hn g D h w t (ag (some ⟨A,0,none⟩) t.leads.length G) kv h1 (wr.setCell ⟨A,i,none⟩ (ah s)) (ls.set i (ah s)):=by
 have ab:=(a.lo.lt A rfl).1;have M:=a.lo.free A rfl;refine⟨a.ds.setCell (p:=⟨A,i,none⟩) (by show _≤A;omega) M _,a.tb.ne (by omega) _ _,a.tn,a.rb.ne (by omega) _ _,a.rn,a.lo.set i _ (by omega),fun v E=> ?_⟩;rcases qu E with E|E;·exact a.jY v E
 ·exact⟨s,E,O⟩
end
structure iE(g:Nat)(D:List Int)(h:Hp)(w:World)(t:Tree)(lv kv:Value)(h1:Hp)(wr:World)(ls xs:List Value):Prop where
 a:hn g D h w t lv kv h1 wr ls
 ko:Ow wr h1 (w.heap.size+2) 26 4 kv t.kids.length xs
 lk:∀b,lv.ownBlock=some b→kv.ownBlock≠some b
 kids:∃us,aJ (bg h1) us xs∧aN us=aN t.kids∧∀u∈us,u.lb
section
variable {g:Nat} {D:List Int} {h h1 h2:Hp} {w wr w2:World} {t:Tree} {lv kv:Value} {ls xs:List Value}
theorem iE.call(q:iE g D h w t lv kv h1 wr ls xs)(s:aL g D h1 wr h2 w2):iE g D h w t lv kv h2 w2 ls xs:=by have M:=q.a.ds.lt;obtain⟨us,A,E,G⟩:=q.kids;exact⟨q.a.call s,q.ko.ss s (by omega),q.lk,us,A.mono fun _ _ r=>r.mono s.le,E,G⟩
theorem iE.drew(q:iE g D h w t lv kv h1 wr ls xs):iE g D h w t lv kv h1 wr.drew ls xs:=by obtain⟨n,d⟩:=q.a.ds.bj;exact q.call ((aL.refl q.a.ds.I d).drew)
theorem vp{us ts:List Tree}(h:aN us=aN ts):us.length=ts.length:=by have:=congrArg List.length h;rwa[iY,iY,dL,dL]at this
theorem iE.get{A ck:Nat}(q:iE g D h w t lv (ag (some ⟨A,0,none⟩) t.kids.length ck) h1 wr ls xs)(j:Nat)(hj:j<t.kids.length):∃(u:Tree) (v0 M O Y:Value),bg h1 u [v0,M,O,Y]∧u.bare=t.kids[j].bare∧u.lb∧(wr.cell? ⟨A,j*4,none⟩=some v0∧wr.cell? ⟨A,j*4+1,none⟩=some M∧wr.cell? ⟨A,j*4+2,none⟩=some O∧wr.cell? ⟨A,j*4+3,none⟩=some Y)∧(∀i,wr.frozen? ⟨A,i,none⟩=false)∧A≠w.heap.size∧w.heap.size≠A∧A≠w.heap.size+1∧w.heap.size+1≠A:=by
 obtain⟨us,ak,ab,am⟩:=q.kids;have aJ:=vp ab;obtain⟨c4,aj,E⟩:=ak.at 4 bg.len j (by omega);have aG:=(q.ko.lt A rfl).1;obtain⟨aB,ad,_,_,_,G,ao⟩:=q.ko.cell (by omega);simp only[aC,cx,and_true]at ad;subst ad;have ax:=bg.len _ _ aj
 match c4,ax with
 |[v0,M,O,Y],_=>
  refine⟨us[j],v0,M,O,Y,aj,?_,am _ (aK _),⟨G _ _ (E 0 (by omega)),G _ _ (E 1 (by omega)),G _ _ (E 2 (by omega)),G _ _ (E 3 (by omega))⟩,ao,by omega,by omega,by omega,by omega⟩;have ac:(aN us)[j]? =(aN t.kids)[j]? :=by rw[ab]
  rw[iY,iY,jB,jB,aE (by omega),aE hj]at ac;simpa using ac
theorem iE.b4{A ck j:Nat}{u:Tree}{v0 O Y ab:Value}(q:iE g D h w t lv (ag (some ⟨A,0,none⟩) t.kids.length ck) h1 wr ls xs)(hj:j<t.kids.length)(ao:bg h1 u [v0,O,Y,ab])(e:u.bare=t.kids[j].bare)(am:u.lb):iE g D h w t lv (ag (some ⟨A,0,none⟩) t.kids.length ck) h1 ((((wr.setCell ⟨A,j*4,none⟩ v0).setCell ⟨A,j*4+1,none⟩ O).setCell ⟨A,j*4+2,none⟩ Y).setCell ⟨A,j*4+3,none⟩ ab) ls ((((xs.set (j*4) v0).set (j*4+1) O).set (j*4+2) Y).set (j*4+3) ab):=by
 have aB:=(q.ko.lt A rfl).1;have ak:=q.ko.free A rfl;have M:lv.ownBlock≠some A:=fun e=>q.lk A e rfl;have G:∀{z:World} (i:Nat) (v:Value),aL g D h w h1 z→aL g D h w h1 (z.setCell ⟨A,i,none⟩ v):=fun i v s=>s.setCell (p:=⟨A,i,none⟩) (by show _≤A;omega) ak _;have E:=q.ko.len;obtain⟨us,ad,ac,aj⟩:=q.kids;have ax:=vp ac
 refine⟨⟨G _ _ (G _ _ (G _ _ (G _ _ q.a.ds))),(((q.a.tb.ne (by omega) _ _).ne (by omega) _ _).ne (by omega) _ _).ne (by omega) _ _,q.a.tn,(((q.a.rb.ne (by omega) _ _).ne (by omega) _ _).ne (by omega) _ _).ne (by omega) _ _,q.a.rn,(((q.a.lo.setCell M _).setCell M _).setCell M _).setCell M _,q.a.jY⟩,
  (((q.ko.set _ v0 (by omega)).set _ O (by omega)).set _ Y (by omega)).set _ ab (by omega),q.lk,us.set j u,A6 bg.len ao _ _ _ ad (by omega),A7 _ _ _ _ ac (by omega) (by rw[getD_at hj];exact e),fun x E=> ?_⟩
 rcases qu E with E|E;·exact aj x E
 ·rw[E];exact am
end
theorem A8{h:Hp}:∀{us:List Tree} {xs:List Value},aJ (bg h) us xs→∀v∈xs,v.oneCell'=true
 |[],xs,e,v,A=>by rw[aJ]at e;subst e;cases A
 |u::us,xs,⟨a,r,E,h1,h2⟩,v,A=>by
  subst E;rcases List.mem_append.1 A with A|A;·obtain⟨M,O,G,ck,Y,rfl,-⟩:=bg.iff.1 h1;simp only[List.mem_cons,List.mem_nil_iff,or_false]at A;rcases A with rfl|rfl|rfl|rfl<;>rfl
  ·exact A8 h2 v A
theorem hn.start{g:Nat}{D:List Int}{h:Hp}{w w1:World}{t:Tree}{O kv A:Value}{ax:Nat}{o:Obj}{cT:Array Value}{E G:TypeId}(M:ao h w)(d:cA h w g D ax)(ad:cT= #[af ae t.kind,ah t.text,O,kv])(ac:Ow w1 h (w.heap.size+2) 9 1 A t.leads.length (t.leads.map ah))(Y:(((w.alloc (.cells cT E)).alloc (.cells #[af ae 0,ah ⟨#[]⟩,ag none 0 0,ag none 0 0] G)).alloc o).grownBy w1 (some (w.heap.size+1+1)))(aj:∀s∈t.leads,s.size≤1000):hn g D h w t A kv h (w1.setCell ⟨w.heap.size,2,none⟩ A) (t.leads.map ah):=by
 subst ad;have aJ:=(((aL.refl M d).alloc (.cells #[af ae t.kind,ah t.text,O,kv] E)).alloc (.cells #[af ae 0,ah ⟨#[]⟩,ag none 0 0,ag none 0 0] G)).alloc o;have aM:=aJ.grown Y fun q e=>by have:=aU e;exact⟨by omega,bI M q (by omega)⟩
 have aN:=(((Has.new w #[af ae t.kind,ah t.text,O,kv] E).alloc (.cells #[af ae 0,ah ⟨#[]⟩,ag none 0 0,ag none 0 0] G)).alloc o).grown Y (fun e=>by have:=aU e;omega);have aG:=((Has.kY w (.cells #[af ae t.kind,ah t.text,O,kv] E) #[af ae 0,ah ⟨#[]⟩,ag none 0 0,ag none 0 0] G).alloc o).grown Y (fun e=>by have:=aU e;omega);have ab:h w.heap.size=none:=bI M _ (an _);have aB:A.ownBlock≠some w.heap.size:=fun e=>by have:=(ac.lt _ e).1;omega
 refine⟨aM.setCell (p:=⟨w.heap.size,2,none⟩) (an _) ab _,?_,ab,aG.ne (by omega) _ _,bI M _ (by omega),ac.setCell aB _,fun v am=> ?_⟩;·have:=aN.fg 2 (by simp) A;simpa using this
 ·obtain⟨s,ak,rfl⟩:=b6.1 am;exact⟨s,rfl,aj s ak⟩
theorem iE.start{g:Nat}{D:List Int}{h:Hp}{w wr w2:World}{t:Tree}{lv kv A:Value}{ls M:List Value}{o:Obj}(a:hn g D h w t lv kv h wr ls)(O:Ow w2 h (w.heap.size+2) 26 4 A t.kids.length M)(E:(wr.alloc o).grownBy w2 (some wr.heap.size))(ac:∀b,A.ownBlock=some b→wr.heap.size≤b)(Y:aJ (bg h) t.kids M)(ab:∀u∈t.kids,u.lb):iE g D h w t lv A h (w2.setCell ⟨w.heap.size,3,none⟩ A) ls M:=by
 have aL:=a.tb.lt;have aG:=a.rb.lt;have aB:=a.ds.lt;obtain⟨n,d⟩:=a.ds.bj;have ao:=(a.ds.alloc o).grown E fun q e=>by have:=aU e;exact⟨by omega,by subst this;exact bI a.ds.I _ (an _)⟩
 have ax:=(a.tb.alloc o).grown E (fun e=>by have:=aU e;omega);have am:=(a.rb.alloc o).grown E (fun e=>by have:=aU e;omega);have ad:=(a.lo.alloc o).grown E (fun b G e=>by have:=(a.lo.lt b G).2;have:=aU e;omega);have ak:A.ownBlock≠some w.heap.size:=fun e=>by have:=(O.lt _ e).1;omega
 have aj:lv.ownBlock≠some w.heap.size:=fun e=>by have:=(a.lo.lt _ e).1;omega
 refine⟨⟨ao.setCell (p:=⟨w.heap.size,3,none⟩) (an _) a.tn _,?_,a.tn,am.ne (by omega) _ _,a.rn,ad.setCell aj _,a.jY⟩,O.setCell ak _,fun b G e=> ?_,t.kids,Y,rfl,ab⟩;·have:=ax.fg 3 (by simp) A;simpa using this
 ·have:=(a.lo.lt b G).2;have:=ac b e;omega
theorem aL.vq{g:Nat}{D:List Int}{h h1:Hp}{w w1:World}{B:Nat}{e:TypeId}{k n:Nat}{v:Value}{xs:List Value}(s:aL g D h w h1 w1)(o:Ow w1 h1 B e k v n xs)(aj:w.heap.size≤B)(M:n≤140737488355328):∃h',aL g D h w h' w1∧h1.le h'∧Sl h' v n k xs∧∀b,v.ownBlock≠some b→h' b=h1 b:=by
 obtain⟨h',Y,E,ab,ac⟩:=o.giveUp s.I M;have ak:=s.lt;have G:∀b,v.ownBlock≠some b→h' b=h1 b:=fun b A=>ab b fun q O e=>A (by rw[O,e]);obtain⟨nd,d⟩:=s.bj;have ad:v.ownBlock≠some g:=fun e=>by have:=(o.lt g e).1;omega
 exact⟨h',⟨s.gr,Y,Hp.le_trans s.le E,fun b A=>(G b fun e=>by have:=(o.lt b e).1;omega).trans (s.aI b A),s.lt,nd,d.U rfl (an _) E ((G g ad).trans d.free)⟩,E,ac,G⟩
def IL(g:Nat)(D:List Int)(h:Hp)(w:World)(t:Tree)(e:Ending)(w':World):Prop:=∃v,e= .returned v∧∃h' t',aL g D h w h' w'∧aP h' v t'∧t'.bare=t.bare∧t'.lb
theorem IM{s:ByteArray}(h:decide (s.size≤1000)=true):Sh1 s:=(of_decide_eq_true h:s.size≤1000)
theorem IP:∀i,i<4→∃s,(#[ah ⟨#[32,35,32,99,10]⟩,ah ⟨#[32,32]⟩,ah ⟨#[10,9]⟩,ah ⟨#[35,10]⟩]:Array Value)[i]? =some (ah s)∧Sh1 s:=fun i A=>by obtain⟨s,a,b⟩:=ik [ah ⟨#[32,35,32,99,10]⟩,ah ⟨#[32,32]⟩,ah ⟨#[10,9]⟩,ah ⟨#[35,10]⟩] (fun s=>decide (s.size≤1000)) (by decide) i A;exact⟨s,a,IM b⟩
theorem IQ(g:Nat)(D:List Int)(m:Nat)(e1:m≤100000):∀(t:Tree) (_:t.size≤m) (_:t.lb) (h:Hp) (w:World) (_:ao h w) (n:Nat) (_:cA h w g D n) (v:Value) (_:aP h v t),Calls ai 82 #[.pointer (some ⟨g,0,none⟩),v] w (IL g D h w t):=by
 induction m with
 |zero=>intro t e2;have:=t.size_eq;omega
 |succ m co=>
  intro t ed a1 h w cd e7 d v cj;have bO:=aa cd;have cV:=aa d;have dt:=aa (co (by omega));have hz:=Tree.size_eq t;rw[hz]at ed;have e3:=su t.kids;have dh:=aa ((Tree.og t).1 a1);have e0:=((Tree.og t).1 a1).1.1;have dg:Hid (∀u∈t.kids,u.lb):=sa ((Tree.og t).1 a1).2;obtain⟨bv,bz,aT,ck,cU,rfl,ce,ea,d6,cg,ch,bJ⟩:=cj.open;have dj:=aa cg;have di:=aa ch;have c6:=aa bJ;have de:=aa ce;have bR:Hid (∀u∈t.leads.map ah,u.oneCell'=true):=fun u ei=>by obtain⟨s,-,rfl⟩:=b6.1 ei;rfl
  have dv:Hid (∀u∈cU,u.oneCell'=true):=A8 bJ;have bq:Hid (ao h ((w.alloc (.cells #[af ae t.kind,ah t.text,ag bv t.leads.length bz,ag aT t.kids.length ck] 26)).alloc (.cells #[af ae 0,ah ⟨#[]⟩,ag none 0 0,ag none 0 0] 26))):=(bO.out.alloc _).alloc _;clear co cj cd d ch cg bJ hz ce a1;go_enter Tryz.func82,Tryz.ntmps82;go_wp2_with(at_builtin;refine s9 rW rfl _ _ rfl (St.dN (B:=w.heap.size+2) (bq.out.alloc _) (by simp)) (ag (some ⟨w.heap.size+1+1,0,none⟩) 0 0) 0 [] rfl (by have:=oP (B:=w.heap.size+2) bq.out (by simp) [] 0 1 9 (by simp[maxLen]) rfl;simpa using this) (ag bv t.leads.length bz) t.leads.length (t.leads.map ah) rfl dj.out bR.out (by omega) ?_;intro cM w1 eE a5 bH dw;rw[cO,ji]at a5;obtain⟨Y,c1,rfl⟩:=a5.shape;have aO:=aa (hn.start bO.out cV.out rfl a5 bH dh.out.1.2);have E:=(((Has.new w #[af ae t.kind,ah t.text,ag bv t.leads.length bz,ag aT t.kids.length ck] 26).alloc (.cells #[af ae 0,ah ⟨#[]⟩,ag none 0 0,ag none 0 0] 26)).alloc _).grown bH (show(some (w.heap.size+1+1):Option Nat)≠some w.heap.size from fun e=>by have:=aU e;omega);have dC:=E.cl 2;have dT:=E.fz 2;have em:=E.lt;clear eE a5 bH dw E);clear bq bR dC dT em;obtain⟨⟨aj,E,M,ak⟩,-⟩:=aO.out.tb.four;have ad:=aO.out.tb.lt;go_loopw[5,12,13,14,15,16,17,18,19,20,21,22,23,24,25,26,27,28] (fun i _ _ _ _ _ _ _ _ _ _ _ _ _ _ _ _ _ wr=>∃(j:Nat) (ls:List Value),j≤t.leads.length∧i=af ae j∧hn g D h w t (ag Y t.leads.length c1) (ag aT t.kids.length ck) h wr ls) (fun i _ _ _ _ _ _ _ _ _ _ _ _ _ _ _ _ _ _=>t.leads.length-(intOf i).toNat);case atStart=>exact⟨0,_,aW _,rfl,aO.out⟩
  case round=>
   obtain⟨j,ls,d4,rfl,q1⟩:=hrel;have am:=aa q1;clear aj E M ak ad aO;obtain⟨⟨aj,E,M,ak⟩,-⟩:=q1.tb.four;have ad:=q1.tb.lt;obtain⟨nd,aG⟩:=q1.ds.bj;have ax:=aa q1.ds.I;have bp:=aa aG;clear q1 aG;by_cases hj:j<t.leads.length
   ·have cM:(0:Int)≤(j:Int):=by omega
    have cN:(j:Int)<(t.leads.length:Int):=by omega
    go_wp2_with fail;refine(dW h _ ax.out g D nd bp.out 9 (by omega) (by omega)).mono ?_;rintro e w2 ⟨rfl,bL⟩;generalize a8 D nd 9=z;have O:=aa (am.out.call bL);clear bL aj E M ak ad am ax bp;obtain⟨⟨aj,E,M,ak⟩,-⟩:=O.out.tb.four;have ad:=O.out.tb.lt;by_cases a2:z=1
    ·have dY:(z==1)=true:=by simpa using a2
     clear a2;obtain⟨bG,aV,d1,cu,-,b9,cc⟩:=O.out.lo.cell (by omega);have d9:=O.out.lo.len;have cY:=aa aV;subst aV;have ep:bG≠w.heap.size:=by omega
     have eq:w.heap.size≠bG:=by omega
     obtain⟨eJ,cm⟩:∃y,ls[j]? =some y:=⟨_,aE (by omega)⟩
     have eN:=b9 j eJ cm;have eX:=cc j;clear b9 cc cY d9 cm;go_wp2_with fail
     go_region_held3(fun w'=>w'.cell? ⟨w.heap.size,2,none⟩=some (ag (some ⟨bG,0,none⟩) t.leads.length c1)) (first|(go_keep;done)|exact M) (first
      |(go_at_call 118;obtain⟨cw,bX⟩:=(O.out.drew.alloc (.cells #[ah ⟨#[32,35,32,99,10]⟩,ah ⟨#[32,32]⟩,ah ⟨#[10,9]⟩,ah ⟨#[35,10]⟩] 9)).ds.bj;refine(jn h _ (O.out.drew.alloc _).ds.I g D cw bX w2.heap.size 4 4 #[ah ⟨#[32,35,32,99,10]⟩,ah ⟨#[32,32]⟩,ah ⟨#[10,9]⟩,ah ⟨#[35,10]⟩] (P:=Sh1) (Has.new w2.drew _ _) (by have:=O.out.ds.lt;omega) (by omega) (by omega) IP).mono ?_;rintro e w3 ⟨cz,rfl,ci,cC⟩;have dk:=aa ci;have aB:=aa ((O.out.drew.alloc _).call cC);clear cC ci bX;have M:=aB.out.tb.cl 2;have e5:=aB.out.tb.lt;obtain⟨dX,aJ,-,-,-,b0,aX⟩:=aB.out.lo.cell (by omega);have d8:=aB.out.lo.len;simp only[aC,cx,and_true]at aJ;subst aJ;obtain⟨eK,cn⟩:∃y,ls[j]? =some y:=⟨_,aE (by omega)⟩;have eO:=b0 j eK cn;have eY:=aX j;clear b0 aX d8 cn))
     all_goals
      go_wp2_with fail;go_roundw;case rel=>exact⟨j+1,_,by omega,by go_num,aB.out.lead j hj cz dk.out⟩
      case measure=>simp[intOf];omega
    ·have dY:(z==1)=false:=by simpa using a2
     clear a2;go_wp2_with fail;go_roundw;case rel=>exact⟨j+1,ls,by omega,by go_num,O.out⟩
     case measure=>simp[intOf];omega
   ·obtain⟨bE,d2⟩:∃bE,bE=wr.heap.size:=⟨_,rfl⟩
    have db:Hid (j=t.leads.length):=by unfold Hid;omega
    have eG:¬(j:Int)<(t.leads.length:Int):=by omega
    have eH:decide ((j:Int)<(t.leads.length:Int))=false:=by simp;omega
    have eI:decide (j<t.leads.length)=false:=by simp;omega
    clear d2 bE;have eb:=am.out.rb.lt
    go_wp2_with(at_builtin;refine s9 iJ rfl _ _ rfl (St.dN (B:=w.heap.size+2) (ax.out.alloc _) (by simp;omega)) (ag (some ⟨wr.heap.size,0,none⟩) 0 0) 0 [] rfl (oP (B:=w.heap.size+2) ax.out (by omega) [] 0 4 26 (by simp[maxLen]) rfl) (ag aT t.kids.length ck) t.kids.length cU rfl di.out dv.out (by omega) ?_;intro cN w2 eF a9 bI bS;rw[cO,ji]at a9;obtain⟨ab,c2,rfl⟩:=a9.shape;have aQ:=aa (iE.start am.out a9 bI (fun b aY=>by
     rcases bS with q|q;·rw[aY]at q;have:=aU q;dsimp only at this;omega
     ·rw[aY]at q;have:=aU q;simp at this;omega) c6.out dg.out);have bm:=(am.out.tb.alloc (.cells #[] 26)).grown bI (show(some wr.heap.size:Option Nat)≠some w.heap.size from fun e=>by have:=aU e;omega);have dD:=bm.cl 3;have dU:=bm.fz 3;have en:=bm.lt;clear eF a9 bI bS bm)
    clear dD dU en aj E M ak ad am ax bp eb;obtain⟨⟨aj,E,M,ak⟩,-⟩:=aQ.out.a.tb.four;have ad:=aQ.out.a.tb.lt;go_loopw[6,34,35,36,37,38,39,40,41,42,43,44,45,46,47,48,49,50,51] (fun i _ _ _ _ _ _ _ _ _ _ _ _ _ _ _ _ _ _ wr=>∃(j:Nat) (h1:Hp) (xs:List Value),j≤t.kids.length∧i=af ae j∧iE g D h w t (ag Y t.leads.length c1) (ag ab t.kids.length c2) h1 wr ls xs) (fun i _ _ _ _ _ _ _ _ _ _ _ _ _ _ _ _ _ _ _=>t.kids.length-(intOf i).toNat);case atStart=>exact⟨0,h,_,aW _,rfl,aQ.out⟩
    case round=>
     obtain⟨j,h1,xs,d4,rfl,ba⟩:=hrel;have A:=aa ba;clear aj E M ak ad aQ eG eH eI db;obtain⟨⟨aj,E,M,ak⟩,-⟩:=ba.a.tb.four;have ad:=ba.a.tb.lt;clear ba;by_cases hj:j<t.kids.length
     ·obtain⟨G,aV,d1,cu,-,-,-⟩:=A.out.ko.cell (by omega);subst aV;obtain⟨ej,d5⟩:∃k,k=c2:=⟨_,rfl⟩
      subst d5;obtain⟨u,w0,fh,fi,fj,bC,bB,cv,⟨dA,bT,bV,c3⟩,aM,ep,eq,e8,e9⟩:=A.out.get j hj;obtain⟨cD,cG,cF,cK,ff,e,-⟩:=bg.iff.1 bC;simp only[ii,and_true]at e;obtain⟨rfl,rfl,rfl,rfl⟩:=e;have c1:=bT;have c2:=bV;have dp:Hid (aP h1 (aq #[af ae u.kind,ah u.text,ag cD u.leads.length cG,ag cF u.kids.length cK]) u):=⟨_,rfl,bC⟩
      have dr:Hid (u.size≤m):=by have:=congrArg Tree.size bB;rw[l3,l3]at this;have:=dB (aK hj);unfold Hid;omega
      have dn:=aa cv;have dm:=aa bB;have c8:=aa cu;have c9:Hid (G≠g):=by have:=A.out.a.ds.lt;unfold Hid;omega
      have cM:(0:Int)≤(j:Int):=by omega
      have cN:(j:Int)<(t.kids.length:Int):=by omega
      have dO:=aM (j*4);have dP:=aM (j*4+1);have dQ:=aM (j*4+2);have dR:=aM (j*4+3);clear aM bC bB cv bT bV;go_upto_region 11 with fail;refine wp_region_noPanic ?_;refine nE (n:=11) (S:=fun w'=>w'.cell? ⟨w.heap.size,3,none⟩=some (ag (some ⟨G,0,none⟩) t.kids.length ej)∧w'.cell? ⟨G,j*4,none⟩=some (af ae u.kind)∧w'.cell? ⟨G,j*4+1,none⟩=some (ah u.text)∧w'.cell? ⟨G,j*4+2,none⟩=some (ag cD u.leads.length cG)∧w'.cell? ⟨G,j*4+3,none⟩=some (ag cF u.kids.length cK)) (by kernel_rfl) ?_ (fun eZ=> ?_);·go_keep
      simp only[Array.replicate,List.replicate,List.size_toArray,List.length_cons,List.length_nil,cO,Nat.reduceAdd]
      iterate 9
       refine iL (v:= ?_) 0 rfl (by kernel_rfl) (fun _ _ _ h=>h) (by rfl) (by assumption) ?_ ?_
       rotate_left
       ·intro w d0;(try dsimp only at d0);simp only[nx];go_simp<;>with_reducible rfl
       simp only[nx,Act.put,List.getElem_toArray,List.getElem_cons_succ,List.getElem_cons_zero,bh,be,bf]
      refine cE (rs:=[9]) (by kernel_rfl) (by simp) ?_;refine aZ.cons (o:=_) rfl (fun K ac=> ?_) aZ.nil;go_simp;go_at_call 82;obtain⟨nd,aG⟩:=A.out.drew.a.ds.bj;refine(dt.out u dr.out dn.out h1 _ A.out.drew.a.ds.I nd aG _ (dp.out)).mono ?_;rintro e cQ ⟨fg,rfl,h7,fe,bd,bN,bY,ct⟩;obtain⟨eM,eW,eL,eP,-,rfl,-,-,-,-,-,-⟩:=bN.open;have cX:=aa (dq bN);have cZ:=aa (bY.trans dm.out);have du:=aa ct;have aS:=aa (A.out.drew.call bd);have cS:=aS.out.a.tb.cl 3;have e6:=aS.out.a.tb.lt;have d3:=bd.gr;have aN:∀i,cQ.cell? ⟨G,i,none⟩=wr.cell? ⟨G,i,none⟩:=fun i=>World.cell?_of_block (a:=⟨G,i,none⟩) (bd.gr.block G c8.out (fun e=>c9.out (aU e)));have er:=(aN (j*4)).trans dA;have es:=(aN (j*4+1)).trans c1;have ex:=(aN (j*4+2)).trans c2;have ey:=(aN (j*4+3)).trans c3;have aL:∀i,cQ.frozen? ⟨G,i,none⟩=false:=fun i=>by obtain⟨dX,aJ,-,-,-,-,aX⟩:=aS.out.ko.cell (by omega);simp only[aC,cx,and_true]at aJ;subst aJ;exact aX i
      have dO:=aL (j*4);have dP:=aL (j*4+1);have dQ:=aL (j*4+2);have dR:=aL (j*4+3);clear bN bd bY ct aG aN aL d3;refine ac.out _ _ (fun _=> ?_) ?_;·exact⟨cS,er,es,ex,ey⟩
      clear ac K;try simp only[bh,be,bf]
      refine cE (rs:=[10]) (by kernel_rfl) (by simp) ?_;refine aZ.cons (o:=_) rfl (fun K ac=> ?_) aZ.nil;go_simp;refine ac.out _ _ (fun _=> ?_) ?_;·go_keep
      clear ac K;try simp only[bh,be,bf]
      refine cE (rs:=[11]) (by kernel_rfl) (by simp) ?_;refine aZ.cons (o:=_) rfl (fun K ac=> ?_) aZ.nil;go_simp;refine ac.out _ _ (fun h=>absurd h (by decide)) ?_;clear ac K;try simp only[bh,be,bf]
      refine lK (by kernel_rfl) ?_ _;simp only[NoPanic];go_wp2_with fail;go_roundw;case rel=>exact⟨j+1,h7,_,by omega,by go_num,aS.out.b4 hj cX.out cZ.out du.out⟩
      case measure=>simp[intOf];omega
     ·obtain⟨⟨r0,ez,eA,eB⟩,fb,fc,bL,cz⟩:=A.out.a.rb.four;have e4:=A.out.a.rb.lt;have cw:w.heap.size+1≠w.heap.size:=by omega
      have e':w.heap.size≠w.heap.size+1:=by omega
      have cS:¬(j:Int)<(t.kids.length:Int):=by omega
      have fn:decide ((j:Int)<(t.kids.length:Int))=false:=by simp;omega
      have fr:decide (j<t.kids.length)=false:=by simp;omega
      go_wp2_with fail;refine aF (v:=aq #[af ae t.kind,ah t.text,ag Y t.leads.length c1,ag ab t.kids.length c2]) (by simp[aH,Tryz.results82,go_sem,r0,ez,eA,eB]) rfl ?_;have ec:=A.out.a.rn;have ds:=A.out.a.ds.aM (b:=w.heap.size+1) (my _) ec (af ae t.kind) (ah t.text) (ag Y t.leads.length c1) (ag ab t.kids.length c2);have a4:(ag Y t.leads.length c1).ownBlock≠some (w.heap.size+1):=fun e=>by have:=(A.out.a.lo.lt _ e).1;omega
      have a3:(ag ab t.kids.length c2).ownBlock≠some (w.heap.size+1):=fun e=>by have:=(A.out.ko.lt _ e).1;omega
      have eo:=(((A.out.a.lo.setCell (p:=⟨w.heap.size+1,0,none⟩) a4 (af ae t.kind)).setCell (p:=⟨w.heap.size+1,1,none⟩) a4 (ah t.text)).setCell (p:=⟨w.heap.size+1,2,none⟩) a4 (ag Y t.leads.length c1)).setCell (p:=⟨w.heap.size+1,3,none⟩) a4 (ag ab t.kids.length c2);have ek:=(((A.out.ko.setCell (p:=⟨w.heap.size+1,0,none⟩) a3 (af ae t.kind)).setCell (p:=⟨w.heap.size+1,1,none⟩) a3 (ah t.text)).setCell (p:=⟨w.heap.size+1,2,none⟩) a3 (ag Y t.leads.length c1)).setCell (p:=⟨w.heap.size+1,3,none⟩) a3 (ag ab t.kids.length c2);obtain⟨h2,dE,l2,cB,eD⟩:=ds.vq eo (by omega) ea;have el:=ek.U (h':=h2) (fun _ _=>rfl) (fun b aY=>eD b fun e=>A.out.lk b e aY);obtain⟨dZ,dF,cq,eC,fd⟩:=dE.vq el (by omega) d6;obtain⟨us,dG,bA,dN⟩:=A.out.kids;obtain⟨l,bZ,d7⟩:=vi A.out.a.jY;have cl:=vp bA;have cf:l.length=t.leads.length:=by have:=A.out.a.lo.len;rw[bZ,dL]at this;omega
      refine⟨_,rfl,dZ,.node t.kind t.text l us,dF,⟨[af ae t.kind,ah t.text,ag Y t.leads.length c1,ag ab t.kids.length c2],rfl,?_⟩,?_,?_⟩
      ·rw[bg.iff];refine⟨Y,c1,ab,c2,xs,?_,de.out,?_,?_,dG.mono fun _ _ r=>r.mono (Hp.le_trans l2 cq)⟩;·simp only[Tree.kind,Tree.text,Tree.leads,Tree.kids,cf,cl]
       ·simp only[Tree.leads,cf];rw[bZ]at cB;exact cB.mono cq
       ·simp only[Tree.kids,cl];exact eC
      ·cases t;rw[Tree.bare,Tree.bare];simp only[Tree.kids,Tree.kind,Tree.text]at bA⊢;rw[bA]
      ·rw[Tree.lb];exact⟨⟨by omega,d7⟩,u6 dN⟩
end Go.Proofs.YtdplggpbgommnaaGreatDoor
