/- semvcsref04.Arrange. -/
import Derived.Test.YtdplggpbgommnaaGreatDoorKl
import Derived.Test.YtdplggpbgommnaaGreatDoorG28
open Array renaming replicate->kD
open Go renaming bodyPost_ret->aF,results->aH,wp_region_noPanic->K6
open Go.Act renaming put->br
open Go.Addr.mk renaming injEq->cx
open Go.IntKind renaming i64->ae
open Go.Lib renaming hid->aa
open Go.Proofs.Tryz renaming prog->ai
open Go.Value renaming agg->aq,int->af,slice->ag,string->ah
open List renaming getElem?_eq_getElem->aE,getElem?_map->jB,getElem_cons_succ->dV,getElem_cons_zero->dJ,getElem_mem->aK,getElem_toArray->eV,length_cons->bF,length_map->dL,length_nil->cL,mem_append->xm,mem_map->b6,mem_or_eq_of_mem_set->qu,mem_singleton->eR,nil_append->ji,replicate->aA,setIfInBounds_toArray->bh,set_cons_succ->bf,set_cons_zero->nu,size_toArray->j6
open List.cons renaming injEq->ii
open Nat renaming le_refl->kI,le_succ->my,reduceAdd->fM,zero_add->cO,zero_le->aW
open Option.some renaming injEq->aC,inj->aU
set_option maxRecDepth 100000
set_option maxHeartbeats 8000000
namespace Go.Proofs.YtdplggpbgommnaaGreatDoor
open Go.RowKit
def ly:Tree:= .node 0 ⟨#[]⟩ [] []
def A5(t t':Tree):Prop:=(t'.bare=t.bare/\t'.lb)\/t'=ly
def IH(h:Hp)(w:World)(t:Tree)(e:Ending)(w':World):Prop:=∃v' h' t',e= .returned v'/\St w.heap.size h w h' w'/\aP h' v' t'/\A5 t t'
theorem II(h:Hp):aP h (aq #[af ae 0,ah ⟨#[]⟩,ag none 0 0,ag none 0 0]) ly:=gJ h 0 (by unfold aG;omega) ⟨#[]⟩
theorem IJ(t:Tree)(hz:t.size<=100000)(mk:dw t)(h:Hp)(w:World)(a2:ao h w)(v:Value)(aL:aP h v t):Calls ai 81 #[v] w (IH h w t):=by
 have aN:=aa a2;have aQ:=aa aL;have aO:=aa mk;obtain⟨al,Y,O,ck,ys,rfl,-,bJ,bH,bv,bz,he⟩:=aL.open;clear a2 aL mk bv bz he;have am:Hid (Has ((w.alloc (.cells #[af ae t.kind,ah t.text,ag al t.leads.length Y,ag O t.kids.length ck] 26)).alloc (.cells #[af ae 0,ah ⟨#[]⟩,ag none 0 0,ag none 0 0] 26)) w.heap.size #[af ae t.kind,ah t.text,ag al t.leads.length Y,ag O t.kids.length ck]):=(Has.new _ _ _).alloc _;have aj:Hid (Has ((w.alloc (.cells #[af ae t.kind,ah t.text,ag al t.leads.length Y,ag O t.kids.length ck] 26)).alloc (.cells #[af ae 0,ah ⟨#[]⟩,ag none 0 0,ag none 0 0] 26)) (w.heap.size+1) #[af ae 0,ah ⟨#[]⟩,ag none 0 0,ag none 0 0]):=Has.kY _ _ _ _;have J:Hid (St w.heap.size h w h ((w.alloc (.cells #[af ae t.kind,ah t.text,ag al t.leads.length Y,ag O t.kids.length ck] 26)).alloc (.cells #[af ae 0,ah ⟨#[]⟩,ag none 0 0,ag none 0 0] 26))):=((St.refl aN.out).alloc _).alloc _;have aS:Hid (h (w.heap.size+1)=none):=bI aN.out _ (by omega);go_in;go_wp2_with fail;generalize(w.alloc (.cells #[af ae t.kind,ah t.text,ag al t.leads.length Y,ag O t.kids.length ck] 26)).alloc (.cells #[af ae 0,ah ⟨#[]⟩,ag none 0 0,ag none 0 0] 26)=w0 at am aj J⊢;refine(AJ _ t (kI _) (.inr aO.out) h _ J.out.I _ aQ.out).mono ?_;rintro e w2 ⟨⟨b,rfl,-⟩,b2⟩;have aJ:=am.out.below b2;have G:=aa (aj.out.below b2);have ak:=aa (J.out.same b2);obtain⟨⟨bB,bC,bE,bG⟩,-⟩:=aJ.four;obtain⟨⟨r0,r1,r2,ax⟩,aV,aX,aY,aZ⟩:=G.out.four;have bA:=aJ.lt;have a4:=G.out.lt;clear b2 aJ;cases b;·clear am aj J;go_wp2_with fail;refine aF (v:=aq #[af ae 0,ah ⟨#[]⟩,ag none 0 0,ag none 0 0]) (by simp[aH,Tryz.results81,go_sem,r0,r1,r2,ax]) rfl ?_;exact⟨_,h,ly,rfl,ak.out.aM (my _) aS.out _ _ _ _,II h,.inr rfl⟩
 ·go_wp2_with fail;refine(IK t.size hz t (kI _) aO.out h w2 ak.out.I _ aQ.out ⟨#[]⟩ (by unfold Sh1;decide)).mono ?_;rintro e w3 ⟨bL,a1,ab,rfl,aB,aM,aT,a3⟩;obtain⟨bm,bq,bg,bp,-,rfl,-,-,-,-,-,-⟩:=aM.open;have aG:=G.out.below aB.below;have ba:=aa (ak.out.call aB);have a9:Hid (a1 (w.heap.size+1)=none):=(aB.aI _ G.out.lt).trans aS.out;have bd:=aa aM;have a5:=aa aT;have a8:=aa a3;clear am aj J G ak bB bC bE bG r0 r1 r2 ax aV aX aY aZ bA a4 aB aM aT a3;obtain⟨⟨r0,r1,r2,ax⟩,aV,aX,aY,aZ⟩:=aG.four;have a4:=aG.lt;clear aG;go_wp2_with fail;refine aF (v:=aq #[af ae ab.kind,ah ab.text,ag bm ab.leads.length bq,ag bg ab.kids.length bp]) (by simp[aH,Tryz.results81,go_sem,r0,r1,r2,ax]) rfl ?_;exact⟨_,a1,ab,rfl,ba.out.aM (my _) a9.out _ _ _ _,bd.out,.inl ⟨a5.out,a8.out⟩⟩
theorem A6{R:Tree->List Value->Prop}(hR:∀x a,R x a->a.length=4){u:Tree}{a b c d:Value}(aj:R u [a,b,c,d]):∀(us:List Tree) (xs:List Value) (j:Nat),aJ R us xs->j<us.length->aJ R (us.set j u) ((((xs.set (j*4) a).set (j*4+1) b).set (j*4+2) c).set (j*4+3) d)
 |[],_,_,_,hj=>by simp at hj
 |x::us,xs,0,⟨e,r,he,h1,h2⟩,_=>by
  have G:=hR _ _ h1
  match e,G with
  |[J,O,Y,ab],_=>subst he;exact⟨[a,b,c,d],r,by simp,aj,h2⟩
 |x::us,xs,j+1,⟨e,r,he,h1,h2⟩,hj=>by
  have G:=hR _ _ h1
  match e,G with
  |[J,O,Y,ab],_=>subst he;have:=A6 hR aj us r j h2 (by simpa using hj);refine⟨[J,O,Y,ab],_,?_,h1,this⟩;rw[show(j+1)*4=j*4+4 by omega,show j*4+4+1=j*4+1+4 by omega,show j*4+4+2=j*4+2+4 by omega,show j*4+4+3=j*4+3+4 by omega];simp[bf]
theorem A7:∀(ts us:List Tree) (j:Nat) (u:Tree),aN us=aN ts->j<us.length->u.bare=(ts.getD j default).bare->aN (us.set j u)=aN ts
 |[],[],j,u,_,hj,_=>by simp at hj
 |[],G::us,j,u,h,_,_=>by rw[aN,aN]at h;cases h
 |t::ts,[],j,u,_,hj,_=>by simp at hj
 |t::ts,G::us,0,u,h,_,e=>by rw[aN,aN,ii]at h;rw[List.getD_cons_zero]at e;rw[nu,aN,aN,h.2,e]
 |t::ts,G::us,j+1,u,h,hj,e=>by rw[aN,aN,ii]at h;rw[List.getD_cons_succ]at e;rw[bf,aN,aN,h.1,A7 ts us j u h.2 (by simpa using hj) e]
structure GB(g:Nat)(D:List Int)(h:Hp)(w:World)(t:Tree)(lv kv:Value)(h1:Hp)(wr:World)(ls:List Value):Prop where
 ds:aL g D h w h1 wr
 tb:Has wr w.heap.size #[af ae t.kind,ah t.text,lv,kv]
 tn:h1 w.heap.size=none
 rb:Has wr (w.heap.size+1) #[af ae 0,ah ⟨#[]⟩,ag none 0 0,ag none 0 0]
 rn:h1 (w.heap.size+1)=none
 lo:Ow wr h1 (w.heap.size+2) 9 1 lv t.leads.length ls
 jY:PcV ls
section
variable {g:Nat} {D:List Int} {h h1 h2:Hp} {w wr w2:World} {t:Tree} {lv kv:Value} {ls xs:List Value}
theorem Ow.ss{w w':World}{h h':Hp}{B:Nat}{e:TypeId}{k n:Nat}{v:Value}{xs:List Value}(o:Ow w h B e k v n xs)(s:aL g D h w h' w')(J:g<B):Ow w' h' B e k v n xs:=
 o.keep (fun b G=>s.gr.block b (o.lt b G).2 (fun e=>by have:=aU e;have:=(o.lt b G).1;omega)) (fun b G=>s.aI b (o.lt b G).2)
theorem GB.call(a:GB g D h w t lv kv h1 wr ls)(s:aL g D h1 wr h2 w2):GB g D h w t lv kv h2 w2 ls:=
 have G:=a.ds.lt
 ⟨a.ds.call s,a.tb.dst s (by omega),(s.aI _ a.tb.lt).trans a.tn,a.rb.dst s (by omega),(s.aI _ a.rb.lt).trans a.rn,a.lo.ss s (by omega),a.jY⟩
theorem GB.drew(a:GB g D h w t lv kv h1 wr ls):GB g D h w t lv kv h1 wr.drew ls:=by obtain⟨n,d⟩:=a.ds.bj;exact a.call ((aL.refl a.ds.I d).drew)
theorem GB.alloc(a:GB g D h w t lv kv h1 wr ls)(o:Obj):GB g D h w t lv kv h1 (wr.alloc o) ls:=by obtain⟨n,d⟩:=a.ds.bj;exact a.call ((aL.refl a.ds.I d).alloc o)
theorem GB.lead{G J:Nat}(a:GB g D h w t (ag (some ⟨G,0,none⟩) t.leads.length J) kv h1 wr ls)(i:Nat)(O:i<t.leads.length)(s:ByteArray)(hs:Sh1 s):GB g D h w t (ag (some ⟨G,0,none⟩) t.leads.length J) kv h1 (wr.setCell ⟨G,i,none⟩ (ah s)) (ls.set i (ah s)):=by
 have Y:=(a.lo.lt G rfl).1;have hf:=a.lo.free G rfl;refine⟨a.ds.setCell (p:=⟨G,i,none⟩) (by show _<=G;omega) hf _,a.tb.ne (by omega) _ _,a.tn,a.rb.ne (by omega) _ _,a.rn,a.lo.set i _ (by omega),fun v hv=> ?_⟩;rcases qu hv with hv|hv;·exact a.jY v hv
 ·exact⟨s,hv,hs⟩
end
structure iE(g:Nat)(D:List Int)(h:Hp)(w:World)(t:Tree)(lv kv:Value)(h1:Hp)(wr:World)(ls xs:List Value):Prop where
 a:GB g D h w t lv kv h1 wr ls
 ko:Ow wr h1 (w.heap.size+2) 26 4 kv t.kids.length xs
 lk:∀b,lv.ownBlock=some b->kv.ownBlock≠some b
 kids:∃us,aJ (bg h1) us xs/\aN us=aN t.kids/\∀u∈us,u.lb
section
variable {g:Nat} {D:List Int} {h h1 h2:Hp} {w wr w2:World} {t:Tree} {lv kv:Value} {ls xs:List Value}
theorem iE.call(q:iE g D h w t lv kv h1 wr ls xs)(s:aL g D h1 wr h2 w2):iE g D h w t lv kv h2 w2 ls xs:=by have Y:=q.a.ds.lt;obtain⟨us,G,J,O⟩:=q.kids;exact⟨q.a.call s,q.ko.ss s (by omega),q.lk,us,G.mono fun _ _ r=>r.mono s.le,J,O⟩
theorem iE.drew(q:iE g D h w t lv kv h1 wr ls xs):iE g D h w t lv kv h1 wr.drew ls xs:=by obtain⟨n,d⟩:=q.a.ds.bj;exact q.call ((aL.refl q.a.ds.I d).drew)
theorem vp{us ts:List Tree}(h:aN us=aN ts):us.length=ts.length:=by have:=congrArg List.length h;rwa[iY,iY,dL,dL]at this
theorem iE.get{gk ck:Nat}(q:iE g D h w t lv (ag (some ⟨gk,0,none⟩) t.kids.length ck) h1 wr ls xs)(j:Nat)(hj:j<t.kids.length):∃(u:Tree) (v0 J O Y:Value),bg h1 u [v0,J,O,Y]/\u.bare=t.kids[j].bare/\u.lb/\(wr.cell? ⟨gk,j*4,none⟩=some v0/\wr.cell? ⟨gk,j*4+1,none⟩=some J/\wr.cell? ⟨gk,j*4+2,none⟩=some O/\wr.cell? ⟨gk,j*4+3,none⟩=some Y)/\(∀i,wr.frozen? ⟨gk,i,none⟩=false)/\gk≠w.heap.size/\w.heap.size≠gk/\gk≠w.heap.size+1/\w.heap.size+1≠gk:=by
 obtain⟨us,ao,ab,ax⟩:=q.kids;have aJ:=vp ab;obtain⟨c4,am,G⟩:=ao.at 4 bg.len j (by omega);have aG:=(q.ko.lt gk rfl).1;obtain⟨g',ak,_,_,_,hc,hf⟩:=q.ko.cell (by omega);simp only[aC,cx,and_true]at ak;subst ak;have aB:=bg.len _ _ am
 match c4,aB with
 |[v0,J,O,Y],_=>
  refine⟨us[j],v0,J,O,Y,am,?_,ax _ (aK _),⟨hc _ _ (G 0 (by omega)),hc _ _ (G 1 (by omega)),hc _ _ (G 2 (by omega)),hc _ _ (G 3 (by omega))⟩,hf,by omega,by omega,by omega,by omega⟩;have aj:(aN us)[j]? =(aN t.kids)[j]? :=by rw[ab]
  rw[iY,iY,jB,jB,aE (by omega),aE hj]at aj;simpa using aj
theorem iE.b4{gk ck j:Nat}{u:Tree}{v0 O Y ab:Value}(q:iE g D h w t lv (ag (some ⟨gk,0,none⟩) t.kids.length ck) h1 wr ls xs)(hj:j<t.kids.length)(ax:bg h1 u [v0,O,Y,ab])(e:u.bare=t.kids[j].bare)(ao:u.lb):iE g D h w t lv (ag (some ⟨gk,0,none⟩) t.kids.length ck) h1 ((((wr.setCell ⟨gk,j*4,none⟩ v0).setCell ⟨gk,j*4+1,none⟩ O).setCell ⟨gk,j*4+2,none⟩ Y).setCell ⟨gk,j*4+3,none⟩ ab) ls ((((xs.set (j*4) v0).set (j*4+1) O).set (j*4+2) Y).set (j*4+3) ab):=by
 have aG:=(q.ko.lt gk rfl).1;have hf:=q.ko.free gk rfl;have J:lv.ownBlock≠some gk:=fun e=>q.lk gk e rfl;have G:∀{z:World} (i:Nat) (v:Value),aL g D h w h1 z->aL g D h w h1 (z.setCell ⟨gk,i,none⟩ v):=fun i v s=>s.setCell (p:=⟨gk,i,none⟩) (by show _<=gk;omega) hf _;have hx:=q.ko.len;obtain⟨us,ak,aj,am⟩:=q.kids;have aB:=vp aj
 refine⟨⟨G _ _ (G _ _ (G _ _ (G _ _ q.a.ds))),(((q.a.tb.ne (by omega) _ _).ne (by omega) _ _).ne (by omega) _ _).ne (by omega) _ _,q.a.tn,(((q.a.rb.ne (by omega) _ _).ne (by omega) _ _).ne (by omega) _ _).ne (by omega) _ _,q.a.rn,(((q.a.lo.setCell J _).setCell J _).setCell J _).setCell J _,q.a.jY⟩,
  (((q.ko.set _ v0 (by omega)).set _ O (by omega)).set _ Y (by omega)).set _ ab (by omega),q.lk,us.set j u,A6 bg.len ax _ _ _ ak (by omega),A7 _ _ _ _ aj (by omega) (by rw[getD_at hj];exact e),fun x hx=> ?_⟩
 rcases qu hx with hx|hx;·exact am x hx
 ·rw[hx];exact ao
end
theorem A8{h:Hp}:∀{us:List Tree} {xs:List Value},aJ (bg h) us xs->∀v∈xs,v.oneCell'=true
 |[],xs,e,v,hv=>by rw[aJ]at e;subst e;cases hv
 |u::us,xs,⟨a,r,he,h1,h2⟩,v,hv=>by
  subst he;rcases xm.1 hv with hv|hv;·obtain⟨al,J,G,ck,ys,rfl,-⟩:=bg.iff.1 h1;simp only[List.mem_cons,List.mem_nil_iff,or_false]at hv;rcases hv with rfl|rfl|rfl|rfl<;>rfl
  ·exact A8 h2 v hv
theorem GB.start{g:Nat}{D:List Int}{h:Hp}{w w1:World}{t:Tree}{ab kv G:Value}{n0:Nat}{o:Obj}{cT:Array Value}{J O:TypeId}(Y:ao h w)(d:cA h w g D n0)(hc:cT= #[af ae t.kind,ah t.text,ab,kv])(own:Ow w1 h (w.heap.size+2) 9 1 G t.leads.length (t.leads.map ah))(gr:(((w.alloc (.cells cT J)).alloc (.cells #[af ae 0,ah ⟨#[]⟩,ag none 0 0,ag none 0 0] O)).alloc o).grownBy w1 (some (w.heap.size+1+1)))(aj:∀s∈t.leads,s.size<=1000):GB g D h w t G kv h (w1.setCell ⟨w.heap.size,2,none⟩ G) (t.leads.map ah):=by
 subst hc;have s0:=(((aL.refl Y d).alloc (.cells #[af ae t.kind,ah t.text,ab,kv] J)).alloc (.cells #[af ae 0,ah ⟨#[]⟩,ag none 0 0,ag none 0 0] O)).alloc o;have am:=s0.grown gr fun q e=>by have:=aU e;exact⟨by omega,bI Y q (by omega)⟩
 have ax:=(((Has.new w #[af ae t.kind,ah t.text,ab,kv] J).alloc (.cells #[af ae 0,ah ⟨#[]⟩,ag none 0 0,ag none 0 0] O)).alloc o).grown gr (fun e=>by have:=aU e;omega);have r1:=((Has.kY w (.cells #[af ae t.kind,ah t.text,ab,kv] J) #[af ae 0,ah ⟨#[]⟩,ag none 0 0,ag none 0 0] O).alloc o).grown gr (fun e=>by have:=aU e;omega);have hn:h w.heap.size=none:=bI Y _ (kI _);have ak:G.ownBlock≠some w.heap.size:=fun e=>by have:=(own.lt _ e).1;omega
 refine⟨am.setCell (p:=⟨w.heap.size,2,none⟩) (kI _) hn _,?_,hn,r1.ne (by omega) _ _,bI Y _ (by omega),own.setCell ak _,fun v hv=> ?_⟩;·have:=ax.fg 2 (by simp) G;simpa using this
 ·obtain⟨s,hs,rfl⟩:=b6.1 hv;exact⟨s,rfl,aj s hs⟩
theorem iE.start{g:Nat}{D:List Int}{h:Hp}{w wr w2:World}{t:Tree}{lv kv G:Value}{ls ys:List Value}{o:Obj}(a:GB g D h w t lv kv h wr ls)(own:Ow w2 h (w.heap.size+2) 26 4 G t.kids.length ys)(gr:(wr.alloc o).grownBy w2 (some wr.heap.size))(hv:∀b,G.ownBlock=some b->wr.heap.size<=b)(he:aJ (bg h) t.kids ys)(O:∀u∈t.kids,u.lb):iE g D h w t lv G h (w2.setCell ⟨w.heap.size,3,none⟩ G) ls ys:=by
 have ax:=a.tb.lt;have ao:=a.rb.lt;have am:=a.ds.lt;obtain⟨n,d⟩:=a.ds.bj;have s0:=(a.ds.alloc o).grown gr fun q e=>by have:=aU e;exact⟨by omega,by subst this;exact bI a.ds.I _ (kI _)⟩
 have ak:=(a.tb.alloc o).grown gr (fun e=>by have:=aU e;omega);have r1:=(a.rb.alloc o).grown gr (fun e=>by have:=aU e;omega);have Y:=(a.lo.alloc o).grown gr (fun b J e=>by have:=(a.lo.lt b J).2;have:=aU e;omega);have aj:G.ownBlock≠some w.heap.size:=fun e=>by have:=(own.lt _ e).1;omega
 have ab:lv.ownBlock≠some w.heap.size:=fun e=>by have:=(a.lo.lt _ e).1;omega
 refine⟨⟨s0.setCell (p:=⟨w.heap.size,3,none⟩) (kI _) a.tn _,?_,a.tn,r1.ne (by omega) _ _,a.rn,Y.setCell ab _,a.jY⟩,own.setCell aj _,fun b J e=> ?_,t.kids,he,rfl,O⟩;·have:=ak.fg 3 (by simp) G;simpa using this
 ·have:=(a.lo.lt b J).2;have:=hv b e;omega
theorem aL.vq{g:Nat}{D:List Int}{h h1:Hp}{w w1:World}{B:Nat}{e:TypeId}{k n:Nat}{v:Value}{xs:List Value}(s:aL g D h w h1 w1)(o:Ow w1 h1 B e k v n xs)(am:w.heap.size<=B)(hn:n<=140737488355328):∃h',aL g D h w h' w1/\h1.le h'/\Sl h' v n k xs/\∀b,v.ownBlock≠some b->h' b=h1 b:=by
 obtain⟨h',Y,J,ab,aj⟩:=o.giveUp s.I hn;have ao:=s.lt;have same:∀b,v.ownBlock≠some b->h' b=h1 b:=fun b G=>ab b fun q O e=>G (by rw[O,e]);obtain⟨nd,d⟩:=s.bj;have ak:v.ownBlock≠some g:=fun e=>by have:=(o.lt g e).1;omega
 exact⟨h',⟨s.gr,Y,Hp.le_trans s.le J,fun b G=>(same b fun e=>by have:=(o.lt b e).1;omega).trans (s.aI b G),s.lt,nd,d.keep rfl (kI _) J ((same g ak).trans d.free)⟩,J,aj,same⟩
def IL(g:Nat)(D:List Int)(h:Hp)(w:World)(t:Tree)(e:Ending)(w':World):Prop:=∃v,e= .returned v/\∃h' t',aL g D h w h' w'/\aP h' v t'/\t'.bare=t.bare/\t'.lb
theorem IM{s:ByteArray}(h:decide (s.size<=1000)=true):Sh1 s:=(of_decide_eq_true h:s.size<=1000)
theorem IP:∀i,i<4->∃s,(#[ah ⟨#[32,35,32,99,10]⟩,ah ⟨#[32,32]⟩,ah ⟨#[10,9]⟩,ah ⟨#[35,10]⟩]:Array Value)[i]? =some (ah s)/\Sh1 s:=fun i G=>by obtain⟨s,a,b⟩:=ik [ah ⟨#[32,35,32,99,10]⟩,ah ⟨#[32,32]⟩,ah ⟨#[10,9]⟩,ah ⟨#[35,10]⟩] (fun s=>decide (s.size<=1000)) (by decide) i G;exact⟨s,a,IM b⟩
theorem IQ(g:Nat)(D:List Int)(m:Nat)(hm:m<=100000):∀(t:Tree) (_:t.size<=m) (_:t.lb) (h:Hp) (w:World) (_:ao h w) (n:Nat) (_:cA h w g D n) (v:Value) (_:aP h v t),Calls ai 82 #[.pointer (some ⟨g,0,none⟩),v] w (IL g D h w t):=by
 induction m with
 |zero=>intro t hn;have:=t.size_eq;omega
 |succ m co=>
  intro t ej a3 h w cd n0 d v cj;have bO:=aa cd;have cS:=aa d;have du:=aa (co (by omega));have hz:=Tree.size_eq t;rw[hz]at ej;have e4:=su t.kids;have dh:=aa ((Tree.og t).1 a3);have e3:=((Tree.og t).1 a3).1.1;have dg:Hid (∀u∈t.kids,u.lb):=sa ((Tree.og t).1 a3).2;obtain⟨al,bA,aX,ck,ys,rfl,ce,ec,d8,cg,ch,he⟩:=cj.open;have dk:=aa cg;have di:=aa ch;have cY:=aa he;have c9:=aa ce;have bR:Hid (∀u∈t.leads.map ah,u.oneCell'=true):=fun u ek=>by obtain⟨s,-,rfl⟩:=b6.1 ek;rfl
  have dw:Hid (∀u∈ys,u.oneCell'=true):=A8 he;have bz:Hid (ao h ((w.alloc (.cells #[af ae t.kind,ah t.text,ag al t.leads.length bA,ag aX t.kids.length ck] 26)).alloc (.cells #[af ae 0,ah ⟨#[]⟩,ag none 0 0,ag none 0 0] 26))):=(bO.out.alloc _).alloc _;clear co cj cd d ch cg he hz ce a3;go_in;go_wp2_with(at_builtin;refine s9 rW rfl _ _ rfl (St.dN (B:=w.heap.size+2) (bz.out.alloc _) (by simp)) (ag (some ⟨w.heap.size+1+1,0,none⟩) 0 0) 0 [] rfl (by have:=oP (B:=w.heap.size+2) bz.out (by simp) [] 0 1 9 (by simp[maxLen]) rfl;simpa using this) (ag al t.leads.length bA) t.leads.length (t.leads.map ah) rfl dk.out bR.out (by omega) ?_;intro cK w1 eH ba bI dA;rw[cO,ji]at ba;obtain⟨ab,c1,rfl⟩:=ba.shape;have aS:=aa (GB.start bO.out cS.out rfl ba bI dh.out.1.2);have J:=(((Has.new w #[af ae t.kind,ah t.text,ag al t.leads.length bA,ag aX t.kids.length ck] 26).alloc (.cells #[af ae 0,ah ⟨#[]⟩,ag none 0 0,ag none 0 0] 26)).alloc _).grown bI (show(some (w.heap.size+1+1):Option Nat)≠some w.heap.size from fun e=>by have:=aU e;omega);have dD:=J.cl 2;have dU:=J.fz 2;have eo:=J.lt;clear eH ba bI dA J);clear bz bR dD dU eo;obtain⟨⟨am,J,O,ax⟩,-⟩:=aS.out.tb.four;have ak:=aS.out.tb.lt;go_loopw[5] (fun i wr=>∃(j:Nat) (ls:List Value),j<=t.leads.length/\i=af ae j/\GB g D h w t (ag ab t.leads.length c1) (ag aX t.kids.length ck) h wr ls) (fun i _=>t.leads.length-(intOf i).toNat);case atStart=>exact⟨0,_,aW _,rfl,aS.out⟩
  case round=>
   obtain⟨j,ls,d6,rfl,aG⟩:=hrel;have aB:=aa aG;clear am J O ax ak aS;obtain⟨⟨am,J,O,ax⟩,-⟩:=aG.tb.four;have ak:=aG.tb.lt;obtain⟨nd,dd⟩:=aG.ds.bj;have aJ:=aa aG.ds.I;have bv:=aa dd;clear aG dd;by_cases hj:j<t.leads.length
   ·have cK:(0:Int)<=(j:Int):=by omega
    have cM:(j:Int)<(t.leads.length:Int):=by omega
    go_wp2_with fail;refine(dW h _ aJ.out g D nd bv.out 9 (by omega) (by omega)).mono ?_;rintro e w2 ⟨rfl,bL⟩;generalize a8 D nd 9=z;have Y:=aa (aB.out.call bL);clear bL am J O ax ak aB aJ bv;obtain⟨⟨am,J,O,ax⟩,-⟩:=Y.out.tb.four;have ak:=Y.out.tb.lt;by_cases a4:z=1
    ·have dZ:(z==1)=true:=by simpa using a4
     clear a4;obtain⟨bH,aY,d3,cu,-,b9,cc⟩:=Y.out.lo.cell (by omega);have eb:=Y.out.lo.len;have cV:=aa aY;subst aY;have ey:bH≠w.heap.size:=by omega
     have ez:w.heap.size≠bH:=by omega
     obtain⟨eM,cm⟩:∃y,ls[j]? =some y:=⟨_,aE (by omega)⟩
     have eW:=b9 j eM cm;have e0:=cc j;clear b9 cc cV eb cm;go_wp2_with fail
     go_region_held3(fun w'=>w'.cell? ⟨w.heap.size,2,none⟩=some (ag (some ⟨bH,0,none⟩) t.leads.length c1)) (first|(go_keep;done)|exact O) (first
      |(go_at_call 118;obtain⟨cw,bX⟩:=(Y.out.drew.alloc (.cells #[ah ⟨#[32,35,32,99,10]⟩,ah ⟨#[32,32]⟩,ah ⟨#[10,9]⟩,ah ⟨#[35,10]⟩] 9)).ds.bj;refine(jn h _ (Y.out.drew.alloc _).ds.I g D cw bX w2.heap.size 4 4 #[ah ⟨#[32,35,32,99,10]⟩,ah ⟨#[32,32]⟩,ah ⟨#[10,9]⟩,ah ⟨#[35,10]⟩] (P:=Sh1) (Has.new w2.drew _ _) (by have:=Y.out.ds.lt;omega) (by omega) (by omega) IP).mono ?_;rintro e w3 ⟨cz,rfl,ci,cC⟩;have dm:=aa ci;have aL:=aa ((Y.out.drew.alloc _).call cC);clear cC ci bX;have O:=aL.out.tb.cl 2;have e6:=aL.out.tb.lt;obtain⟨dY,aM,-,-,-,b0,a1⟩:=aL.out.lo.cell (by omega);have ea:=aL.out.lo.len;simp only[aC,cx,and_true]at aM;subst aM;obtain⟨eN,cn⟩:∃y,ls[j]? =some y:=⟨_,aE (by omega)⟩;have eX:=b0 j eN cn;have e1:=a1 j;clear b0 a1 ea cn))
     all_goals
      go_wp2_with fail;go_roundw;case rel=>exact⟨j+1,_,by omega,by go_num,aL.out.lead j hj cz dm.out⟩
      case measure=>simp[intOf];omega
    ·have dZ:(z==1)=false:=by simpa using a4
     clear a4;go_wp2_with fail;go_roundw;case rel=>exact⟨j+1,ls,by omega,by go_num,Y.out⟩
     case measure=>simp[intOf];omega
   ·obtain⟨bG,d4⟩:∃bG,bG=wr.heap.size:=⟨_,rfl⟩
    have c8:Hid (j=t.leads.length):=by unfold Hid;omega
    have eJ:¬(j:Int)<(t.leads.length:Int):=by omega
    have eK:decide ((j:Int)<(t.leads.length:Int))=false:=by simp;omega
    have eL:decide (j<t.leads.length)=false:=by simp;omega
    clear d4 bG;have ed:=aB.out.rb.lt
    go_wp2_with(at_builtin;refine s9 iJ rfl _ _ rfl (St.dN (B:=w.heap.size+2) (aJ.out.alloc _) (by simp;omega)) (ag (some ⟨wr.heap.size,0,none⟩) 0 0) 0 [] rfl (oP (B:=w.heap.size+2) aJ.out (by omega) [] 0 4 26 (by simp[maxLen]) rfl) (ag aX t.kids.length ck) t.kids.length ys rfl di.out dw.out (by omega) ?_;intro cM w2 eI bd bJ bS;rw[cO,ji]at bd;obtain⟨aj,c2,rfl⟩:=bd.shape;have aT:=aa (iE.start aB.out bd bJ (fun b a2=>by
     rcases bS with q|q;·rw[a2]at q;have:=aU q;dsimp only at this;omega
     ·rw[a2]at q;have:=aU q;simp at this;omega) cY.out dg.out);have bq:=(aB.out.tb.alloc (.cells #[] 26)).grown bJ (show(some wr.heap.size:Option Nat)≠some w.heap.size from fun e=>by have:=aU e;omega);have dE:=bq.cl 3;have dX:=bq.fz 3;have ep:=bq.lt;clear eI bd bJ bS bq)
    clear dE dX ep am J O ax ak aB aJ bv ed;obtain⟨⟨am,J,O,ax⟩,-⟩:=aT.out.a.tb.four;have ak:=aT.out.a.tb.lt;go_loopw[6] (fun i wr=>∃(j:Nat) (h1:Hp) (xs:List Value),j<=t.kids.length/\i=af ae j/\iE g D h w t (ag ab t.leads.length c1) (ag aj t.kids.length c2) h1 wr ls xs) (fun i _=>t.kids.length-(intOf i).toNat);case atStart=>exact⟨0,h,_,aW _,rfl,aT.out⟩
    case round=>
     obtain⟨j,h1,xs,d6,rfl,bm⟩:=hrel;have G:=aa bm;clear am J O ax ak aT eJ eK eL c8;obtain⟨⟨am,J,O,ax⟩,-⟩:=bm.a.tb.four;have ak:=bm.a.tb.lt;clear bm;by_cases hj:j<t.kids.length
     ·obtain⟨gk,aY,d3,cu,-,-,-⟩:=G.out.ko.cell (by omega);subst aY;obtain⟨el,d7⟩:∃k,k=c2:=⟨_,rfl⟩
      subst d7;obtain⟨u,w0,fh,fi,fj,bE,bC,cv,⟨dC,bT,bV,c3⟩,aO,ey,ez,e8,e9⟩:=G.out.get j hj;obtain⟨cD,uc,cF,cG,ff,e,-⟩:=bg.iff.1 bE;simp only[ii,and_true]at e;obtain⟨rfl,rfl,rfl,rfl⟩:=e;have c1:=bT;have c2:=bV;have dr:Hid (aP h1 (aq #[af ae u.kind,ah u.text,ag cD u.leads.length uc,ag cF u.kids.length cG]) u):=⟨_,rfl,bE⟩
      have dt:Hid (u.size<=m):=by have:=congrArg Tree.size bC;rw[l3,l3]at this;have:=dB (aK hj);unfold Hid;omega
      have dp:=aa cv;have dn:=aa bC;have cZ:=aa cu;have c6:Hid (gk≠g):=by have:=G.out.a.ds.lt;unfold Hid;omega
      have cK:(0:Int)<=(j:Int):=by omega
      have cM:(j:Int)<(t.kids.length:Int):=by omega
      have dP:=aO (j*4);have dQ:=aO (j*4+1);have dR:=aO (j*4+2);have dT:=aO (j*4+3);clear aO bE bC cv bT bV;go_upto_region 11 with fail;refine K6 ?_;refine nE (n:=11) (S:=fun w'=>w'.cell? ⟨w.heap.size,3,none⟩=some (ag (some ⟨gk,0,none⟩) t.kids.length el)/\w'.cell? ⟨gk,j*4,none⟩=some (af ae u.kind)/\w'.cell? ⟨gk,j*4+1,none⟩=some (ah u.text)/\w'.cell? ⟨gk,j*4+2,none⟩=some (ag cD u.leads.length uc)/\w'.cell? ⟨gk,j*4+3,none⟩=some (ag cF u.kids.length cG)) (by kernel_rfl) ?_ (fun e2=> ?_);·go_keep
      simp only[kD,aA,j6,bF,cL,cO,fM]
      iterate 9
       refine iL (v:= ?_) 0 rfl (by kernel_rfl) (fun _ _ _ h=>h) (by rfl) (by assumption) ?_ ?_
       rotate_left
       ·intro w d2;(try dsimp only at d2);simp only[nx];go_simp<;>with_reducible rfl
       simp only[nx,br,eV,dV,dJ,bh,nu,bf]
      refine cE (rs:=[9]) (by kernel_rfl) (by simp) ?_;refine aZ.cons (o:=_) rfl (fun K hK=> ?_) aZ.nil;go_simp;go_at_call 82;obtain⟨nd,dd⟩:=G.out.drew.a.ds.bj;refine(du.out u dt.out dp.out h1 _ G.out.drew.a.ds.I nd dd _ (dr.out)).mono ?_;rintro e cN ⟨fg,rfl,h7,fe,bp,bN,bY,ct⟩;obtain⟨eP,eZ,eO,eY,-,rfl,-,-,-,-,-,-⟩:=bN.open;have cU:=aa (wa bN);have cX:=aa (bY.trans dn.out);have dv:=aa ct;have aV:=aa (G.out.drew.call bp);have cQ:=aV.out.a.tb.cl 3;have e7:=aV.out.a.tb.lt;have d5:=bp.gr;have aQ:∀i,cN.cell? ⟨gk,i,none⟩=wr.cell? ⟨gk,i,none⟩:=fun i=>World.cell?_of_block (a:=⟨gk,i,none⟩) (bp.gr.block gk cZ.out (fun e=>c6.out (aU e)));have eA:=(aQ (j*4)).trans dC;have eB:=(aQ (j*4+1)).trans c1;have eC:=(aQ (j*4+2)).trans c2;have eD:=(aQ (j*4+3)).trans c3;have aN:∀i,cN.frozen? ⟨gk,i,none⟩=false:=fun i=>by obtain⟨dY,aM,-,-,-,-,a1⟩:=aV.out.ko.cell (by omega);simp only[aC,cx,and_true]at aM;subst aM;exact a1 i
      have dP:=aN (j*4);have dQ:=aN (j*4+1);have dR:=aN (j*4+2);have dT:=aN (j*4+3);clear bN bp bY ct dd aQ aN d5;refine hK.out _ _ (fun _=> ?_) ?_;·exact⟨cQ,eA,eB,eC,eD⟩
      clear hK K;try simp only[bh,nu,bf]
      refine cE (rs:=[10]) (by kernel_rfl) (by simp) ?_;refine aZ.cons (o:=_) rfl (fun K hK=> ?_) aZ.nil;go_simp;refine hK.out _ _ (fun _=> ?_) ?_;·go_keep
      clear hK K;try simp only[bh,nu,bf]
      refine cE (rs:=[11]) (by kernel_rfl) (by simp) ?_;refine aZ.cons (o:=_) rfl (fun K hK=> ?_) aZ.nil;go_simp;refine hK.out _ _ (fun h=>absurd h (by decide)) ?_;clear hK K;try simp only[bh,nu,bf]
      refine lK (by kernel_rfl) ?_ _;simp only[NoPanic];go_wp2_with fail;go_roundw;case rel=>exact⟨j+1,h7,_,by omega,by go_num,aV.out.b4 hj cU.out cX.out dv.out⟩
      case measure=>simp[intOf];omega
     ·obtain⟨⟨r0,r1,r2,eE⟩,s0,fc,bL,cz⟩:=G.out.a.rb.four;have e5:=G.out.a.rb.lt;have cw:w.heap.size+1≠w.heap.size:=by omega
      have fb:w.heap.size≠w.heap.size+1:=by omega
      have cQ:¬(j:Int)<(t.kids.length:Int):=by omega
      have fr:decide ((j:Int)<(t.kids.length:Int))=false:=by simp;omega
      have ft:decide (j<t.kids.length)=false:=by simp;omega
      go_wp2_with fail;refine aF (v:=aq #[af ae t.kind,ah t.text,ag ab t.leads.length c1,ag aj t.kids.length c2]) (by simp[aH,Tryz.results82,go_sem,r0,r1,r2,eE]) rfl ?_;have ei:=G.out.a.rn;have ds:=G.out.a.ds.aM (b:=w.heap.size+1) (my _) ei (af ae t.kind) (ah t.text) (ag ab t.leads.length c1) (ag aj t.kids.length c2);have a9:(ag ab t.leads.length c1).ownBlock≠some (w.heap.size+1):=fun e=>by have:=(G.out.a.lo.lt _ e).1;omega
      have a5:(ag aj t.kids.length c2).ownBlock≠some (w.heap.size+1):=fun e=>by have:=(G.out.ko.lt _ e).1;omega
      have er:=(((G.out.a.lo.setCell (p:=⟨w.heap.size+1,0,none⟩) a9 (af ae t.kind)).setCell (p:=⟨w.heap.size+1,1,none⟩) a9 (ah t.text)).setCell (p:=⟨w.heap.size+1,2,none⟩) a9 (ag ab t.leads.length c1)).setCell (p:=⟨w.heap.size+1,3,none⟩) a9 (ag aj t.kids.length c2);have em:=(((G.out.ko.setCell (p:=⟨w.heap.size+1,0,none⟩) a5 (af ae t.kind)).setCell (p:=⟨w.heap.size+1,1,none⟩) a5 (ah t.text)).setCell (p:=⟨w.heap.size+1,2,none⟩) a5 (ag ab t.leads.length c1)).setCell (p:=⟨w.heap.size+1,3,none⟩) a5 (ag aj t.kids.length c2);obtain⟨h2,dF,l2,cB,eG⟩:=ds.vq er (by omega) ec;have en:=em.keep (h':=h2) (fun _ _=>rfl) (fun b a2=>eG b fun e=>G.out.lk b e a2);obtain⟨d1,dG,cq,eF,fd⟩:=dF.vq en (by omega) d8;obtain⟨us,dN,bB,dO⟩:=G.out.kids;obtain⟨l,bZ,d9⟩:=Lu G.out.a.jY;have cl:=vp bB;have cf:l.length=t.leads.length:=by have:=G.out.a.lo.len;rw[bZ,dL]at this;omega
      refine⟨_,rfl,d1,.node t.kind t.text l us,dG,⟨[af ae t.kind,ah t.text,ag ab t.leads.length c1,ag aj t.kids.length c2],rfl,?_⟩,?_,?_⟩
      ·rw[bg.iff];refine⟨ab,c1,aj,c2,xs,?_,c9.out,?_,?_,dN.mono fun _ _ r=>r.mono (Hp.le_trans l2 cq)⟩;·simp only[Tree.kind,Tree.text,Tree.leads,Tree.kids,cf,cl]
       ·simp only[Tree.leads,cf];rw[bZ]at cB;exact cB.mono cq
       ·simp only[Tree.kids,cl];exact eF
      ·cases t;rw[Tree.bare,Tree.bare];simp only[Tree.kids,Tree.kind,Tree.text]at bB⊢;rw[bB]
      ·rw[Tree.lb];exact⟨⟨by omega,d9⟩,u6 dO⟩
theorem aL.Bb{g:Nat}{D:List Int}{h h':Hp}{w w':World}{n:Nat}(d:cA h w g D n)(s:St w.heap.size h w h' w'):aL g D h w h' w':=
 ⟨⟨s.below.os,s.below.tape,s.below.output,s.below.size,fun k G _=>s.below.block k G⟩,s.I,s.le,s.aI,d.lt,n,d.keep (s.below.block _ d.lt) s.below.size s.le ((s.aI _ d.lt).trans d.free)⟩
structure ht(g:Nat)(D:List Int)(nm:ByteArray)(h:Hp)(w:World)(h1:Hp)(wr:World)(n:Nat)(v:Value)(xs:List Value):Prop where
 ds:aL g D h w h1 wr
 rb:Has wr w.heap.size #[af ae 0,ah ⟨#[]⟩,ag none 0 0,ag none 0 0]
 rn:h1 w.heap.size=none
 tb:Has wr (w.heap.size+1) #[af ae 1,ah nm,ag none 0 0,v]
 tn:h1 (w.heap.size+1)=none
 row:Ow wr h1 (w.heap.size+2) 26 4 v n xs
 enc:∃ts,aJ (bg h1) ts xs/\ts.length=n/\∀d∈ts,MD d
section
variable {g:Nat} {D:List Int} {nm:ByteArray} {h h1 h2:Hp} {w wr w2:World} {n:Nat} {v:Value} {xs:List Value}
theorem ht.call(a:ht g D nm h w h1 wr n v xs)(s:aL g D h1 wr h2 w2):ht g D nm h w h2 w2 n v xs:=by have Y:=a.ds.lt;obtain⟨ts,G,J,O⟩:=a.enc;exact⟨a.ds.call s,a.rb.dst s (by omega),(s.aI _ a.rb.lt).trans a.rn,a.tb.dst s (by omega),(s.aI _ a.tb.lt).trans a.tn,a.row.ss s (by omega),ts,G.mono fun _ _ r=>r.mono s.le,J,O⟩
theorem ht.drew(a:ht g D nm h w h1 wr n v xs):ht g D nm h w h1 wr.drew n v xs:=by obtain⟨n,d⟩:=a.ds.bj;exact a.call ((aL.refl a.ds.I d).drew)
theorem ht.alloc(a:ht g D nm h w h1 wr n v xs)(o:Obj):ht g D nm h w h1 (wr.alloc o) n v xs:=by obtain⟨n,d⟩:=a.ds.bj;exact a.call ((aL.refl a.ds.I d).alloc o)
theorem ht.vr(a:ht g D nm h w h1 wr n v xs):St (w.heap.size+2) h1 wr h1 wr:=St.dN a.ds.I (by have:=a.tb.lt;omega)
theorem ht.qp(a:ht g D nm h w h1 wr n v xs)(q:wr.grownBy w2 v.ownBlock):Has w2 (w.heap.size+1) #[af ae 1,ah nm,ag none 0 0,v]:=a.tb.grown q fun e=>by have:=(a.row.lt _ e).1;omega
theorem ht.next{v' G J O Y:Value}{u:Tree}(a:ht g D nm h w h1 wr n v xs)(own:Ow w2 h1 (w.heap.size+2) 26 4 v' (n+1) (xs++[G,J,O,Y]))(q:wr.grownBy w2 v.ownBlock)(_bk:v'.ownBlock=v.ownBlock\/v'.ownBlock=some wr.heap.size)(am:bg h1 u [G,J,O,Y])(hm:MD u):ht g D nm h w h1 (w2.setCell ⟨w.heap.size+1,3,none⟩ v') (n+1) v' (xs++[G,J,O,Y]):=by
 obtain⟨ts,ab,aj,ak⟩:=a.enc;have ax:=a.tb.lt;have rb:=a.rb.grown q fun e=>by have:=(a.row.lt _ e).1;omega
 have ds:=a.ds.grown q fun k e=>⟨by have:=(a.row.lt k e).1;omega,a.row.free k e⟩
 have ao:v'.ownBlock≠some (w.heap.size+1):=fun e=>by have:=(own.lt _ e).1;omega
 refine⟨ds.setCell (p:=⟨w.heap.size+1,3,none⟩) (my _) a.tn _,rb.ne (by omega) _ _,a.rn,?_,a.tn,own.setCell ao _,ts++[u],ab.append (aJ.one am),by simp[aj],fun d hd=> ?_⟩;·have:=(a.qp q).fg 3 (by simp) v';simpa using this
 ·rcases xm.1 hd with hd|hd;·exact ak d hd
  ·rw[eR.1 hd];exact hm
end
def PM(t:Tree):Prop:=t.lb/\(MM t\/t.bare=ly)
def Bc(g:Nat)(D:List Int)(h:Hp)(w:World)(e:Ending)(w':World):Prop:=∃v,e= .returned v/\∃h' t',aL g D h w h' w'/\aP h' v t'/\PM t'
theorem Jh:ly.lb:=by rw[ly,Tree.lb,l6];exact⟨⟨by simp,fun s hs=>by cases hs⟩,trivial⟩
theorem Ji:ly.bare=ly:=by rw[ly,Tree.bare,aN]
theorem PM.of{t t':Tree}(G:MM t)(d:A5 t t'):PM t':=by
 rcases d with⟨e,l⟩|rfl;·exact⟨l,.inl (G.same e)⟩
 ·exact⟨Jh,.inr Ji⟩
theorem PM.Jj{t t':Tree}(h:PM t)(e:t'.bare=t.bare)(l:t'.lb):PM t':=⟨l,h.2.imp (fun m=>m.same e) (fun b=>e.trans b)⟩
theorem PM.size{t:Tree}(h:PM t):t.size<=100000:=by
 rcases h.2 with m|b;·have:=m.size;omega
 ·have:=congrArg Tree.size b;rw[l3]at this;rw[this];simp[ly,Tree.size,ax]
structure l7(g:Nat)(D:List Int)(h:Hp)(w:World)(h1:Hp)(wr:World)(t:Tree)(a b c d:Value):Prop where
 ds:aL g D h w h1 wr
 rb:Has wr w.heap.size #[af ae 0,ah ⟨#[]⟩,ag none 0 0,ag none 0 0]
 rn:h1 w.heap.size=none
 tb:Has wr (w.heap.size+1) #[a,b,c,d]
 tn:h1 (w.heap.size+1)=none
 tv:aP h1 (aq #[a,b,c,d]) t
 pm:PM t
section
variable {g:Nat} {D:List Int} {h h1 h2:Hp} {w wr w2:World} {t u:Tree} {a b c d a' b' c' d':Value}
theorem l7.call(q:l7 g D h w h1 wr t a b c d)(s:aL g D h1 wr h2 w2):l7 g D h w h2 w2 t a b c d:=by have G:=q.ds.lt;exact⟨q.ds.call s,q.rb.dst s (by omega),(s.aI _ q.rb.lt).trans q.rn,q.tb.dst s (by omega),(s.aI _ q.tb.lt).trans q.tn,q.tv.mono s.le,q.pm⟩
theorem l7.make(ds:aL g D h w h1 wr)(rb:Has wr w.heap.size #[af ae 0,ah ⟨#[]⟩,ag none 0 0,ag none 0 0])(rn:h1 w.heap.size=none)(tb:Has wr (w.heap.size+1) #[a,b,c,d])(tn:h1 (w.heap.size+1)=none)(tv:aP h1 (aq #[a',b',c',d']) u)(G:PM u):l7 g D h w h1 ((((wr.setCell ⟨w.heap.size+1,0,none⟩ a').setCell ⟨w.heap.size+1,1,none⟩ b').setCell ⟨w.heap.size+1,2,none⟩ c').setCell ⟨w.heap.size+1,3,none⟩ d') u a' b' c' d':=
 ⟨ds.aM (my _) tn _ _ _ _,(((rb.ne (by omega) _ _).ne (by omega) _ _).ne (by omega) _ _).ne (by omega) _ _,rn,tb.aM _ _ _ _,tn,tv,G⟩
theorem l7.fin(q:l7 g D h w h1 wr t a b c d):Bc g D h w (.returned (aq #[a,b,c,d])) ((((wr.setCell ⟨w.heap.size,0,none⟩ a).setCell ⟨w.heap.size,1,none⟩ b).setCell ⟨w.heap.size,2,none⟩ c).setCell ⟨w.heap.size,3,none⟩ d):=
 ⟨_,rfl,h1,t,q.ds.aM (kI _) q.rn _ _ _ _,q.tv,q.pm⟩
end
theorem Jk(g:Nat)(D:List Int)(nm:ByteArray)(ci:fu 1 nm=true)(ch:nm.size=1)(h:Hp)(w:World)(aY:ao h w)(n0:Nat)(d:cA h w g D n0):Calls ai 41 #[.pointer (some ⟨g,0,none⟩),ah nm] w (Bc g D h w):=by
 have dO:=aa aY;have cM:=aa ci;have cG:=aa ch
 have aV:Hid (ht g D nm h w h ((w.alloc (.cells #[af ae 0,ah ⟨#[]⟩,ag none 0 0,ag none 0 0] 26)).alloc (.cells #[af ae 1,ah nm,ag none 0 0,ag none 0 0] 26)) 0 (ag none 0 0) []):=
  ⟨((aL.refl aY d).alloc _).alloc _,(Has.new _ _ _).alloc _,bI aY _ (kI _),Has.kY _ _ _ _,bI aY _ (by omega),Ow.nil _ _ _ _ _,[],by simp[aJ],rfl,fun d hd=>by cases hd⟩
 clear aY d ci ch;go_in;go_wp2_with fail;generalize(w.alloc (.cells #[af ae 0,ah ⟨#[]⟩,ag none 0 0,ag none 0 0] 26)).alloc (.cells #[af ae 1,ah nm,ag none 0 0,ag none 0 0] 26)=w0 at aV⊢;obtain⟨a9,bY⟩:=aV.out.ds.bj;refine(dW h _ aV.out.ds.I g D a9 bY 4 (by omega) (by omega)).mono ?_;rintro e w2 ⟨rfl,aB⟩;have cZ:=jo D a9 4 (by omega);generalize a8 D a9 4=z at*;obtain⟨cl,rfl⟩:∃k:Nat,z=(k:Int):=⟨z.toNat,by omega⟩
 have dX:cl<=3:=by omega
 have bN:=aa (aV.out.call aB);clear aB aV bY cZ;go_wp2_with fail;go_loopw[6] (fun i wr=>∃(k Y:Nat) (h1:Hp) (v:Value) (xs:List Value),k+Y<=3/\i=af ae k/\ht g D nm h w h1 wr Y v xs) (fun i _=>(intOf i).toNat);case atStart=>exact⟨cl,0,h,_,_,by omega,rfl,bN.out⟩
 case round=>
  obtain⟨k,Y,h1,v,xs,dY,rfl,a1⟩:=hrel;obtain⟨av,ax,rfl⟩:=a1.row.shape;have J:=aa a1;obtain⟨⟨aO,aQ,aS,aT⟩,-⟩:=a1.tb.four;have aM:=a1.tb.lt;clear a1 bN;by_cases dU:0<k
  ·have dC:(0:Int)<(k:Int):=by omega
   go_upto_region 5 with fail;refine K6 ?_;refine nE (n:=7) (S:=fun w'=>w'.cell? ⟨w.heap.size+1,3,none⟩=some (ag av Y ax)) (by kernel_rfl) ?_ (fun dT=> ?_);·go_keep
   simp only[kD,aA,j6,bF,cL,cO,fM]
   iterate 3
    refine iL (v:= ?_) 0 rfl (by kernel_rfl) (fun _ _ _ h=>h) (by rfl) (by assumption) ?_ ?_
    rotate_left
    ·intro w di;(try dsimp only at di);simp only[nx];go_simp<;>with_reducible rfl
    simp only[nx,br,eV,dV,dJ,bh,nu,bf]
   refine cE (rs:=[3]) (by kernel_rfl) (by simp) ?_;refine aZ.cons (o:=_) rfl (fun K hK=> ?_) aZ.nil;go_simp;go_at_call 80;obtain⟨nd,dd⟩:=J.out.drew.ds.bj;refine(CN h1 _ J.out.drew.ds.I g D nd dd).mono ?_;rintro e dE ⟨d5,rfl,h7,bm,cw,bH,co⟩;obtain⟨cY,dg,cV,c8,-,rfl,-,-,-,-,-,-⟩:=bH.open;have cC:=aa (wa bH);have cF:=aa co;have aX:=aa (J.out.drew.call cw);have dG:=aX.out.tb.cl 3;clear bH cw co dd;refine hK.out _ _ (fun _=> ?_) ?_;·exact dG
   clear hK K;try simp only[bh,nu,bf]
   refine cE (rs:=[4]) (by kernel_rfl) (by simp) ?_;refine aZ.cons (o:=_) rfl (fun K hK=> ?_) aZ.nil;go_simp;refine hK.out _ _ (fun _=> ?_) ?_;·go_keep
   clear hK K;try simp only[bh,nu,bf]
   refine cE (rs:=[5]) (by kernel_rfl) (by simp) ?_;refine aZ.cons (o:=_) rfl (fun K hK=> ?_) aZ.nil;refine gS iJ (by rfl) _ _ (by rfl) (aX.out.alloc _).vr (ag av Y ax) Y xs (by rfl) (aX.out.alloc _).row ⟨dE.heap.size,0,none⟩ 1 1 [af ae bm.kind,ah bm.text,ag cY bm.leads.length dg,ag cV bm.kids.length c8] (by rfl) (by rfl) (cK _ _ _ _ rfl) (cm _ rfl) (by omega) (by omega) ?_;intro dQ cg dF dB ct bB bT;have cB:=aa ((aX.out.alloc _).next ct bB bT cC.out cF.out);have a2:=(aX.out.alloc _).qp bB;have dN:dF.cell? ⟨w.heap.size+1,3,none⟩=some (ag av Y ax):=a2.cl 3;have dP:=a2.fz 3;have dZ:=a2.lt;clear dB ct bB bT a2;refine hK.out _ _ (fun _=> ?_) ?_;·exact dN
   clear hK K;try simp only[br,bh,nu,bf]
   refine cE (rs:=[6]) (by kernel_rfl) (by simp) ?_;refine aZ.cons (o:=_) rfl (fun K hK=> ?_) aZ.nil;go_simp;refine hK.out _ _ (fun _=> ?_) ?_;·go_keep
   clear hK K;try simp only[bh,nu,bf]
   refine cE (rs:=[7]) (by kernel_rfl) (by simp) ?_;refine aZ.cons (o:=_) rfl (fun K hK=> ?_) aZ.nil;go_simp;refine hK.out _ _ (fun h=>absurd h (by decide)) ?_;clear hK K;try simp only[bh,nu,bf]
   refine lK (by kernel_rfl) ?_ _;simp only[NoPanic];have d2:ae.wrap ((k:Int)-1)=((k-1:Nat):Int):=by rw[bA (by omega)];omega
   go_wp2_with fail;go_roundw;case rel=>exact⟨k-1,Y+1,h7,_,_,by omega,by go_num,cB.out⟩
   case measure=>simp[intOf];omega
  ·have dC:¬(0:Int)<(k:Int):=by omega
   have d3:decide ((0:Int)<(k:Int))=false:=by simp;omega
   have dD:decide (0<k)=false:=by simp;omega
   have a9:w.heap.size+1≠w.heap.size:=by omega
   have d1:w.heap.size≠w.heap.size+1:=by omega
   obtain⟨ts,cc,bz,cd⟩:=J.out.enc;obtain⟨h2,bZ,l2,sl,bC⟩:=J.out.ds.vq J.out.row (by omega) (by omega)
   have cz:aP h2 (aq #[af ae 1,ah nm,ag none 0 0,ag av Y ax]) (.node 1 nm [] ts):=by
    refine⟨_,rfl,?_⟩;rw[bg.iff];refine⟨none,0,av,ax,xs,?_,by unfold aG;simp[Tree.kind],Sl.nil _ _ _ _,?_,cc.mono fun _ _ r=>r.mono l2⟩;·simp only[Tree.kind,Tree.text,Tree.leads,Tree.kids,bz,cL]
    ·simp only[Tree.kids,bz];exact sl
   have cq:MM (.node 1 nm [] ts):=HN cM.out cG.out (by omega) cd;have nr:(ag av Y ax).ownBlock≠some w.heap.size:=fun e=>by have:=(J.out.row.lt _ e).1;omega
   have nt:(ag av Y ax).ownBlock≠some (w.heap.size+1):=fun e=>by have:=(J.out.row.lt _ e).1;omega
   have bO:=aa J.out.rb;have bv:=aa J.out.tb;have cN:Hid (h2 w.heap.size=none):=(bC _ nr).trans J.out.rn;have cQ:Hid (h2 (w.heap.size+1)=none):=(bC _ nt).trans J.out.tn;have bp:=aa bZ;have bq:=aa cq;have cS:=aa cz;clear cc bz cd bZ l2 sl bC cz cq nr nt;go_wp2_with fail;refine(IJ _ (by have:=bq.out.size;omega) bq.out.2.2.2.2 h2 wr bp.out.I _ cS.out).mono ?_;rintro e w3 ⟨dD,cf,aj,rfl,O,bE,b9⟩;obtain⟨bS,bX,bR,bV,-,rfl,-,-,-,-,-,-⟩:=bE.open;obtain⟨nd,dd⟩:=bp.out.bj;have bL:=aL.Bb dd O;have am:=aa (l7.make (bp.out.call bL) (bO.out.below O.below) ((O.aI _ bO.out.lt).trans cN.out) (bv.out.below O.below) ((O.aI _ bv.out.lt).trans cQ.out) bE (PM.of bq.out b9));have ak:=bv.out.below O.below;have dk:=ak.cl 0;have dm:=ak.cl 1;have dn:=ak.cl 2;have dp:=ak.cl 3;have dr:=ak.fz 0;have dt:=ak.fz 1;have du:=ak.fz 2;have dv:=ak.fz 3;have dw:=ak.lt;clear ak bL dd O bE b9 aO aQ aS aT aM;go_upto_region 7 with fail;obtain⟨d6,cj⟩:∃W,W=(((w3.setCell ⟨w.heap.size+1,0,none⟩ (af ae aj.kind)).setCell ⟨w.heap.size+1,1,none⟩ (ah aj.text)).setCell ⟨w.heap.size+1,2,none⟩ (ag bS aj.leads.length bX)).setCell ⟨w.heap.size+1,3,none⟩ (ag bR aj.kids.length bV):=⟨_,rfl⟩
   rw[<-cj]at am⊢;clear cj dk dm dn dp dr dt du dv dw;obtain⟨⟨aO,aQ,aS,aT⟩,g0,g1,g2,a3⟩:=am.out.tb.four;obtain⟨⟨r0,r1,r2,aN⟩,s0,ba,aB,O⟩:=am.out.rb.four;have aM:=am.out.tb.lt;have a5:=am.out.rb.lt;obtain⟨nd,dd⟩:=am.out.ds.bj;go_wp2_with fail;refine(dW cf _ am.out.ds.I g D nd dd 2 (by omega) (by omega)).mono ?_;rintro e d7 ⟨rfl,cu⟩;generalize a8 D nd 2=bJ;have G:=aa (am.out.call cu);clear cu dd aO aQ aS aT g0 g1 g2 a3 r0 r1 r2 aN s0 ba aB O aM a5;obtain⟨⟨aO,aQ,aS,aT⟩,g0,g1,g2,a3⟩:=G.out.tb.four;obtain⟨⟨r0,r1,r2,aN⟩,s0,ba,aB,O⟩:=G.out.rb.four;have aM:=G.out.tb.lt;have a5:=G.out.rb.lt;by_cases a4:bJ=0
   ·have dh:(bJ==0)=true:=by simpa using a4
    clear a4;go_wp2_with fail;obtain⟨dA,b0⟩:=G.out.ds.bj;refine(IQ g D aj.size G.out.pm.size aj (kI _) G.out.pm.1 cf _ G.out.ds.I dA b0 _ G.out.tv).mono ?_;rintro e d8 ⟨d4,rfl,dR,bd,cv,bG,ce,cn⟩;obtain⟨cX,c9,cU,c6,-,rfl,-,-,-,-,-,-⟩:=bG.open;have ab:=G.out.call cv;have cD:=aa (l7.make ab.ds ab.rb ab.rn ab.tb ab.tn bG (G.out.pm.Jj ce cn));clear b0 cv bG ce cn aO aQ aS aT g0 g1 g2 a3 r0 r1 r2 aN s0 ba aB O aM a5;obtain⟨⟨aO,aQ,aS,aT⟩,g0,g1,g2,a3⟩:=ab.tb.four;obtain⟨⟨r0,r1,r2,aN⟩,s0,ba,aB,O⟩:=ab.rb.four;have aM:=ab.tb.lt;have a5:=ab.rb.lt;clear ab;go_wp2_with fail;refine aF (v:=aq #[af ae bd.kind,ah bd.text,ag cX bd.leads.length c9,ag cU bd.kids.length c6]) (by simp[aH,Tryz.results41,go_sem,r0,r1,r2,aN]) rfl ?_;exact cD.out.fin
   ·have dh:(bJ==0)=false:=by simpa using a4
    clear a4;go_wp2_with fail;refine aF (v:=aq #[af ae aj.kind,ah aj.text,ag bS aj.leads.length bX,ag bR aj.kids.length bV]) (by simp[aH,Tryz.results41,go_sem,r0,r1,r2,aN]) rfl ?_;exact G.out.fin
def PV(t:Tree):Prop:=t.lb/\(MM t\/(t.kind=0/\t.kids=[]/\t.text.size<=1000))
theorem PM.pv{t:Tree}(h:PM t):PV t:=by
 refine⟨h.1,h.2.imp id fun b=> ?_⟩;have G:=o8 t;have J:=o9 t;have O:=rT t;rw[b]at G J O;refine⟨G.symm,?_,by rw[<-J];decide⟩;have:aN t.kids=[]:=O.symm;cases hk:t.kids with
 |nil=>rfl
 |cons a l=>rw[hk,aN]at this;cases this
theorem Jl:fu 1 ⟨#[65]⟩=true:=by kernel_rfl
theorem PV.named{k:Int}{s:ByteArray}{l:List ByteArray}{G:List Tree}(h:PV (.node k s l G)):PV (.node k ⟨#[65]⟩ l G):=by refine⟨?_,h.2.imp (fun m=>m.named Jl rfl) fun⟨a,b,_⟩=>⟨a,b,by simp[Tree.text];decide⟩⟩;have:=h.1;rw[Tree.lb]at this⊢;exact this
theorem PV.vt{t:Tree}(h:PV t):VT t:=by
 rcases h.2 with m|⟨a,b,c⟩;·exact .inr ⟨m.2.2.2.2,h.1⟩
 ·exact .inl ⟨a,b,c,h.1⟩
theorem PV.size{t:Tree}(h:PV t):t.size<=100000:=by
 rcases h.2 with m|⟨a,b,c⟩;·have:=m.size;omega
 ·rw[t.size_eq,b];simp[ax]
theorem PV.mm{t:Tree}(h:PV t)(k:t.kind≠0):MM t:=h.2.resolve_right fun q=>k q.1
structure gK(g bn:Nat)(D:List Int)(h:Hp)(w:World)(h1:Hp)(wr:World)(n:Nat)(v:Value)(xs:List Value):Prop where
 st:St w.heap.size h w h1 wr
 bj:∃k,cA h1 wr g D k
 gb:w.heap.size<=g/\g<bn
 nb:Has wr bn #[ah ⟨#[65]⟩,ah ⟨#[66]⟩,ah ⟨#[67]⟩]
 row:Ow wr h1 (bn+1) 26 4 v n xs
 enc:∃ts,aJ (bg h1) ts xs/\ts.length=n/\∀t∈ts,MM t
section
variable {g bn:Nat} {D:List Int} {h h1 h2:Hp} {w wr w2:World} {n:Nat} {v:Value} {xs:List Value}
theorem gK.call(a:gK g bn D h w h1 wr n v xs)(s:aL g D h1 wr h2 w2):gK g bn D h w h2 w2 n v xs:=by have Y:=a.gb;obtain⟨ts,G,J,O⟩:=a.enc;exact⟨a.st.dst s Y.1,s.bj,a.gb,a.nb.dst s (by omega),a.row.ss s (by omega),ts,G.mono fun _ _ r=>r.mono s.le,J,O⟩
theorem gK.below(a:gK g bn D h w h1 wr n v xs)(b:Below wr.heap.size wr w2):gK g bn D h w h1 w2 n v xs:=by obtain⟨k,d⟩:=a.bj;exact a.call (aL.Bb d (St.pI a.st.I b))
theorem gK.alloc(a:gK g bn D h w h1 wr n v xs)(o:Obj):gK g bn D h w h1 (wr.alloc o) n v xs:=a.below ((Below.refl _ _).alloc (kI _) o)
theorem gK.next{v' J O Y ab:Value}{u:Tree}(a:gK g bn D h w h1 wr n v xs)(own:Ow w2 h1 (bn+1) 26 4 v' (n+1) (xs++[J,O,Y,ab]))(q:wr.grownBy w2 v.ownBlock)(ax:bg h1 u [J,O,Y,ab])(hm:MM u):gK g bn D h w h1 w2 (n+1) v' (xs++[J,O,Y,ab]):=by
 obtain⟨ts,aj,ak,am⟩:=a.enc;obtain⟨k,d⟩:=a.bj;have aB:=a.gb;have ds:=(aL.refl a.st.I d).gr;have st:=a.st.grown q fun k e=>⟨by have:=(a.row.lt k e).1;omega,a.row.free k e⟩
 have ao:=q.block g d.lt (fun e=>by have:=(a.row.lt g e.symm).1;omega);refine⟨st,⟨k,d.keep ao q.size (Hp.le_refl _) d.free⟩,a.gb,a.nb.grown q fun e=>by have:=(a.row.lt _ e).1;omega,own,ts++[u],aj.append (aJ.one ax),by simp[ak],fun t G=> ?_⟩;rcases xm.1 G with G|G;·exact am t G
 ·rw[eR.1 G];exact hm
end
theorem gK.set{g bn:Nat}{D:List Int}{h h1:Hp}{w wr:World}{n:Nat}{v:Value}{xs:List Value}(a:gK g bn D h w h1 wr n v xs){b i:Nat}(G:w.heap.size<=b)(hn:h1 b=none)(O:b≠g)(J:b≠bn)(hr:v.ownBlock≠some b)(u:Value):gK g bn D h w h1 (wr.setCell ⟨b,i,none⟩ u) n v xs:=by obtain⟨k,d⟩:=a.bj;exact⟨a.st.setCell (p:=⟨b,i,none⟩) G hn u,⟨k,d.setCell (p:=⟨b,i,none⟩) O u⟩,a.gb,a.nb.ne J _ _,a.row.setCell (p:=⟨b,i,none⟩) hr u,a.enc⟩
theorem aP.Jm{h:Hp}{k:Int}{s s':ByteArray}{a b:Value}{t:Tree}(tv:aP h (aq #[af ae k,ah s,a,b]) t):aP h (aq #[af ae k,ah s',a,b]) (.node t.kind s' t.leads t.kids):=by have e:=wa tv;obtain⟨al,J,G,ck,xs,q,h1,h2,O,Y⟩:=bg.iff.1 e;simp only[ii,Value.int.injEq,true_and,and_true]at q;obtain⟨rfl,-,rfl,rfl⟩:=q;exact⟨_,rfl,by rw[bg.iff];exact⟨al,J,G,ck,xs,rfl,h1,h2,O,Y⟩⟩
def Be(h:Hp)(w:World)(e:Ending)(w':World):Prop:=∃v h' ts,e= .returned v/\St w.heap.size h w h' w'/\hQ h' v ts/\MP ts
theorem gK.fin{g bn:Nat}{D:List Int}{h h1:Hp}{w wr:World}{n:Nat}{v:Value}{xs:List Value}(a:gK g bn D h w h1 wr n v xs)(hn:n<=3):Be h w (.returned v) wr:=by have Y:=a.gb;have sl:=(a.row.base (B':=w.heap.size) (by omega)).sl (by omega);obtain⟨ts,G,J,O⟩:=a.enc;subst J;exact⟨v,_,ts,rfl,a.st.fr,⟨xs,sl,G.mono fun _ _ r=>r.mono (Hp.gQ a.st.I)⟩,by omega,O⟩
theorem Jn(n:Nat)(hn:n<3):∃s,(#[ah ⟨#[65]⟩,ah ⟨#[66]⟩,ah ⟨#[67]⟩]:Array Value)[n]? =some (ah s)/\fu 1 s=true/\s.size=1:=by obtain⟨s,a,b⟩:=ik [ah ⟨#[65]⟩,ah ⟨#[66]⟩,ah ⟨#[67]⟩] (mC 1) (by kernel_rfl) n hn;unfold mC at b;rw[Bool.and_eq_true,decide_eq_true_iff]at b;exact⟨s,a,b.1,b.2⟩
theorem Jo(h:Hp)(w:World)(cd:ao h w)(vl:Value)(D:List Int)(ce:Ints h vl D)(hn:D.length<=1000):Calls ai 17 #[vl] w (Be h w):=by
 have co:=aa cd;have cq:=aa ce;clear cd ce;go_in;go_wp2_with fail;refine(IG h w co.out vl D cq.out (by omega)).mono ?_;rintro e w1 ⟨g,rfl,cc,h1,cl,aM⟩
 have aN:Hid (gK g w1.heap.size D h w h1 (w1.alloc (.cells #[ah ⟨#[65]⟩,ah ⟨#[66]⟩,ah ⟨#[67]⟩] 9)) 0 (ag none 0 0) []):=
  ⟨cl.alloc _,⟨0,aM.alloc _⟩,⟨cc,aM.lt⟩,Has.new _ _ _,Ow.nil _ _ _ _ _,[],by simp[aJ],rfl,fun t cA=>by cases cA⟩
 clear cl aM cc;go_wp2_with fail;generalize w1.alloc (.cells #[ah ⟨#[65]⟩,ah ⟨#[66]⟩,ah ⟨#[67]⟩] 9)=w2 at aN⊢;generalize w1.heap.size=bn at*;obtain⟨k1,aM⟩:=aN.out.bj;refine(dW h1 _ aN.out.st.I g D k1 aM 4 (by omega) (by omega)).mono ?_;rintro e w3 ⟨rfl,cn⟩;have cv:=jo D k1 4 (by omega);generalize a8 D k1 4=z at*;obtain⟨cg,rfl⟩:∃k:Nat,z=(k:Int):=⟨z.toNat,by omega⟩
 have cM:cg<=3:=by omega
 have bY:=aa (aN.out.call cn);clear cn aN aM cv;go_wp2_with fail;go_loopw[4,6] (fun pv i wr=>∃(k J:Nat) (h1:Hp) (xs:List Value),k+J<=3/\i=af ae k/\gK g bn D h w h1 wr J pv xs) (fun _ i _=>(intOf i).toNat);case atStart=>exact⟨cg,0,h1,_,by omega,rfl,bY.out⟩
 case round=>
  obtain⟨k,J,h2,xs,cN,rfl,bL⟩:=hrel;obtain⟨av,bJ,rfl⟩:=bL.row.shape;have ax:=aa bL;clear bL bY;by_cases cG:0<k
  ·have cB:(0:Int)<(k:Int):=by omega
   have cC:(0:Int)<=(J:Int):=by omega
   have cD:(J:Int)<3:=by omega
   have cQ:ae.wrap ((k:Int)-1)=((k-1:Nat):Int):=by rw[bA (by omega)];omega
   obtain⟨nm,cf,ch,ci⟩:=Jn J (by omega);have cw:=(ax.out.nb.cl J).trans cf;have ct:=aa ch;have cu:=aa ci;obtain⟨ba,dd⟩:=ax.out.bj;clear cf ch ci;go_wp2_with fail;refine(Jk g D nm ct.out cu.out h2 _ ax.out.st.I ba dd).mono ?_;rintro e am ⟨cS,rfl,ab,G,bN,bS,cj⟩;obtain⟨al,aL,aG,ck,-,rfl,-,-,-,-,-,-⟩:=bS.open;have aY:=aa ((ax.out.call bN).alloc (.cells #[af ae G.kind,ah G.text,ag al G.leads.length aL,ag aG G.kids.length ck] 26));have b9:Hid (Has (am.alloc (.cells #[af ae G.kind,ah G.text,ag al G.leads.length aL,ag aG G.kids.length ck] 26)) am.heap.size #[af ae G.kind,ah G.text,ag al G.leads.length aL,ag aG G.kids.length ck]):=Has.new _ _ _;have b0:=aa bS;have bZ:=aa cj.pv;have Y:=aa (ax.out.call bN);clear bN bS cj cw dd;obtain⟨ba,dd⟩:=aY.out.bj;go_wp2_with fail;refine(dW ab _ aY.out.st.I g D ba dd 8 (by omega) (by omega)).mono ?_;rintro e cU ⟨rfl,bO⟩;generalize a8 D ba 8=bX;have aZ:=aa (aY.out.call bO);have a5:am.heap.size≠g:=by have:=Y.out.gb;have:=Y.out.nb.lt;omega
   have aB:=aa (b9.out.dst bO a5);clear bO dd aY b9;obtain⟨⟨bg,bm,bp,bq⟩,a1,a2,a3,a4⟩:=aB.out.four;have bd:=aB.out.lt;have bC:w.heap.size<=am.heap.size:=by have:=Y.out.nb.lt;have:=Y.out.gb;omega
   have bE:am.heap.size≠bn:=by have:=Y.out.nb.lt;omega
   have bG:(ag av J bJ).ownBlock≠some am.heap.size:=fun e=>by have:=(Y.out.row.lt _ e).2;omega
   have bH:ab am.heap.size=none:=Y.out.st.I.iI;by_cases a9:bX=7
   ·have cz:(bX==7)=true:=by simpa using a9
    clear a9;have aO:=aa (aZ.out.set (i:=1) bC bH a5 bE bG (ah ⟨#[65]⟩));have bV:=aB.out.fg 1 (by simp) (ah ⟨#[65]⟩);simp only[bh,nu,bf]at bV;have bB:=aa bV;have aQ:Hid (aP ab (aq #[af ae G.kind,ah ⟨#[65]⟩,ag al G.leads.length aL,ag aG G.kids.length ck]) (.node G.kind ⟨#[65]⟩ G.leads G.kids)):=b0.out.Jm;have aj:Hid (PV (.node G.kind ⟨#[65]⟩ G.leads G.kids)):=by have:=bZ.out;cases G;exact this.named
    clear bV aZ bC bE bG bH a5 Y aB;go_wp2_with fail;refine(Bd (.node G.kind ⟨#[65]⟩ G.leads G.kids) aj.out.size aj.out.vt ab _ aO.out.st.I _ aQ.out).mono ?_;rintro e bT ⟨⟨b,rfl,aV⟩,ak⟩;have bv:=aa aV;have O:=aa (aO.out.below ak);have aS:=aa (bB.out.below ak);clear ak aV bg bm bp bq a1 a2 a3 a4 bd;obtain⟨⟨bg,bm,bp,bq⟩,a1,a2,a3,a4⟩:=aS.out.four;have bd:=aS.out.lt;cases b
    ·go_wp2_with fail;go_roundw;case rel=>exact⟨k-1,J,ab,xs,by omega,by go_num,O.out⟩
     case measure=>simp[intOf];omega
    ·have MU:=aa (aj.out.mm (bv.out (by trivial)));go_wp2_with(at_builtin;refine ft iJ rfl _ _ rfl (St.dN (B:=bn+1) (O.out.alloc _).st.I (by have:=O.out.nb.lt;simp;omega)) (ag av J bJ) J xs rfl (O.out.alloc _).row ⟨bT.heap.size,0,none⟩ 1 1 [af ae G.kind,ah ⟨#[65]⟩,ag al G.leads.length aL,ag aG G.kids.length ck] rfl (by rfl) (cK _ _ _ _ rfl) (cm _ rfl) (by omega) ?_;intro cE cF bR aX aT bI;have bz:=aa ((O.out.alloc _).next aX aT (wa aQ.out) MU.out);clear bR aX aT bI);go_roundw;case rel=>exact⟨k-1,J+1,ab,_,by omega,by go_num,bz.out⟩
     case measure=>simp[intOf];omega
   ·have cz:(bX==7)=false:=by simpa using a9
    clear a9;have aO:=aa aZ.out;have bB:=aa aB.out;have aQ:=aa b0.out;have aj:=aa bZ.out;clear aZ bC bE bG bH a5 Y aB;go_wp2_with fail;refine(Bd G aj.out.size aj.out.vt ab _ aO.out.st.I _ aQ.out).mono ?_;rintro e bT ⟨⟨b,rfl,aV⟩,ak⟩;have bv:=aa aV;have O:=aa (aO.out.below ak);have aS:=aa (bB.out.below ak);clear ak aV bg bm bp bq a1 a2 a3 a4 bd;obtain⟨⟨bg,bm,bp,bq⟩,a1,a2,a3,a4⟩:=aS.out.four;have bd:=aS.out.lt;cases b
    ·go_wp2_with fail;go_roundw;case rel=>exact⟨k-1,J,ab,xs,by omega,by go_num,O.out⟩
     case measure=>simp[intOf];omega
    ·have MU:=aa (aj.out.mm (bv.out (by trivial)));go_wp2_with(at_builtin;refine ft iJ rfl _ _ rfl (St.dN (B:=bn+1) (O.out.alloc _).st.I (by have:=O.out.nb.lt;simp;omega)) (ag av J bJ) J xs rfl (O.out.alloc _).row ⟨bT.heap.size,0,none⟩ 1 1 [af ae G.kind,ah G.text,ag al G.leads.length aL,ag aG G.kids.length ck] rfl (by rfl) (cK _ _ _ _ rfl) (cm _ rfl) (by omega) ?_;intro cE cF bR aX aT bI;have bz:=aa ((O.out.alloc _).next aX aT (wa aQ.out) MU.out);clear bR aX aT bI);go_roundw;case rel=>exact⟨k-1,J+1,ab,_,by omega,by go_num,bz.out⟩
     case measure=>simp[intOf];omega
  ·have cB:¬(0:Int)<(k:Int):=by omega
   have cC:decide ((0:Int)<(k:Int))=false:=by simp;omega
   have cD:decide (0<k)=false:=by simp;omega
   go_wp2_with fail;go_ret;exact ax.out.fin (by omega)
end Go.Proofs.YtdplggpbgommnaaGreatDoor
