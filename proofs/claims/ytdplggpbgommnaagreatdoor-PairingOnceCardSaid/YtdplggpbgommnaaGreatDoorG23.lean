/- Rows of pieces beside a box; semvcsref02.lead. -/
import Derived.Test.YtdplggpbgommnaaGreatDoorG21
open Go.IntKind renaming i64->ae
open Go.Lib renaming hid->aa
open Go.Proofs.Tryz renaming prog->ai
open Go.RowKit.Below renaming refl->aD
open Go.Value renaming int->af,slice->ag,string->ah
open List renaming getElem_mem->aK
open Nat renaming le_refl->kI,zero_le->aW
set_option maxRecDepth 100000
set_option maxHeartbeats 4000000
namespace Go.Proofs.YtdplggpbgommnaaGreatDoor
open Go.RowKit
structure PX(h:Hp)(B bx:Nat)(c:Array Value)(w0:World)(v0:Value)(n:Nat)(xs:List Value)(v:Value)(w:World):Prop where
 ps:bN h B w0 v0 n xs v w
 has:Has w bx c
 sq:v0.ownBlock≠some bx
 lt:bx<w0.heap.size
section
variable {h:Hp} {B bx n n':Nat} {c:Array Value} {w0 w w1:World} {v0 v v':Value} {xs fF:List Value}
theorem PX.start(p:bN h B w v n xs v w)(c:Array Value)(T:TypeId):PX h B w.heap.size c (w.alloc (.cells c T)) v n xs v (w.alloc (.cells c T)):=
 ⟨bN.refl (p.I.alloc _) (p.own.alloc _) p.ok (by have:=p.base;simp;omega),Has.new _ _ _,fun e=>by have:=(p.own.lt _ e).2;omega,by simp⟩
theorem PX.below(p:PX h B bx c w0 v0 n xs v w)(b:Below w.heap.size w w1):PX h B bx c w0 v0 n xs v w1:=⟨p.ps.below b,p.has.below b,p.sq,p.lt⟩
theorem PX.drew(p:PX h B bx c w0 v0 n xs v w):PX h B bx c w0 v0 n xs v w.drew:=p.below (aD _ _).drew
theorem PX.alloc(p:PX h B bx c w0 v0 n xs v w)(o:Obj):PX h B bx c w0 v0 n xs v (w.alloc o):=p.below ((aD _ _).alloc (kI _) o)
theorem PX.ne(p:PX h B bx c w0 v0 n xs v w):v.ownBlock≠some bx:=p.ps.ne p.sq p.lt
theorem PX.next(p:PX h B bx c w0 v0 n xs v w)(G:ao h w1)(own:Ow w1 h B 199 2 v' n' (xs++fF))(gr:w.grownBy w1 v.ownBlock)(bk:v'.ownBlock=v.ownBlock\/v'.ownBlock=some w.heap.size)(ok:PcV fF):PX h B bx c w0 v0 n' (xs++fF) v' w1:=
 ⟨p.ps.next G own gr bk ok,p.has.grown gr p.ne,p.sq,p.lt⟩
theorem PX.call(p:PX h B bx c w0 v0 n xs v w)(q:bN h B w v n' fF v' w1):PX h B bx c w0 v0 n' fF v' w1:=
 ⟨p.ps.call q,p.has.grown q.gr p.ne,p.sq,p.lt⟩
theorem PX.fG(p:PX h B bx c w0 v0 n xs v w){ops:Array Oper}{o:Oper}{a:Act}{K:Act->World->Prop}{Q:Exit->Act->World->Prop}{F:Prop}{T:TypeId}{news:List Value}{s x:Operand}(m:Nat)(hK:∀g G w',PX h B bx c w0 v0 (n+m) (xs++news) (ag (some ⟨g,0,none⟩) (n+m) G) w'->K (a.put o.dst (ag (some ⟨g,0,none⟩) (n+m) G)) w')(J:o.guard=none:=by rfl)(Y:o.op= .call {callee:= .builtin .append,args:= #[s,x],argTypes:= #[196,196]}:=by rfl)(hs:a.eval s=v:=by rfl)(hx:a.eval x=ag (some ⟨w.heap.size,0,none⟩) m m:=by rfl)(O:news.length=m*2:=by rfl)(ok:PcV news:=by repeat(first|exact PcV.nil|refine PcV.cons (by first|assumption|(unfold Sh1;decide)) ?_))(hm:0<m:=by omega)(ab:n+m<=4000100:=by omega):if Region.wanted o (yielded ops a.tmps)=true then Oper.wp ai o a (w.alloc (.cells news.toArray T)) K Q else F:=
 gS AG J s x Y (p.alloc _).ps.st v n xs hs (p.alloc _).ps.own ⟨w.heap.size,0,none⟩ m m news hx O (cK _ _ _ _ rfl) ok.one hm (by omega) fun g G w' st own gr bk=>hK g G w' ((p.alloc _).next st.I own gr bk ok)
theorem PX.ky(p:PX h B bx c w0 v0 n xs v w){ops:Array Oper}{rest:List Oper}{o:Oper}{a:Act}{Q:Exit->Act->World->Prop}{T:TypeId}{news:List Value}{s x:Operand}(m:Nat)(hK:∀v' w',PX h B bx c w0 v0 (n+m) (xs++news) v' w'->wpList ai ops Q rest (a.put o.dst v') w')(G:o.guard=none:=by rfl)(O:o.op= .call {callee:= .builtin .append,args:= #[s,x],argTypes:= #[196,196]}:=by rfl)(hs:a.eval s=v:=by rfl)(hx:a.eval x=ag (some ⟨w.heap.size,0,none⟩) m m:=by rfl)(J:news.length=m*2:=by rfl)(ok:PcV news:=by repeat(first|exact PcV.nil|refine PcV.cons (by first|assumption|(unfold Sh1;decide)) ?_))(Y:n+m<=4000100:=by omega):wpList ai ops Q (o::rest) a (w.alloc (.cells news.toArray T)):=
 ft AG G s x O (p.alloc _).ps.st v n xs hs (p.alloc _).ps.own ⟨w.heap.size,0,none⟩ m m news hx J (cK _ _ _ _ rfl) ok.one (by omega) fun v' w' st own gr bk=>hK v' w' ((p.alloc _).next st.I own gr bk ok)
theorem PX.BZ(p:PX h B bx c w0 v0 n xs v w):bN h B w v n xs v w:=bN.refl p.ps.I p.ps.own p.ps.ok (Nat.le_trans p.ps.base p.ps.size)
theorem PX.fin{T:TypeId}(q:PX h B w.heap.size c (w.alloc (.cells c T)) v n' fF v' w1)(p:bN h B w v n xs v w):bN h B w v n' fF v' w1:=(p.alloc _).call q.ps
end
def A1(e:Ending):Prop:=∃s,e= .returned (ah s)/\Sh1 s
theorem dn(h:Hp)(w:World)(J:ao h w)(v:Value)(t:Tree)(Y:aP h v t)(G:t.lb)(z:Int)(hz:0<=z):Calls ai 198 #[v,af ae z] w fun e w'=>A1 e/\Below w.heap.size w w':=by
 obtain⟨k,rfl⟩:∃k:Nat,z=(k:Int):=⟨z.toNat,by omega⟩
 obtain⟨al,aG,aB,ck,ys,rfl,aL,aN,aM,O,ak,he⟩:=Y.open;have am:=aa ((Tree.og t).1 G).1.2;have B0:Hid (Below w.heap.size w (w.alloc (.cells #[af ae t.kind,ah t.text,ag al t.leads.length aG,ag aB t.kids.length ck] 26))):=(aD _ _).alloc (kI _) _;by_cases aj:k<t.leads.length
 ·obtain⟨b,off,rfl,aS,ab⟩:=O.cells J (by omega);have d0:=ab k (ah t.leads[k]) (by simp[aj]);have ax:Hid (Sh1 t.leads[k]):=am.out _ (aK aj);have aO:(0:Int)<=(k:Int):=by omega
  have aJ:(k:Int)<(t.leads.length:Int):=by omega
  clear ab O ak he Y J G;go_in;go_wp2_with fail;go_ret;exact⟨⟨_,rfl,ax.out⟩,B0.out⟩
 ·have aJ:decide ((k:Int)<(t.leads.length:Int))=false:=by simp;omega
  have aQ:¬(k:Int)<(t.leads.length:Int):=by omega
  clear O ak he Y J G;go_in;go_wp2_with fail;go_ret;exact⟨⟨_,rfl,by unfold Sh1;decide⟩,B0.out⟩
def Is(h:Hp)(w:World)(n:Nat)(e:Ending)(w':World):Prop:=∃v xs,e= .returned v/\Ow w' h w.heap.size 9 1 v n xs/\PcV xs/\St w.heap.size h w h w'
theorem It(h:Hp)(w:World)(ab:ao h w)(z:Int)(n:Nat)(hz:z=(n:Int))(hn:n<=1000000):Calls ai 170 #[af ae z] w (Is h w n):=by
 subst hz;have am:=aa ab;clear ab;go_in;go_wp2_with fail;go_loopw[3,4] (fun lv i wr=>∃(j:Nat) (xs:List Value),j<=n/\i=af ae j/\PcV xs/\St w.heap.size h w h wr/\Ow wr h w.heap.size 9 1 lv j xs) (fun _ i _=>n-(intOf i).toNat);case atStart=>exact⟨0,[],aW _,rfl,PcV.nil,St.refl am.out,Ow.nil _ _ _ _ _⟩
 case round=>
  obtain⟨j,xs,aL,rfl,ok,S,G⟩:=hrel;by_cases hj:j<n
  ·have aM:(j:Int)<(n:Int):=by omega
   have J:=aa ok;have Y:=aa S;have O:=aa G;clear ok S G;go_wp2_with(at_builtin;refine ft rW rfl _ _ rfl (Y.out.alloc _) _ j xs rfl (O.out.alloc _) ⟨wr.heap.size,0,none⟩ 1 1 [ah ⟨#[32]⟩] rfl (by rfl) (cK _ _ _ _ rfl) (cm _ (by rfl)) (by omega) ?_;intro aN aO ak aj aJ aG;have aB:=aa ak;have ax:=aa aj;clear ak aj aJ aG);go_roundw;case rel=>exact⟨j+1,_,by omega,by go_num,J.out.KZ (PcV.cons (by unfold Sh1;decide) PcV.nil),aB.out,ax.out⟩
   case measure=>simp[intOf];omega
  ·obtain rfl:j=n:=by omega
   have J:=aa ok;have Y:=aa S;have O:=aa G;clear ok S G;go_wp2_with fail;go_ret;exact⟨_,xs,rfl,O.out,J.out,Y.out⟩
theorem Iu(w:World)(k:Int)(s:ByteArray)(al J:Option Addr)(Y G O ck:Nat)(_hn:G<=140737488355328)(i:Int)(f:ByteArray)(hf:Sh1 f):Calls ai 171 #[.agg #[af ae k,ah s,ag al Y O,ag J G ck],af ae i,ah f] w fun e w'=>A1 e/\Below w.heap.size w w':=by
 have ab:=aa hf;clear hf;have B0:Hid (Below w.heap.size w (w.alloc (.cells #[af ae k,ah s,ag al Y O,ag J G ck] 26))):=(aD _ _).alloc (kI _) _;go_in;go_wp2_with fail;all_goals go_ret
 all_goals exact⟨⟨_,rfl,by first|exact ab.out|(unfold Sh1;decide)⟩,B0.out⟩
def eP(m:Nat):Prop:=∀(t:Tree) (_:t.size<=m) (_:RT t) (h:Hp) (B:Nat) (w:World) (v:Value) (n:Nat) (xs:List Value) (_:bN h B w v n xs v w) (_:n+9*t.size<=4000000) (tv:Value) (_:aP h tv t),
 Calls ai 173 #[v,tv] w (e9 h B w v n t.size)
theorem Lt(m:Nat)(E:eP m)(t:Tree)(a9:∀i (cd:i<t.kids.length),t.kids[i].size<=m)(rt:RT t)(h:Hp)(B:Nat)(w:World)(v:Value)(n:Nat)(xs:List Value)(p:bN h B w v n xs v w)(tv:Value)(aN:aP h tv t)(J:Nat)(ci:J<=t.kids.length)(O:Int)(b9:0<=O)(cc:O<=100)(hn:n+9*ax (t.kids.take J)+1<=4000000):Calls ai 199 #[v,tv,af ae 0,af ae J,af ae O] w (HT h B w v n (ax (t.kids.take J))):=by
 have aV:=aa E;have bp:=aa a9;have bv:=aa rt;have bq:=aa rt.2;have bC:=aa p;have bB:=aa aN;obtain⟨al,aJ,aG,ck,ys,rfl,bE,cg,cf,bI,ba,he⟩:=aN.open;have bz:=aa ba;have bm:=aa he;have aZ:=aa (PX.start p #[af ae t.kind,ah t.text,ag al t.leads.length aJ,ag aG t.kids.length ck] 26);clear E a9 rt p aN bI ba he bE;go_in;go_wp2_with fail;go_loopw[0,11] (fun lv i wr=>∃(j n':Nat) (fF:List Value),j<=J/\i=af ae j/\PX h B w.heap.size #[af ae t.kind,ah t.text,ag al t.leads.length aJ,ag aG t.kids.length ck] (w.alloc (.cells #[af ae t.kind,ah t.text,ag al t.leads.length aJ,ag aG t.kids.length ck] 26)) v n' fF lv wr/\n'<=n+9*ax (t.kids.take j)) (fun _ i _=>J-(intOf i).toNat);case atStart=>exact⟨0,n,xs,aW _,rfl,aZ.out,by omega⟩
 case round=>
  obtain⟨j,bL,bT,ce,rfl,aj,bG⟩:=hrel;have G:=aa aj;obtain⟨⟨ak,am,ao,aB⟩,-⟩:=aj.has.four;have ab:=aj.has.lt;clear aj aZ;by_cases hj:j<J
  ·obtain⟨b,off,bY,b0,bX,bZ,rfl,bd,aM⟩:=ed bz.out bm.out j (by omega);have aX:=aa bd;have aT:=aa aM;obtain⟨d0,a3,a4,a5⟩:=aM wr G.out.ps.I;have a8:=aa (bp.out j (by omega));have a1:=aa (bv.out.b4 j (by omega));have aO:=eY t.kids j (by omega);have bJ:ax (t.kids.take (j+1))<=ax (t.kids.take J):=by have:=jK (t.kids.take J) (j+1);rwa[List.take_take,Nat.min_eq_left (by omega)]at this
   have aY:=aa aO;rw[aO]at bJ;have cm:(0:Int)<=(j:Int):=by omega
   have cn:(j:Int)<(t.kids.length:Int):=by omega
   have co:(j:Int)<(J:Int):=by omega
   clear bd aM aO;rcases Nat.eq_zero_or_pos j with aL|aL
   ·have bO:¬(0:Int)<(j:Int):=by omega
    have cq:decide ((0:Int)<(j:Int))=false:=by simp;omega
    have bV:=aa aL;clear aL
    go_wp2_with(first
     |(go_at_call 173;refine(aV.out t.kids[j] a8.out a1.out h B _ _ _ _ G.out.BZ (by omega) _ aX.out).mono ?_;rintro e bS ⟨bR,aQ,aS,rfl,Y,bH⟩;replace G:=aa (G.out.call Y);have⟨⟨ak,am,ao,aB⟩,_⟩:=G.out.has.four;have ab:=G.out.has.lt;clear Y))
    go_roundw;case rel=>exact⟨j+1,aQ,aS,by omega,by go_num,G.out,by rw[aY.out];omega⟩
    case measure=>simp[intOf];omega
   ·have bO:(0:Int)<(j:Int):=by omega
    have cj:ae.wrap (O+(j:Int))=O+(j:Int):=bA (by omega)
    go_wp2_with(first
     |(go_at_call 198;refine(dn h _ G.out.ps.I _ t bB.out bq.out _ (by omega)).mono ?_;rintro e cu ⟨⟨cl,rfl,ch⟩,a2⟩;replace G:=aa (G.out.below a2);have⟨⟨ak,am,ao,aB⟩,_⟩:=G.out.has.four;have ab:=G.out.has.lt;have⟨d0,a3,a4,a5⟩:=aT.out _ G.out.ps.I;clear a2)
     |(at_builtin;refine G.out.ky 1 ?_;intro ct cv bg;replace G:=aa bg;have⟨⟨ak,am,ao,aB⟩,_⟩:=G.out.has.four;have ab:=G.out.has.lt;have⟨d0,a3,a4,a5⟩:=aT.out _ G.out.ps.I;clear bg)
     |(go_at_call 173;refine(aV.out t.kids[j] a8.out a1.out h B _ _ _ _ G.out.BZ (by omega) _ aX.out).mono ?_;rintro e bS ⟨bR,aQ,aS,rfl,Y,bH⟩;replace G:=aa (G.out.call Y);have⟨⟨ak,am,ao,aB⟩,_⟩:=G.out.has.four;have ab:=G.out.has.lt;clear Y))
    go_roundw;case rel=>exact⟨j+1,aQ,aS,by omega,by go_num,G.out,by rw[aY.out];omega⟩
    case measure=>simp[intOf];omega
  ·obtain rfl:j=J:=by omega
   go_wp2_with fail;go_ret;exact⟨_,bL,bT,rfl,G.out.fin bC.out,bG⟩
theorem Iv(m:Nat)(E:eP m)(t:Tree)(aT:t.size<=m+1)(rt:RT t)(aG:t.kind=9)(h:Hp)(B:Nat)(w:World)(v:Value)(n:Nat)(xs:List Value)(p:bN h B w v n xs v w)(hn:n+9*t.size<=4000000)(tv:Value)(J:aP h tv t):Calls ai 173 #[v,tv] w (e9 h B w v n t.size):=by
 have aV:=aa E;have aZ:=aa rt;have aN:=aa rt.2;have a2:Sh1 t.text:=rt.1.text;have aQ:=aa p;have hz:=Tree.size_eq t;have aY:Hid (∀i (aB:i<t.kids.length),t.kids[i].size<=m):=fun i aB=>by have:=dB (aK aB);omega
 obtain⟨al,ax,am,ck,ys,rfl,-,a5,a4,aS,aL,he⟩:=J.open;have a1:=aa aL;have aX:=aa he;have aJ:=rt.1.leads;rw[aG]at aJ J⊢;have aO:=aa J;have a8:1<=t.size:=by omega
 clear E rt J aS aL he aG hz aJ aT;have G:=aa (PX.start p #[af ae 9,ah t.text,ag al t.leads.length ax,ag am t.kids.length ck] 26);clear p;obtain⟨⟨O,Y,ab,aj⟩,-⟩:=G.out.has.four;have ak:=G.out.has.lt;go_in;go_wp2_with fail;replace G:=aa G.out.drew;have⟨⟨O,Y,ab,aj⟩,_⟩:=G.out.has.four;have ak:=G.out.has.lt
 go_region_held3(fun w'=>w'.cell? ⟨w.heap.size,0,none⟩=some (af ae 9)/\w'.cell? ⟨w.heap.size,1,none⟩=some (ah t.text)/\w'.cell? ⟨w.heap.size,2,none⟩=some (ag al t.leads.length ax)/\w'.cell? ⟨w.heap.size,3,none⟩=some (ag am t.kids.length ck)) (first|(go_keep;done)|exact⟨O,Y,ab,aj⟩) (first
  |(go_at_call 198;refine(dn h _ G.out.ps.I _ t aO.out aN.out _ (by omega)).mono ?_;rintro e bd ⟨⟨ba,rfl,a9⟩,ao⟩;replace G:=aa (G.out.below ao);have⟨⟨O,Y,ab,aj⟩,_⟩:=G.out.has.four;have ak:=G.out.has.lt;clear ao)
  |(refine G.out.fG 1 ?_;intro a3 cg bg aM;replace G:=aa aM;have⟨⟨O,Y,ab,aj⟩,_⟩:=G.out.has.four;have ak:=G.out.has.lt;clear aM))
 all_goals
  go_wp2_with fail;go_ret;exact⟨_,_,_,rfl,G.out.fin aQ.out,by omega⟩
theorem Iw(m:Nat)(E:eP m)(t:Tree)(aT:t.size<=m+1)(rt:RT t)(aG:t.kind=10)(h:Hp)(B:Nat)(w:World)(v:Value)(n:Nat)(xs:List Value)(p:bN h B w v n xs v w)(hn:n+9*t.size<=4000000)(tv:Value)(J:aP h tv t):Calls ai 173 #[v,tv] w (e9 h B w v n t.size):=by
 have aV:=aa E;have aZ:=aa rt;have aN:=aa rt.2;have a2:Sh1 t.text:=rt.1.text;have aQ:=aa p;have hz:=Tree.size_eq t;have aY:Hid (∀i (aB:i<t.kids.length),t.kids[i].size<=m):=fun i aB=>by have:=dB (aK aB);omega
 obtain⟨al,ax,am,ck,ys,rfl,-,a5,a4,aS,aL,he⟩:=J.open;have a1:=aa aL;have aX:=aa he;have aJ:=rt.1.leads;rw[aG]at aJ J⊢;have aO:=aa J;have a8:1<=t.size:=by omega
 clear E rt J aS aL he aG hz aJ aT;have G:=aa (PX.start p #[af ae 10,ah t.text,ag al t.leads.length ax,ag am t.kids.length ck] 26);clear p;obtain⟨⟨O,Y,ab,aj⟩,-⟩:=G.out.has.four;have ak:=G.out.has.lt;go_in;go_wp2_with fail;replace G:=aa G.out.drew;have⟨⟨O,Y,ab,aj⟩,_⟩:=G.out.has.four;have ak:=G.out.has.lt
 go_region_held3(fun w'=>w'.cell? ⟨w.heap.size,0,none⟩=some (af ae 10)/\w'.cell? ⟨w.heap.size,1,none⟩=some (ah t.text)/\w'.cell? ⟨w.heap.size,2,none⟩=some (ag al t.leads.length ax)/\w'.cell? ⟨w.heap.size,3,none⟩=some (ag am t.kids.length ck)) (first|(go_keep;done)|exact⟨O,Y,ab,aj⟩) (first
  |(go_at_call 198;refine(dn h _ G.out.ps.I _ t aO.out aN.out _ (by omega)).mono ?_;rintro e bd ⟨⟨ba,rfl,a9⟩,ao⟩;replace G:=aa (G.out.below ao);have⟨⟨O,Y,ab,aj⟩,_⟩:=G.out.has.four;have ak:=G.out.has.lt;clear ao)
  |(refine G.out.fG 1 ?_;intro a3 cg bg aM;replace G:=aa aM;have⟨⟨O,Y,ab,aj⟩,_⟩:=G.out.has.four;have ak:=G.out.has.lt;clear aM))
 all_goals
  go_wp2_with fail;go_ret;exact⟨_,_,_,rfl,G.out.fin aQ.out,by omega⟩
theorem Ix(m:Nat)(E:eP m)(t:Tree)(aT:t.size<=m+1)(rt:RT t)(aG:t.kind=11)(h:Hp)(B:Nat)(w:World)(v:Value)(n:Nat)(xs:List Value)(p:bN h B w v n xs v w)(hn:n+9*t.size<=4000000)(tv:Value)(J:aP h tv t):Calls ai 173 #[v,tv] w (e9 h B w v n t.size):=by
 have aV:=aa E;have aZ:=aa rt;have aN:=aa rt.2;have a2:Sh1 t.text:=rt.1.text;have aQ:=aa p;have hz:=Tree.size_eq t;have aY:Hid (∀i (aB:i<t.kids.length),t.kids[i].size<=m):=fun i aB=>by have:=dB (aK aB);omega
 obtain⟨al,ax,am,ck,ys,rfl,-,a5,a4,aS,aL,he⟩:=J.open;have a1:=aa aL;have aX:=aa he;have aJ:=rt.1.leads;rw[aG]at aJ J⊢;have aO:=aa J;have a8:1<=t.size:=by omega
 clear E rt J aS aL he aG hz aJ aT;have G:=aa (PX.start p #[af ae 11,ah t.text,ag al t.leads.length ax,ag am t.kids.length ck] 26);clear p;obtain⟨⟨O,Y,ab,aj⟩,-⟩:=G.out.has.four;have ak:=G.out.has.lt;go_in;go_wp2_with fail;replace G:=aa G.out.drew;have⟨⟨O,Y,ab,aj⟩,_⟩:=G.out.has.four;have ak:=G.out.has.lt
 go_region_held3(fun w'=>w'.cell? ⟨w.heap.size,0,none⟩=some (af ae 11)/\w'.cell? ⟨w.heap.size,1,none⟩=some (ah t.text)/\w'.cell? ⟨w.heap.size,2,none⟩=some (ag al t.leads.length ax)/\w'.cell? ⟨w.heap.size,3,none⟩=some (ag am t.kids.length ck)) (first|(go_keep;done)|exact⟨O,Y,ab,aj⟩) (first
  |(go_at_call 198;refine(dn h _ G.out.ps.I _ t aO.out aN.out _ (by omega)).mono ?_;rintro e bd ⟨⟨ba,rfl,a9⟩,ao⟩;replace G:=aa (G.out.below ao);have⟨⟨O,Y,ab,aj⟩,_⟩:=G.out.has.four;have ak:=G.out.has.lt;clear ao)
  |(refine G.out.fG 1 ?_;intro a3 cg bg aM;replace G:=aa aM;have⟨⟨O,Y,ab,aj⟩,_⟩:=G.out.has.four;have ak:=G.out.has.lt;clear aM))
 all_goals
  go_wp2_with fail;go_ret;exact⟨_,_,_,rfl,G.out.fin aQ.out,by omega⟩
theorem Iy(m:Nat)(E:eP m)(t:Tree)(aT:t.size<=m+1)(rt:RT t)(aG:t.kind=12)(h:Hp)(B:Nat)(w:World)(v:Value)(n:Nat)(xs:List Value)(p:bN h B w v n xs v w)(hn:n+9*t.size<=4000000)(tv:Value)(J:aP h tv t):Calls ai 173 #[v,tv] w (e9 h B w v n t.size):=by
 have aV:=aa E;have aZ:=aa rt;have aN:=aa rt.2;have a2:Sh1 t.text:=rt.1.text;have aQ:=aa p;have hz:=Tree.size_eq t;have aY:Hid (∀i (aB:i<t.kids.length),t.kids[i].size<=m):=fun i aB=>by have:=dB (aK aB);omega
 obtain⟨al,ax,am,ck,ys,rfl,-,a5,a4,aS,aL,he⟩:=J.open;have a1:=aa aL;have aX:=aa he;have aJ:=rt.1.leads;rw[aG]at aJ J⊢;have aO:=aa J;have a8:1<=t.size:=by omega
 clear E rt J aS aL he aG hz aJ aT;have G:=aa (PX.start p #[af ae 12,ah t.text,ag al t.leads.length ax,ag am t.kids.length ck] 26);clear p;obtain⟨⟨O,Y,ab,aj⟩,-⟩:=G.out.has.four;have ak:=G.out.has.lt;go_in;go_wp2_with fail;replace G:=aa G.out.drew;have⟨⟨O,Y,ab,aj⟩,_⟩:=G.out.has.four;have ak:=G.out.has.lt
 go_region_held3(fun w'=>w'.cell? ⟨w.heap.size,0,none⟩=some (af ae 12)/\w'.cell? ⟨w.heap.size,1,none⟩=some (ah t.text)/\w'.cell? ⟨w.heap.size,2,none⟩=some (ag al t.leads.length ax)/\w'.cell? ⟨w.heap.size,3,none⟩=some (ag am t.kids.length ck)) (first|(go_keep;done)|exact⟨O,Y,ab,aj⟩) (first
  |(go_at_call 198;refine(dn h _ G.out.ps.I _ t aO.out aN.out _ (by omega)).mono ?_;rintro e bd ⟨⟨ba,rfl,a9⟩,ao⟩;replace G:=aa (G.out.below ao);have⟨⟨O,Y,ab,aj⟩,_⟩:=G.out.has.four;have ak:=G.out.has.lt;clear ao)
  |(refine G.out.fG 1 ?_;intro a3 cg bg aM;replace G:=aa aM;have⟨⟨O,Y,ab,aj⟩,_⟩:=G.out.has.four;have ak:=G.out.has.lt;clear aM))
 all_goals
  go_wp2_with fail;go_ret;exact⟨_,_,_,rfl,G.out.fin aQ.out,by omega⟩
theorem Iz(m:Nat)(E:eP m)(t:Tree)(aT:t.size<=m+1)(rt:RT t)(ab:t.kind=13)(h:Hp)(B:Nat)(w:World)(v:Value)(n:Nat)(xs:List Value)(p:bN h B w v n xs v w)(hn:n+9*t.size<=4000000)(tv:Value)(J:aP h tv t):Calls ai 173 #[v,tv] w (e9 h B w v n t.size):=by
 have aV:=aa E;have aZ:=aa rt;have aL:=aa rt.2;have a2:Sh1 t.text:=rt.1.text;have aN:=aa p;have hz:=Tree.size_eq t;have aY:Hid (∀i (Y:i<t.kids.length),t.kids[i].size<=m):=fun i Y=>by have:=dB (aK Y);omega
 obtain⟨al,aQ,aO,ck,ys,rfl,-,a4,a3,aS,ak,he⟩:=J.open;have a1:=aa ak;have aX:=aa he;have aj:=rt.1.leads;rw[ab]at aj J⊢;have aM:=aa J;have a5:1<=t.size:=by omega
 clear E rt J aS ak he ab hz aj aT;have G:=aa (PX.start p #[af ae 13,ah t.text,ag al t.leads.length aQ,ag aO t.kids.length ck] 26);clear p;obtain⟨⟨ax,aB,aG,aJ⟩,-⟩:=G.out.has.four;have am:=G.out.has.lt;go_in
 go_wp2_with(first
  |(go_at_call 198;refine(dn h _ G.out.ps.I _ t aM.out aL.out _ (by omega)).mono ?_;rintro e bd ⟨⟨a9,rfl,a8⟩,O⟩;replace G:=aa (G.out.below O);have⟨⟨ax,aB,aG,aJ⟩,_⟩:=G.out.has.four;have am:=G.out.has.lt;clear O)
  |(at_builtin;refine G.out.ky 1 ?_;intro ba bg ao;replace G:=aa ao;have⟨⟨ax,aB,aG,aJ⟩,_⟩:=G.out.has.four;have am:=G.out.has.lt;clear ao))
 go_ret;exact⟨_,_,_,rfl,G.out.fin aN.out,by omega⟩
theorem IA(m:Nat)(E:eP m)(t:Tree)(aT:t.size<=m+1)(rt:RT t)(ab:t.kind=14)(h:Hp)(B:Nat)(w:World)(v:Value)(n:Nat)(xs:List Value)(p:bN h B w v n xs v w)(hn:n+9*t.size<=4000000)(tv:Value)(J:aP h tv t):Calls ai 173 #[v,tv] w (e9 h B w v n t.size):=by
 have aV:=aa E;have aZ:=aa rt;have aL:=aa rt.2;have a2:Sh1 t.text:=rt.1.text;have aN:=aa p;have hz:=Tree.size_eq t;have aY:Hid (∀i (Y:i<t.kids.length),t.kids[i].size<=m):=fun i Y=>by have:=dB (aK Y);omega
 obtain⟨al,aQ,aO,ck,ys,rfl,-,a4,a3,aS,ak,he⟩:=J.open;have a1:=aa ak;have aX:=aa he;have aj:=rt.1.leads;rw[ab]at aj J⊢;have aM:=aa J;have a5:1<=t.size:=by omega
 clear E rt J aS ak he ab hz aj aT;have G:=aa (PX.start p #[af ae 14,ah t.text,ag al t.leads.length aQ,ag aO t.kids.length ck] 26);clear p;obtain⟨⟨ax,aB,aG,aJ⟩,-⟩:=G.out.has.four;have am:=G.out.has.lt;go_in
 go_wp2_with(first
  |(go_at_call 198;refine(dn h _ G.out.ps.I _ t aM.out aL.out _ (by omega)).mono ?_;rintro e bd ⟨⟨a9,rfl,a8⟩,O⟩;replace G:=aa (G.out.below O);have⟨⟨ax,aB,aG,aJ⟩,_⟩:=G.out.has.four;have am:=G.out.has.lt;clear O)
  |(at_builtin;refine G.out.ky 1 ?_;intro ba bg ao;replace G:=aa ao;have⟨⟨ax,aB,aG,aJ⟩,_⟩:=G.out.has.four;have am:=G.out.has.lt;clear ao))
 go_ret;exact⟨_,_,_,rfl,G.out.fin aN.out,by omega⟩
theorem IB(m:Nat)(E:eP m)(t:Tree)(aT:t.size<=m+1)(rt:RT t)(ab:t.kind=15)(h:Hp)(B:Nat)(w:World)(v:Value)(n:Nat)(xs:List Value)(p:bN h B w v n xs v w)(hn:n+9*t.size<=4000000)(tv:Value)(J:aP h tv t):Calls ai 173 #[v,tv] w (e9 h B w v n t.size):=by
 have aV:=aa E;have aZ:=aa rt;have aL:=aa rt.2;have a2:Sh1 t.text:=rt.1.text;have aN:=aa p;have hz:=Tree.size_eq t;have aY:Hid (∀i (Y:i<t.kids.length),t.kids[i].size<=m):=fun i Y=>by have:=dB (aK Y);omega
 obtain⟨al,aQ,aO,ck,ys,rfl,-,a4,a3,aS,ak,he⟩:=J.open;have a1:=aa ak;have aX:=aa he;have aj:=rt.1.leads;rw[ab]at aj J⊢;have aM:=aa J;have a5:1<=t.size:=by omega
 clear E rt J aS ak he ab hz aj aT;have G:=aa (PX.start p #[af ae 15,ah t.text,ag al t.leads.length aQ,ag aO t.kids.length ck] 26);clear p;obtain⟨⟨ax,aB,aG,aJ⟩,-⟩:=G.out.has.four;have am:=G.out.has.lt;go_in
 go_wp2_with(first
  |(go_at_call 198;refine(dn h _ G.out.ps.I _ t aM.out aL.out _ (by omega)).mono ?_;rintro e bd ⟨⟨a9,rfl,a8⟩,O⟩;replace G:=aa (G.out.below O);have⟨⟨ax,aB,aG,aJ⟩,_⟩:=G.out.has.four;have am:=G.out.has.lt;clear O)
  |(at_builtin;refine G.out.ky 1 ?_;intro ba bg ao;replace G:=aa ao;have⟨⟨ax,aB,aG,aJ⟩,_⟩:=G.out.has.four;have am:=G.out.has.lt;clear ao))
 go_ret;exact⟨_,_,_,rfl,G.out.fin aN.out,by omega⟩
end Go.Proofs.YtdplggpbgommnaaGreatDoor
