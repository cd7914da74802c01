/- pairing.classes.of: the walk. -/
import Derived.Test.YtdplggpbgommnaaGreatDoorG21
open ByteArray renaming size→J7
open Go renaming bodyPost_ret→aF,heap_alloc_new→gL,heap_alloc_old→oi,results→aH
open Go.IntKind renaming i64→ae
open Go.Lib renaming PrintTabs→fq,byteCells_append→J9,byteCells_length→J8,byteCells→vB,hid→aa,itoa_length_le→Bs,itoa→eQ
open Go.Proofs.Tryz renaming prog→ai,results108→Kb,results174→KI,results200→Cf,underlying114→Br
open Go.RowKit.Below renaming heap_setCell→cH,refl→aD
open Go.Value renaming int→af,ownBlock→bW,pointer→az,slice→ag,string→ah,tuple→bD
open Go.Value.agg renaming injEq→oG
open Go.Value.slice renaming injEq→bU
open List renaming append_assoc→fI,findIdx?_isSome→Ka,flatMap_append→sv,getElem?_cons_zero→bc,getElem?_eq_getElem→aE,getElem?_toArray→bw,getElem_mem→aK,length_append→cI,length_cons→bF,length_nil→cL,map_cons→cR,set_append_right→ma,sum_cons→hA,take_length→cP,take_succ_eq_append_getElem→mc
open List.cons renaming injEq→ii
open Nat renaming add_sub_cancel_left→Bq,le_of_lt→kB,le_refl→an,le_trans→b5,zero_le→aW
open Option.some renaming injEq→aC,inj→aU
set_option maxRecDepth 100000
set_option maxHeartbeats 4000000
namespace Go.Proofs.YtdplggpbgommnaaGreatDoor
open Go.RowKit
mutual
def Tree.short:Tree→Prop
 | .node _ s _ ks=>s.size≤1000000∧kJ ks
def kJ:List Tree→Prop
 |[]=>True
 |t::ts=>t.short∧kJ ts
end
theorem Tree.wv{t:Tree}(h:t.short):t.text.size≤1000000∧kJ t.kids:=by cases t;rw[Tree.short]at h;exact h
theorem s3:∀{ts:List Tree},kJ ts→∀i (A:i<ts.length),(ts[i]).short
 |_::_,h,0,_=>by rw[kJ]at h;exact h.1
 |_::ts,h,i+1,A=>by rw[kJ]at h;exact s3 h.2 i (by simpa using A)
theorem Has.heap{w:World}{b:Nat}{c:Array Value}{t:TypeId}(h:w.heap[b]? =some (.cells c t (0,0))):Has w b c:=by
 refine⟨?_,fun o=>by simp[World.cell?,h],fun o=>by simp[World.frozen?,h]⟩;rcases Nat.lt_or_ge b w.heap.size with q|q;·exact q
 ·rw[Array.getElem?_eq_none q]at h;cases h
structure fb(h:Hp)(w:World)(B r:Nat)(lv:Value)(b:Nat)(c:Array Value)(wr:World)(bC:Value)(L:List bq)(kn:List ByteArray)(l:List UInt8):Prop where
 s:cz h w B r lv wr bC L kn
 a:hP b b (vB l) wr
 x:wr.heap[w.heap.size]? =some (.cells c 26 (0,0))
 lt:w.heap.size<b
section
variable {h:Hp} {w wr w':World} {B r b:Nat} {lv bC jl:Value} {L L2:List bq} {kn nD:List ByteArray} {l l2:List UInt8} {c:Array Value}
theorem fb.s4(z:fb h w B r lv b c wr bC L kn l):b<wr.heap.size:=by obtain⟨c1,h1⟩:=oK.type z.a;exact(Has.heap h1).lt
theorem fb.below(z:fb h w B r lv b c wr bC L kn l)(q:Below wr.heap.size wr w'):fb h w B r lv b c w' bC L kn l:=
 ⟨z.s.below q,z.a.tu ((Tu.refl (fun _=>False) wr).below q) fun _ e=>e.elim,(q.block _ (Has.heap z.x).lt).trans z.x,z.lt⟩
theorem fb.wrote(z:fb h w B r lv b c wr bC L kn l)(q:jJ b b wr w')(A:hP b b (vB l2) w'):fb h w B r lv b c w' bC L kn l2:=
 ⟨z.s.wrote z.a q (kB z.lt),A,(q.1.block _ z.lt).trans z.x,z.lt⟩
theorem fb.call(z:fb h w B r lv b c wr bC L kn l)(q:cz h wr B r bC w' jl L2 nD):fb h w B r lv b c w' jl L2 nD l:=by
 refine⟨z.s.call q,z.a.tu q.tu (z.s.apart z.a),(q.tu.block _ (Has.heap z.x).lt fun e=> ?_).trans z.x,z.lt⟩;rcases e with e|e;·obtain⟨c2,h2⟩:=z.s.own.type e;rw[z.x]at h2;simp at h2
 ·have h2:=z.s.map;unfold aS cG at h2;rw[←e,z.x]at h2;cases h2
theorem fb.str(z:fb h w B r lv b c wr bC L kn l)(l2:List UInt8)(A:l.length+l2.length≤100000000):Calls ai 152 #[az (some ⟨b,0,none⟩),ah ⟨l2.toArray⟩] wr fun e w'=>e= .returned (bD #[af ae (J7 ⟨l2.toArray⟩),.nilIface])∧fb h w B r lv b c w' bC L kn (l++l2):=by refine(Co b b _ ⟨l2.toArray⟩ wr z.a (by rw[J8];simp[J7];omega) (kB z.s4)).mono ?_;rintro e w' ⟨rfl,a,q⟩;refine⟨rfl,z.wrote q (.inr ?_)⟩;rw[J9];exact a
theorem fb.blank(z:fb h w B r lv b c wr bC L kn l)(A:l.length≤100000000):Calls ai 154 #[az (some ⟨b,0,none⟩),af .u8 32] wr fun e w'=>e= .returned .nilIface∧fb h w B r lv b c w' bC L kn (l++[32]):=by refine(Cp b b _ 32 wr z.a (by rw[J8];omega) (kB z.s4)).mono ?_;rintro e w' ⟨rfl,a,q⟩;refine⟨rfl,z.wrote q (.inr ?_)⟩;rw[J9];exact a
end
theorem cz.push{h:Hp}{w W w2:World}{B r:Nat}{lv bC A:Value}{L:List bq}{kn:List ByteArray}{x:bq}(s:cz h w B r lv W bC L kn){o:Obj}(O:r<B)(M:Ow w2 h B 121 4 A (L.length+1) (L.flatMap cX++cX x))(E:(W.alloc o).grownBy w2 bC.ownBlock)(bk:A.ownBlock=bC.ownBlock∨A.ownBlock=some (W.alloc o).heap.size):cz h w B r lv w2 A (L++[x]) kn:=by
 refine⟨by rw[cI,sv];simpa using M,s.map.U ?_,(s.tu.alloc o).grown E fun k e=> ?_,?_⟩;·have:=s.map.lt;rw[E.block r (by simp;omega) (fun e=>by have:=(s.own.lt r e.symm).1;omega)];exact Below.heap_alloc _ _ _ this
 ·rcases s.bi with q|⟨g,q,G⟩;·exact .inl (.inl (by rw[←q];exact e))
  ·rw[q]at e;exact .inr (by rw[←aU e];exact G)
 ·rcases bk with q|q;·rw[q];exact s.bi
  ·refine .inr ⟨_,q,?_⟩;have:=s.tu.size;simp;omega
theorem qK{w:World}{g n k:Nat}{xs:List Value}(h:∀i u,xs[i]? =some u→w.cell? ⟨g,i,none⟩=some u)(E:xs.length=n*k){i:Nat}(A:i<n*k):∃u,w.cell? ⟨g,i,none⟩=some u:=
 ⟨_,h i _ (aE (by omega))⟩
theorem Cq(L A:List bq)(m n s c:Nat):((((L++[(⟨m,n,0,0⟩:bq)]++A).flatMap cX).set (L.length*4+2) (af ae s)).set (L.length*4+3) (af ae c))=(L++[(⟨m,n,s,c⟩:bq)]++A).flatMap cX:=by simp only[sv,fI];rw[ma _ _ (by rw[s5];omega),ma _ _ (by rw[s5];omega),s5,Bq,Bq];simp[cX]
theorem cz.fill{h:Hp}{w wr:World}{B r:Nat}{lv:Value}{L A:List bq}{kn:List ByteArray}{m n g E M:Nat}(s:cz h w B r lv wr (ag (some ⟨g,0,none⟩) E M) (L++[⟨m,n,0,0⟩]++A) kn)(aj:r<B)(ab:E=(L++[(⟨m,n,0,0⟩:bq)]++A).length)(G c:Nat):cz h w B r lv ((wr.setCell ⟨g,L.length*4+2,none⟩ (af ae G)).setCell ⟨g,L.length*4+3,none⟩ (af ae c)) (ag (some ⟨g,0,none⟩) E M) (L++[⟨m,n,G,c⟩]++A) kn:=by
 have ad:=(s.own.lt g rfl).1
 have O:(lv.ownBlock=some g∨g=r)∨w.heap.size≤g:=by
  rcases s.bi with q|⟨Y,q,ac⟩;·exact .inl (.inl (by rw[←q];rfl))
  ·exact .inr (by have:g=Y:=aU q;omega)
 subst ab;refine⟨?_,s.map.U ?_,(s.tu.set (p:=⟨g,L.length*4+2,none⟩) O _).set (p:=⟨g,L.length*4+3,none⟩) O _,s.bi⟩;·have o:=(s.own.set (L.length*4+2) (af ae G) (by simp;omega)).set (L.length*4+3) (af ae c) (by simp;omega);rw[Cq]at o;simpa using o
 ·rw[cH _ _ _ _ (by show r≠g;omega),cH _ _ _ _ (by show r≠g;omega)]
theorem Cr:jm 9 j8:=ww
theorem cz.known{h:Hp}{w wr:World}{B r:Nat}{lv bC:Value}{L:List bq}{kn:List ByteArray}(s:cz h w B r lv wr bC L kn)(A:ByteArray)(G:(kn.findIdx? fun k=>decide (k=A))=none)(O:r<B):(Instr.mapUpdate 114 (.map (some r)) (ah A) (af ae (kn.length:Nat))).run ai wr= .ok () (de wr r (cG j8 (hB (kn++[A]))))∧cz h w B r lv (de wr r (cG j8 (hB (kn++[A])))) bC L (kn++[A])∧wr.grownBy (de wr r (cG j8 (hB (kn++[A])))) (some r):=by obtain⟨h1,h2,E⟩:=s.map.put Cr A (af ae (kn.length:Nat)) 114 3 Br;rw[Cs kn A G]at h1 h2 E;exact⟨h1,⟨s.own.grown E fun g M e=>by have:=(s.own.lt g M).1;have:=aU e;omega,h2,s.tu.grown E fun k e=> .inl (.inr (aU e).symm),s.bi⟩,E⟩
theorem wx:∀(ts:List Tree),ts.length≤ax ts
 |[]=>by simp
 |t::ts=>by have:=wx ts;have:=t.size_eq;rw[gR,bF];omega
theorem Ct(T:fq)(N:Nat)(n:Nat):∀(t:Tree),t.size≤n→t.short→∀(h:Hp) (w:World) (B cb r:Nat) (v lv:Value) (L:List bq) (kn:List ByteArray) (m num:Nat),ao h w→Tb T N w→N≤B→B≤w.heap.size→cb<B→r<B→N≤r→cb≠r→h r=none→Has w cb #[.map (some r)]→aP h v t→Ow w h B 121 4 lv L.length (L.flatMap cX)→aS j8 w r (hB kn)→L.length+t.size≤1000000→kn.length+t.size≤1000000→num+t.size≤1000000→Calls ai 108 #[az (some ⟨cb,0,none⟩),v,af ae m,af ae num,lv] w fun e w'=>∃bC,e= .returned (bD #[bC,af ae t.size,af ae (cS (aX T) m t num kn).2.1])∧cz h w B r lv w' bC (L++(cS (aX T) m t num kn).1) (cS (aX T) m t num kn).2.2:=by
 induction n with
 |zero=>intro t e0;have:=t.size_eq;omega
 |succ n dj=>
  intro t e1 di h w B cb r v lv L kn m num ce dt c6 d6 d9 a8 c8 bI cg dC tv a9 dn e2 e3 e5;have cq:=aa ce;have dZ:=aa dt;have cD:=aa dC;have eG:=aa a9;have dU:=aa dj;have ch:=t.wv di;have dT:=aa ch.2;have ei:=ch.1;have ci:=t.size_eq;obtain⟨ad,aj,G,ck,xs,rfl,cf,eX,eW,ed,dh,c9⟩:=tv.open;have dY:=aa dh;have dP:=aa c9;have cw:Hid (∀g,lv.ownBlock=some g→h g=none):=fun g a4=>a9.free g a4;have bg:Hid (∀g,lv.ownBlock=some g→B≤g∧g<w.heap.size):=fun g a4=>a9.lt g a4;have dX:Hid (cz h w B r lv w lv L kn):=⟨a9,dn,Tu.refl _ _,.inl rfl⟩
  have cn:=aa (Cu (ck:=aX T) m t num kn);have bZ:Below w.heap.size w (w.alloc (.cells #[af ae t.kind,ah t.text,ag ad t.leads.length aj,ag G t.kids.length ck] 26)):=(aD _ _).alloc (an _) _;have cC:=aa (gL w (.cells #[af ae t.kind,ah t.text,ag ad t.leads.length aj,ag G t.kids.length ck] 26));have cu:=aa (ce.below bZ);have bp:=aa (dX.out.below bZ);clear ce dt dC a9 dj dh c9 ed dn tv ch di bZ;generalize dg:cS (aX T) m t num kn=e7 at*;have eC:=aa dg;obtain⟨aZ,a1,rfl⟩:=bp.out.own.shape;clear dg;go_enter Tryz.func108,Tryz.ntmps108;go_wp2_with(at_builtin;go_must(refine ft wy rfl _ _ rfl (St.dN (B:=B) (cu.out.alloc _) (by simp;omega)) _ L.length (L.flatMap cX) rfl (bp.out.own.alloc _) ⟨w.heap.size+1,0,none⟩ 1 1 [af ae m,af ae num,af ae 0,af ae 0] rfl rfl (cK _ _ _ _ (by simp)) (cm _ rfl) (by omega) ?_);go_must(intro bL w2 eq dp b9 cU;have M:Hid (w2.heap[w.heap.size]? =some (.cells #[af ae t.kind,ah t.text,ag ad t.leads.length aj,ag G t.kids.length ck] 26 (0,0))):=((b9.block w.heap.size (by simp;omega) (fun e=>by have:=(bg.out _ e.symm).2;omega)).trans ((oi _ _ (by simp)).trans cC.out));have cB:=aa (cz.push (x:=⟨m,num,0,0⟩) bp.out a8 dp b9 cU);have bS:Hid (fb h w B r (ag aZ L.length a1) w2.heap.size #[af ae t.kind,ah t.text,ag ad t.leads.length aj,ag G t.kids.length ck] (w2.alloc (.cells #[az none,ag none 0 0] 224)) bL (L++[⟨m,num,0,0⟩]) kn []):=⟨cB.out.below ((aD _ _).alloc (an _) _),hP.new w2,(oi _ _ (Has.heap M.out).lt).trans M.out,(Has.heap M.out).lt⟩;have eB:=(Has.heap M.out).lt;have dw:=(Has.heap M.out).cl 0;have dA:=(Has.heap M.out).cl 1;have dB:=(Has.heap M.out).cl 3;simp only[bw,bc,List.getElem?_cons_succ]at dw dA dB;clear eq dp b9 cU));have bE:Hid (∀{wr bC aY q l},fb h w B r (ag aZ L.length a1) w2.heap.size #[af ae t.kind,ah t.text,ag ad t.leads.length aj,ag G t.kids.length ck] wr bC aY q l→Tb T N wr):=fun z=>z.s.tb dZ.out (fun g a4=>b5 c6 (bg.out g a4).1) c8;have O:Hid (∀{wr bC aY q l},fb h w B r (ag aZ L.length a1) w2.heap.size #[af ae t.kind,ah t.text,ag ad t.leads.length aj,ag G t.kids.length ck] wr bC aY q l→w.heap.size<wr.heap.size∧w2.heap.size<wr.heap.size∧wr.cell? ⟨w.heap.size,1,none⟩=some (ah t.text)∧wr.cell? ⟨w.heap.size,3,none⟩=some (ag G t.kids.length ck)):=fun z=>⟨(Has.heap z.x).lt,z.s4,(Has.heap z.x).cl 1,(Has.heap z.x).cl 3⟩
  refine(wA (bE.out bS.out) t.kind cf).mono ?_;rintro e w3 ⟨rfl,b3⟩;have bT:=aa (bS.out.below b3);obtain⟨am,aB,aJ,aL⟩:=O.out bT.out;clear bS b3 dw dA dB eB M cC cB bp cu;have eD:=Bs t.kind cf.1 cf.2;have eH:(mB T t.text).length≤10000002:=by have:=Lib.quoteZ_length_le T t.text;simp only[mB,List.length_map];omega
  go_wp2_with fail;refine(bT.out.str (eQ t.kind) (by simp;omega)).mono ?_;rintro e fg ⟨rfl,dG⟩;have bV:=aa dG;obtain⟨am,aB,aJ,aL⟩:=O.out bV.out;clear dG bT;go_wp2_with fail;refine(bV.out.blank (by simp;omega)).mono ?_;rintro e fh ⟨rfl,dN⟩;have bv:=aa dN;obtain⟨am,aB,aJ,aL⟩:=O.out bv.out;clear dN bV;go_wp2_with fail;refine(Cv (bE.out bv.out) t.text ei).mono ?_;rintro e fi ⟨rfl,cQ⟩;have bX:=aa (bv.out.below cQ);obtain⟨am,aB,aJ,aL⟩:=O.out bX.out;clear cQ bv;go_wp2_with fail;refine(bX.out.str (mB T t.text) (by simp;omega)).mono ?_;rintro e fj ⟨rfl,dO⟩;have bY:=aa dO;obtain⟨am,aB,aJ,aL⟩:=O.out bY.out;clear dO bX;go_wp2_with fail;clear am aB aJ aL;generalize bJ:[]++eQ t.kind++[32]++mB T t.text=ak at bY;have eF:ak.length≤10001000:=by rw[←bJ];simp;omega
  have dR:Hid (∀cs,aX T t.kind t.text cs=⟨(ak++cs.flatMap fun(c:Nat)=>32::eQ c).toArray⟩):=fun cs=>by rw[←bJ];simp[aX,pE]
  have dW:ak≠[]:=by rw[←bJ];simp
  clear bJ
  have cl:Hid (∀j,j≤t.kids.length→(bz (aX T) m (t.kids.take j) (num+1) kn).1.length=ax (t.kids.take j)∧(bz (aX T) m (t.kids.take j) (num+1) kn).2.2.length≤kn.length+ax (t.kids.take j)∧((bz (aX T) m (t.kids.take j) (num+1) kn).2.1.flatMap fun(c:Nat)=>32::eQ c).length≤j*22):=fun j hj=>by
   have q:=pF (ck:=aX T) m (t.kids.take j) (num+1) kn;refine⟨q.1,q.2.2.1,?_⟩
   have d8:∀(cs:List Nat),(∀c∈cs,c<10000000)→(cs.flatMap fun(c:Nat)=>32::eQ c).length≤cs.length*22:=by
    intro cs;induction cs with
    |nil=>intro _;simp
    |cons c cs ej=>intro bH;have h1:=bH c List.mem_cons_self;have h2:=ej fun d ea=>bH d (List.mem_cons_of_mem _ ea);have eO:=Bs (c:Int) (by omega) (by omega);simp only[List.flatMap_cons,cI,bF];omega
   have eZ:ax (t.kids.take j)≤ax t.kids:=jK _ _;have:=d8 _ fun c bH=>by have:=q.2.2.2.1 c bH;omega
   rw[q.2.2.2.2,List.length_take]at this;have:min j t.kids.length≤j:=Nat.min_le_left _ _;omega
  have KL:t.kids.length≤ax t.kids:=wx _;go_loopw[4,15,17,18,19,42,43,44,45,46,47,48,49,50,51,52,53,54,55,56,57,58,59,60,61,62,63,64,65] (fun l s _ _ _ i _ _ _ _ _ _ _ _ _ _ _ _ _ _ _ _ _ _ _ _ _ _ _ wr=>∃(j:Nat) (bC:Value),j≤t.kids.length∧bC=l∧s=af ae (ax (t.kids.take j)+1:Nat)∧i=af ae j∧fb h w B r (ag aZ L.length a1) w2.heap.size #[af ae t.kind,ah t.text,ag ad t.leads.length aj,ag G t.kids.length ck] wr bC (L++[⟨m,num,0,0⟩]++(bz (aX T) m (t.kids.take j) (num+1) kn).1) (bz (aX T) m (t.kids.take j) (num+1) kn).2.2 (ak++(bz (aX T) m (t.kids.take j) (num+1) kn).2.1.flatMap fun(c:Nat)=>32::eQ c)) (fun _ _ _ _ _ i _ _ _ _ _ _ _ _ _ _ _ _ _ _ _ _ _ _ _ _ _ _ _ _=>t.kids.length-(intOf i).toNat);case atStart=>exact⟨0,_,aW _,rfl,rfl,rfl,by simpa[bz]using bY.out⟩
  case round=>
   obtain⟨j,bC,eb,rfl,rfl,rfl,z⟩:=hrel;have bG:=cl.out j eb;by_cases hj:j<t.kids.length
   ·have dk:=z.s.I cq.out cw.out cg;obtain⟨bk,e6,d3,d5,d2,d4,rfl,fn,eK,eL,eM,eN,er⟩:=j9 dY.out dP.out dk j hj;have st:=eY t.kids j hj;have e8:=jK t.kids (j+1);have ep:=s3 dT.out j hj;have b0:=cl.out (j+1) (by omega);have bB:Hid (bz (aX T) m (t.kids.take (j+1)) (num+1) kn=((bz (aX T) m (t.kids.take j) (num+1) kn).1++(cS (aX T) m t.kids[j] (num+1+ax (t.kids.take j)) (bz (aX T) m (t.kids.take j) (num+1) kn).2.2).1,(bz (aX T) m (t.kids.take j) (num+1) kn).2.1++[(cS (aX T) m t.kids[j] (num+1+ax (t.kids.take j)) (bz (aX T) m (t.kids.take j) (num+1) kn).2.2).2.1],(cS (aX T) m t.kids[j] (num+1+ax (t.kids.take j)) (bz (aX T) m (t.kids.take j) (num+1) kn).2.2).2.2)):=by unfold Hid;rw[mc hj,s6]
    have co:=wB (ck:=aX T) m t.kids[j] (num+1+ax (t.kids.take j)) (bz (aX T) m (t.kids.take j) (num+1) kn).2.2;obtain⟨bm,d7⟩:∃q,q=num+1+ax (t.kids.take j):=⟨_,rfl⟩
    rw[←d7]at co bB;rw[bB.out]at b0;simp only at b0;have e9:ax (t.kids.take (j+1))=ax (t.kids.take j)+t.kids[j].size:=st;have w2:ae.wrap (((ax (t.kids.take j)+1:Nat):Int)+(t.kids[j].size:Int))=((ax (t.kids.take (j+1))+1:Nat):Int):=by rw[bA (by omega)];omega
    generalize t.kids[j]=aV at*;generalize bz (aX T) m (t.kids.take j) (num+1) kn=A at*;have w1:ae.wrap ((num:Int)+((ax (t.kids.take j)+1:Nat):Int))=(bm:Int):=by rw[bA (by omega)];omega
    obtain⟨R,cd⟩:∃R,R=cS (aX T) m aV bm A.2.2:=⟨_,rfl⟩
    rw[←cd]at co bB b0;have Y:=aa (z.below ((aD wr.heap.size wr).alloc (an _) (.cells #[af ae aV.kind,ah aV.text,ag d3 aV.leads.length d5,ag d2 aV.kids.length d4] 26)));have cv:=aa (Y.out.s.I cq.out cw.out cg)
    have cE:=aa (cD.out.tu Y.out.s.tu fun e=>by
     rcases e with e|e;·have:=(bg.out _ e).1;omega
     ·exact bI e)
    have eE:(L++[(⟨m,num,0,0⟩:bq)]++A.1).length=L.length+1+ax (t.kids.take j):=by simp[bG.1];omega
    have bd:=aa (dU.out aV (by omega) ep h _ B cb r _ bC (L++[⟨m,num,0,0⟩]++A.1) A.2.2 m bm cv.out (bE.out Y.out) c6 (b5 d6 Y.out.s.tu.size) d9 a8 c8 bI cg cE.out er Y.out.s.own Y.out.s.map (by omega) (by omega) (by omega));rw[←cd]at bd;clear cd;rw[show((bm:Nat):Int)=(num:Int)+((ax (t.kids.take j):Int)+1)from by omega]at bd;have du:(0:Int)≤(j:Int):=by omega
    have bL:(j:Int)<(t.kids.length:Int):=by omega
    have eI:=jK t.kids j;clear z dk;go_wp2_with fail;refine bd.out.mono ?_;rintro e e' ⟨jl,rfl,cV⟩;have E:=aa (Y.out.call cV);clear cV bd Y cv cE;obtain⟨am,aB,aJ,aL⟩:=O.out E.out;have eP:(ak++A.2.1.flatMap fun(c:Nat)=>32::eQ c).length≤90000000:=by rw[cI];omega
    have cc:aG (R.2.1:Int):=by unfold aG;omega
    have IR:=Bs (R.2.1:Int) cc.1 cc.2;go_wp2_with fail;refine(E.out.blank (by omega)).mono ?_;rintro e fc ⟨rfl,dD⟩;have ab:=aa dD;obtain⟨am,aB,aJ,aL⟩:=O.out ab.out;clear dD E;go_wp2_with fail;refine(wA (bE.out ab.out) (R.2.1:Int) cc).mono ?_;rintro e fd ⟨rfl,cN⟩;have ac:=aa (ab.out.below cN);obtain⟨am,aB,aJ,aL⟩:=O.out ac.out;clear cN ab;go_wp2_with fail;refine(ac.out.str (eQ (R.2.1:Int)) (by rw[cI,List.length_singleton];omega)).mono ?_;rintro e fe ⟨rfl,dF⟩;have d1:=aa dF;clear dF ac;go_wp2_with fail;go_roundw;case rel=>exact⟨j+1,jl,by omega,rfl,congrArg (af ae) (by omega),congrArg (af ae) (by omega),by rw[bB.out];simpa[fI,sv]using d1.out⟩
    case measure=>simp[intOf];omega
   ·obtain rfl:j=t.kids.length:=by omega
    rw[cP]at z bG;have ct:Hid (aX T t.kind t.text (bz (aX T) m t.kids (num+1) kn).2.1=⟨(ak++(bz (aX T) m t.kids (num+1) kn).2.1.flatMap fun(c:Nat)=>32::eQ c).toArray⟩):=dR.out _;have bN:=cn.out;rw[ct.out]at bN;have db:(ak++(bz (aX T) m t.kids (num+1) kn).2.1.flatMap fun(c:Nat)=>32::eQ c)≠[]:=by simp[dW]
    generalize(ak++(bz (aX T) m t.kids (num+1) kn).2.1.flatMap fun(c:Nat)=>32::eQ c)=l at*;generalize bz (aX T) m t.kids (num+1) kn=A at*;have aO:=aa bN;have Z:=aa z
    have aT:Hid (∀{wr bC aY q l},fb h w B r (ag aZ L.length a1) w2.heap.size #[af ae t.kind,ah t.text,ag ad t.leads.length aj,ag G t.kids.length ck] wr bC aY q l→Has wr cb #[.map (some r)]):=fun z=>cD.out.tu z.s.tu fun e=>by
     rcases e with e|e;·have:=(bg.out _ e).1;omega
     ·exact bI e
    have el:=(aT.out z).cl 0;have fr:=(aT.out z).lt;simp only[bw,bc]at el;have ek:Hid (jm 9 j8):=ww;clear bN ct z cn;go_wp2_with fail;go_region_held3(fun w'=>w'.cell? ⟨cb,0,none⟩=some (.map (some r))) (first|(go_keep;done)|exact dm) (first|(go_at_call 156;refine(wC _ _ l _ (Z.out.below (aD _ _).drew).a db).mono ?_;rintro e dv ⟨rfl,cF,dq⟩;have E:=aa ((Z.out.below (aD _ _).drew).wrote dq cF);have dm:=(aT.out E.out).cl 0;simp only[bw,bc]at dm;have bR:=(E.out.s.map.look ek.out ⟨l.toArray⟩ 114 3 (af ae 0) Br (fun W=>by kernel_rfl)).2;rw[Cw]at bR;simp only[j8]at bR;clear cF dq));have fu:=(aT.out E.out).lt;have cA:=fun es=>E.out.s.map.qL Br es;rw[Cx]at cA;have aQ:=E.out.s.own;obtain⟨eJ,cY,rfl⟩:=aQ.shape;have e4:(L++[(⟨m,num,0,0⟩:bq)]++A.1).length=L.length+1+A.1.length:=by simp;omega
    clear bR;cases hf:A.2.2.findIdx? (fun k=>decide (k=⟨l.toArray⟩))with
    |some q=>
     have a5:gw A.2.2 ⟨l.toArray⟩=(q,A.2.2):=by unfold gw;rw[hf]
     have a3:(A.2.2.any fun k=>decide (k=⟨l.toArray⟩))=true:=by rw[←Ka,hf];rfl
     simp only[Option.map_some,Option.getD_some,a3];rw[a5]at aO;obtain⟨a2,rfl,-,eA,-,aM,aN⟩:=aQ.cell (by omega);have q1:∃u,dv.cell? ⟨a2,L.length*4+2,none⟩=some u:=qK aM aQ.len (by omega);have ba:∃u,dv.cell? ⟨a2,L.length*4+3,none⟩=some u:=qK aM aQ.len (by omega);obtain⟨ex,q1⟩:=q1;obtain⟨ey,ba⟩:=ba;have en:=aN (L.length*4+2);have eo:=aN (L.length*4+3);have bO:=aa (E.out.s.fill a8 rfl (ax t.kids+1) q);have du:(0:Int)≤(L.length:Int):=by omega
     have bL:(L.length:Int)<((L++[(⟨m,num,0,0⟩:bq)]++A.1).length:Int):=by omega
     clear hf a3 a5 aM aN aQ;go_wp2_with fail;refine aF (v:=bD #[ag (some ⟨a2,0,none⟩) (L++[(⟨m,num,0,0⟩:bq)]++A.1).length cY,af ae ((ax t.kids:Int)+1),af ae q]) (by simp[aH,Kb,go_sem];exact bG.1.symm) rfl ?_;refine⟨_,by rw[aO.out],?_⟩;rw[aO.out,ci];show cz h w B r _ _ _ (L++((⟨m,num,ax t.kids+1,q⟩:bq)::A.1)) A.2.2;rw[show L++((⟨m,num,ax t.kids+1,q⟩:bq)::A.1)=L++[⟨m,num,ax t.kids+1,q⟩]++A.1 from by simp];exact bO.out
    |none=>
     have a5:gw A.2.2 ⟨l.toArray⟩=(A.2.2.length,A.2.2++[⟨l.toArray⟩]):=by unfold gw;rw[hf]
     have a3:(A.2.2.any fun k=>decide (k=⟨l.toArray⟩))=false:=by rw[←Ka,hf];rfl
     simp only[Option.map_none,Option.getD_none,a3];rw[a5]at aO;have ec:=db;have dQ:=aa hf;clear hf a3 a5 aQ;go_wp2_with fail;go_region_held3(fun w'=>w'.cell? ⟨cb,0,none⟩=some (.map (some r))) (first|(go_keep;done)|exact cj|exact em) (first|(go_at_call 156;refine(wC _ _ l _ (E.out.below (aD _ _).drew).a ec).mono ?_;rintro e ez ⟨rfl,cM,dr⟩;have ab:=aa ((E.out.below (aD _ _).drew).wrote dr cM);have cj:=(aT.out ab.out).cl 0;simp only[bw,bc]at cj;obtain⟨d0,dE,cZ⟩:=ab.out.s.known ⟨l.toArray⟩ dQ.out a8;have ac:=aa dE;have em:=(World.cell?_of_block (a:=⟨cb,0,none⟩) (cZ.block cb (aT.out ab.out).lt (fun e=>bI (aU e)))).trans cj;clear cM dr dE cZ));obtain⟨a2,rfl,-,eA,-,aM,aN⟩:=ac.out.own.cell (by omega);have q1:=qK aM ac.out.own.len (i:=L.length*4+2) (by omega);have ba:=qK aM ac.out.own.len (i:=L.length*4+3) (by omega);obtain⟨ex,q1⟩:=q1;obtain⟨ey,ba⟩:=ba;have en:=aN (L.length*4+2);have eo:=aN (L.length*4+3);have bO:=aa (ac.out.fill a8 rfl (ax t.kids+1) A.2.2.length);have du:(0:Int)≤(L.length:Int):=by omega
     have bL:(L.length:Int)<((L++[(⟨m,num,0,0⟩:bq)]++A.1).length:Int):=by omega
     clear aM aN d0 cA;generalize de ez r (cG j8 (hB (A.2.2++[⟨l.toArray⟩])))=ff at*;go_wp2_with fail;refine aF (v:=bD #[ag (some ⟨a2,0,none⟩) (L++[(⟨m,num,0,0⟩:bq)]++A.1).length cY,af ae ((ax t.kids:Int)+1),af ae A.2.2.length]) (by simp[aH,Kb,go_sem];exact bG.1.symm) rfl ?_;refine⟨_,by rw[aO.out,ci];rfl,?_⟩;rw[aO.out,ci];show cz h w B r _ _ _ (L++((⟨m,num,ax t.kids+1,A.2.2.length⟩:bq)::A.1)) (A.2.2++[⟨l.toArray⟩]);rw[show L++((⟨m,num,ax t.kids+1,A.2.2.length⟩:bq)::A.1)=L++[⟨m,num,ax t.kids+1,A.2.2.length⟩]++A.1 from by simp];exact bO.out
def iX(ds:List cF):Nat:=(ds.map (·.t.size)).sum
section
variable {ck:Int→ByteArray→List Nat→ByteArray}
theorem rH:∀(ds:List cF) (s:List bq×List ByteArray),(ds.foldl (gG ck) s).1.length≤s.1.length+iX ds∧(ds.foldl (gG ck) s).2.length≤s.2.length+iX ds
 |[],s=>by simp[iX]
 |d::ds,s=>by have h:=rH ds (gG ck s d);have q:=pF (ck:=ck) d.J d.t.kids (d.number+1) s.2;have hz:=d.t.size_eq;simp only[List.foldl_cons,iX,cR,hA]at h⊢;unfold gG at h;simp only[cI]at h;unfold gG;simp only;omega
end
theorem F4(ds:List cF)(j:Nat)(hj:j<ds.length):iX (ds.take j)+ds[j].t.size≤iX ds:=by
 unfold iX;have:ds=ds.take j++ds[j]::ds.drop (j+1):=by simp
 have h2:(ds.map (·.t.size)).sum=((ds.take j++ds[j]::ds.drop (j+1)).map (·.t.size)).sum:=by rw[←this]
 rw[h2];simp only[List.map_append,cR,List.sum_append,hA];omega
theorem cz.boxed{h:Hp}{w w':World}{B r:Nat}{lv bC jl:Value}{wr:World}{L L2:List bq}{kn nD:List ByteArray}(s:cz h w B r lv wr bC L kn)(c:cz h wr B r bC w' jl L2 nD){g:Nat}{G:Array Value}{E:TypeId}(A:wr.heap[g]? =some (.cells G E (0,0)))(O:E≠121):w'.heap[g]? =some (.cells G E (0,0)):=by
 refine(c.tu.block _ (Has.heap A).lt fun e=> ?_).trans A;rcases e with e|e;·obtain⟨c2,h2⟩:=s.own.type e;rw[A]at h2;simp only[aC]at h2;injection h2 with _ M;exact O M
 ·have h2:=s.map;unfold aS cG at h2;rw[←e,A]at h2;cases h2
theorem yL(T:fq)(N:Nat){h:Hp}{w:World}(ad:ao h w)(bL:Tb T N w){sb:Nat}{ts:List Tree}{mr:List Nat}{mv av kv:Value}(K:cC h sb ts mr mv av kv)(cb r:Nat)(kn:List ByteArray)(cF:cb<w.heap.size)(bm:N≤r)(bp:cb≠r)(M:h r=none)(bO:Has w cb #[.map (some r)])(aP:aS j8 w r (hB kn))(bH:∀d∈aj 0 ts,d.t.short)(dq:iX (aj 0 ts)+kn.length≤400000)(bB:∀d∈aj 0 ts,d.number+d.t.size≤400000)(dh:(aj 0 ts).length≤1000000):Calls ai 65 #[az (some ⟨cb,0,none⟩),az (some ⟨sb,0,none⟩)] w fun e w'=>∃bC,e= .returned bC∧cz h w w.heap.size r (ag none 0 0) w' bC (dk (aX T) (aj 0 ts) kn).1 (dk (aX T) (aj 0 ts) kn).2:=by
 obtain⟨tv,dt,c8,ac,-,bq,-⟩:=K.box;obtain⟨a1,a5,rfl,dn,-⟩:=bq.open;have dw:w.cell? ⟨sb,2,none⟩=some (ag a1 (aj 0 ts).length a5):=cu ad ac 2;have dQ:=cD (ad _ _ ac);have bR:=aa ac;have Y:=aa ad;have aZ:=aa bL;have cl:=aa bO;have bZ:=aa K;have cg:=aa bH;have cc:=aa bB;have cG:=aP.lt;have cd:Hid (cz h w w.heap.size r (ag none 0 0) w (ag none 0 0) [] kn):=⟨Ow.nil _ _ _ _ _,aP,Tu.refl _ _,.inl rfl⟩
 have ab:Hid (∀g,(ag none 0 0).ownBlock=some g→h g=none):=fun g e=>by simp[bW]at e
 have b9:Hid (∀g,(ag none 0 0).ownBlock=some g→N≤g):=fun g e=>by simp[bW]at e
 have cm:Hid (∀{wr bC b0 q},cz h w w.heap.size r (ag none 0 0) wr bC b0 q→Has wr cb #[.map (some r)]):=fun z=>cl.out.tu z.tu fun e=>by
  rcases e with e|e;·simp[bW]at e
  ·exact bp e
 clear ac ad bL bO K bH bB aP bq;go_enter Tryz.func65,Tryz.ntmps65;go_wp2_with fail;go_loopw[5,7,8,10,11,17,18,19,20,21,22,23,24,25,26,27,28,29,30,31,32,33,34,35,36,37,38,39,40,41,42,43,44,45,46,47] (fun l _ _ _ _ i _ _ _ _ _ _ _ _ _ _ _ _ _ _ _ _ _ _ _ _ _ _ _ _ _ _ _ _ _ _ wr=>∃(j:Nat) (bC:Value),j≤(aj 0 ts).length∧bC=l∧i=af ae j∧cz h w w.heap.size r (ag none 0 0) wr bC (((aj 0 ts).take j).foldl (gG (aX T)) ([],kn)).1 (((aj 0 ts).take j).foldl (gG (aX T)) ([],kn)).2) (fun _ _ _ _ _ i _ _ _ _ _ _ _ _ _ _ _ _ _ _ _ _ _ _ _ _ _ _ _ _ _ _ _ _ _ _ _=>(aj 0 ts).length-(intOf i).toNat);case atStart=>exact⟨0,_,aW _,rfl,rfl,cd.out⟩
 case round=>
  obtain⟨j,bC,dj,rfl,rfl,z⟩:=hrel;by_cases hj:j<(aj 0 ts).length
  ·have cQ:=F4 _ _ hj;have aT:=rH (ck:=aX T) ((aj 0 ts).take j) ([],kn);have bV:Hid (((aj 0 ts).take (j+1)).foldl (gG (aX T)) ([],kn)=gG (aX T) (((aj 0 ts).take j).foldl (gG (aX T)) ([],kn)) (aj 0 ts)[j]):=by unfold Hid;rw[mc hj,List.foldl_append];rfl
   obtain⟨b,du,n,cX,aL,aN,aJ,ck,bE,di,dp,dO,dR,co,cq,ct,cv,cw,cA,tv⟩:=bZ.out.lh (z.I Y.out ab.out M) j hj;have bJ:wr.cell? ⟨sb,2,none⟩=some (ag a1 (aj 0 ts).length a5):=cu (z.I Y.out ab.out M) bR.out 2;rw[bJ,aC,bU]at bE;obtain⟨rfl,rfl,rfl⟩:=bE;have bd:(aj 0 ts).getD j default=(aj 0 ts)[j]:=by simp[List.getD_eq_getElem?_getD,aE hj]
   rw[bd]at co cq ct cv cw cA tv;have ba:=cg.out _ (aK hj);have c6:=cc.out _ (aK hj);clear bd;generalize(aj 0 ts)[j]=d at*;generalize((aj 0 ts).take j).foldl (gG (aX T)) ([],kn)=A at*;obtain⟨cV,cZ,cU,cY,xs,bg,-,-,dm,-,bG,bv⟩:=tv.open;simp only[oG,Array.mk.injEq,ii,bU,and_true,true_and]at bg;obtain⟨⟨rfl,rfl⟩,rfl,rfl⟩:=bg;have cf:=aa bG;have bS:=aa bv;have hz:=d.t.size_eq;have bT:=aa (d.t.wv ba).2;have a4:Below wr.heap.size wr (wr.alloc (.cells #[af ae d.J,af ae d.number,af ae d.t.kind,ah d.t.text,ag aL d.t.leads.length aN,ag aJ d.t.kids.length ck] 101)):=(aD _ _).alloc (an _) _;have ce:=aa (z.below a4);have cj:=aa (gL wr (.cells #[af ae d.J,af ae d.number,af ae d.t.kind,ah d.t.text,ag aL d.t.leads.length aN,ag aJ d.t.kids.length ck] 101));obtain⟨aQ,rfl⟩:∃aQ:World,aQ=wr:=⟨_,rfl⟩
   have dC:(0:Int)≤(j:Int):=by omega
   have dD:(j:Int)<((aj 0 ts).length:Int):=by omega
   have w0:ae.wrap ((d.number:Int)+1)=((d.number+1:Nat):Int):=by rw[bA (by omega)];omega
   clear bG bv tv bJ a4 ba z;go_wp2_with fail;go_loopw[5,8,10,11,28,29,30,31,32,33,34,35,36,37,38,39,40,41,42,43,44,45,46] (fun l q _ _ i _ _ _ _ _ _ _ _ _ _ _ _ _ _ _ _ _ _ bN=>∃(z:Nat) (bC:Value),z≤d.t.kids.length∧bC=l∧q=af ae (d.number+1+ax (d.t.kids.take z):Nat)∧i=af ae z∧cz h w w.heap.size r (ag none 0 0) bN bC (A.1++(bz (aX T) d.J (d.t.kids.take z) (d.number+1) A.2).1) (bz (aX T) d.J (d.t.kids.take z) (d.number+1) A.2).2.2∧bN.heap[aQ.heap.size]? =some (.cells #[af ae d.J,af ae d.number,af ae d.t.kind,ah d.t.text,ag aL d.t.leads.length aN,ag aJ d.t.kids.length ck] 101 (0,0))) (fun _ _ _ _ i _ _ _ _ _ _ _ _ _ _ _ _ _ _ _ _ _ _ _=>d.t.kids.length-(intOf i).toNat);case atStart=>exact⟨0,_,aW _,rfl,congrArg (af ae) (by simp[ax]),rfl,by simpa[bz]using ce.out,cj.out⟩
   case round=>
    obtain⟨z,bC,dr,rfl,rfl,rfl,st,ak⟩:=hrel;by_cases am:z<d.t.kids.length
    ·have bI:=st.I Y.out ab.out M;obtain⟨bk,dv,a3,a9,a2,a8,rfl,dP,c9,db,de,dg,cM⟩:=j9 cf.out bS.out bI z am;have dB:=eY d.t.kids z am;have dA:=jK d.t.kids (z+1);have cK:=s3 bT.out z am;have aV:=pF (ck:=aX T) d.J (d.t.kids.take z) (d.number+1) A.2;have aG:Hid (bz (aX T) d.J (d.t.kids.take (z+1)) (d.number+1) A.2=((bz (aX T) d.J (d.t.kids.take z) (d.number+1) A.2).1++(cS (aX T) d.J d.t.kids[z] (d.number+1+ax (d.t.kids.take z)) (bz (aX T) d.J (d.t.kids.take z) (d.number+1) A.2).2.2).1,(bz (aX T) d.J (d.t.kids.take z) (d.number+1) A.2).2.1++[(cS (aX T) d.J d.t.kids[z] (d.number+1+ax (d.t.kids.take z)) (bz (aX T) d.J (d.t.kids.take z) (d.number+1) A.2).2.2).2.1],(cS (aX T) d.J d.t.kids[z] (d.number+1+ax (d.t.kids.take z)) (bz (aX T) d.J (d.t.kids.take z) (d.number+1) A.2).2.2).2.2)):=by unfold Hid;rw[mc am,s6]
     have w2:ae.wrap (((d.number+1+ax (d.t.kids.take z):Nat):Int)+(d.t.kids[z].size:Int))=((d.number+1+ax (d.t.kids.take (z+1)):Nat):Int):=by rw[bA (by omega)];omega
     generalize d.t.kids[z]=E at*;generalize bz (aX T) d.J (d.t.kids.take z) (d.number+1) A.2=C at*;obtain⟨aB,cB⟩:∃q,q=d.number+1+ax (d.t.kids.take z):=⟨_,rfl⟩
     rw[←cB]at aG w2;obtain⟨cN,cE⟩:∃q,q=d.number+1+ax (d.t.kids.take (z+1)):=⟨_,rfl⟩
     rw[←cE]at w2;obtain⟨R,aO⟩:∃R,R=cS (aX T) d.J E aB C.2.2:=⟨_,rfl⟩
     rw[←aO]at aG;have b1:Below wr.heap.size wr (wr.alloc (.cells #[af ae E.kind,ah E.text,ag a3 E.leads.length a9,ag a2 E.kids.length a8] 26)):=(aD _ _).alloc (an _) _;have G:=aa (st.below b1);have aY:=aa ((oi wr (.cells #[af ae E.kind,ah E.text,ag a3 E.leads.length a9,ag a2 E.kids.length a8] 26) (Has.heap ak).lt).trans ak);have bY:=aa (G.out.I Y.out ab.out M);have ci:=aa (G.out.tb aZ.out b9.out bm);have O:=aa (Ct T N E.size E (an _) cK h _ w.heap.size cb r _ bC (A.1++C.1) C.2.2 d.J aB bY.out ci.out aZ.out.1 G.out.tu.size cF cG bm bp M (cm.out G.out) cM G.out.own G.out.map (by rw[cI,aV.1];simp only[cL]at aT;omega) (by simp only[cL]at aT;omega) (by omega));rw[←aO]at O;have a0:=(Has.heap ak).cl 0;simp only[bw,bc]at a0;have dN:=(Has.heap ak).lt;have dE:(0:Int)≤(z:Int):=by omega
     have dF:(z:Int)<(d.t.kids.length:Int):=by omega
     rw[show((aB:Nat):Int)=(d.number:Int)+1+(ax (d.t.kids.take z):Int)from by omega]at O;clear aO st bI b1 aV;go_wp2_with fail;refine O.out.mono ?_;rintro e dG ⟨jl,rfl,aM⟩;have cn:=aa (G.out.call aM);have bX:=aa (G.out.boxed aM aY.out (by decide));clear aM O G aY;go_wp2_with fail;go_roundw;case rel=>exact⟨z+1,jl,by omega,rfl,congrArg (af ae) (by omega),congrArg (af ae) (by omega),by rw[aG.out,←fI];exact cn.out,bX.out⟩
     case measure=>simp[intOf];omega
    ·obtain rfl:z=d.t.kids.length:=by omega
     rw[cP]at st;have ch:=aa st;clear st;go_wp2_with fail;go_roundw;case rel=>exact⟨j+1,bC,by omega,rfl,by go_num,by rw[bV.out];exact ch.out⟩
     case measure=>simp[intOf];omega
  ·obtain rfl:j=(aj 0 ts).length:=by omega
   rw[cP]at z;have Z:=aa z;clear z;go_wp2_with fail;go_ret;exact⟨_,rfl,Z.out⟩
def AD(h:Hp)(w:World)(e:Ending)(w':World):Prop:=∃(v:Value) (tl:ByteArray) (a er:Int) (l:List cU),e= .returned (bD #[v,ah tl,af ae a,af ae er])∧Ow w' h w.heap.size 95 3 v l.length (l.flatMap ir)∧St w.heap.size h w h w'
theorem HQ(h:Hp)(w:World)(aG:ao h w)(s:ByteArray)(a9:s.size≤100000):Calls ai 200 #[ah s] w (AD h w):=by
 have aM:=aa aG;clear aG;go_enter Tryz.func200,Tryz.ntmps200;go_wp2_with fail;go_loopw[2,3,4,5,6,7,8,9,10,11,12,13,14,15,16,17,18,19,20,21,22,23,24,25,26,27,28,29,30,31,32,33,34,35,36,37,38,39,40,41,42,43,44,45,46,47,48,49,50,51,52,53,54,55,56,57,58,59,60,61,62,63,64,65,66,67,68,69,70] (fun _ _ _ _ lv q _ _ _ _ _ _ _ _ _ _ _ _ _ _ _ _ _ _ _ _ _ _ _ _ _ _ _ _ _ _ _ _ _ _ _ _ _ _ _ _ _ _ _ _ _ _ _ _ _ _ _ _ _ _ _ _ _ _ _ _ _ _ _ wr=>∃(n:Nat) (l:List cU),n≤s.size∧q=af ae n∧l.length≤n∧St w.heap.size h w h wr∧Ow wr h w.heap.size 95 3 lv l.length (l.flatMap ir)) (fun _ _ _ _ _ q _ _ _ _ _ _ _ _ _ _ _ _ _ _ _ _ _ _ _ _ _ _ _ _ _ _ _ _ _ _ _ _ _ _ _ _ _ _ _ _ _ _ _ _ _ _ _ _ _ _ _ _ _ _ _ _ _ _ _ _ _ _ _ _=>s.size-(intOf q).toNat);case atStart=>exact⟨0,[],aW _,rfl,aW _,St.refl aM.out,Ow.nil _ _ _ _ _⟩
 case round=>
  obtain⟨n,l,aY,rfl,a5,S,Y⟩:=hrel;obtain⟨av,aj,rfl⟩:=Y.shape;have ac:=aa S;have ab:=aa Y;clear S Y;have bp:(0:Int)≤(n:Int):=by omega
  have bq:(n:Int)≤(s.size:Int):=by omega
  go_wp2_with fail;refine(x2 _ s (by omega) n n rfl aY).mono ?_;rintro e w1 ⟨⟨m,b,rfl,a8⟩,rfl⟩;by_cases aT:0≤b;·go_wp2_with fail;refine aF (v:=bD #[ag none 0 0,ah ⟨#[]⟩,af ae b,af ae 1]) (by simp[aH,Cf,go_sem]) rfl ?_;exact⟨_,_,_,_,[],rfl,Ow.nil _ _ _ _ _,ac.out⟩
  ·have a4:decide (0≤b)=false:=by simpa using aT
   have q1:ae.wrap ((n:Int)+(m:Int))=(n:Int)+(m:Int):=bA (by omega);by_cases hend:n+m=s.size
   ·have ge:((n:Int)+(m:Int)==(s.size:Int))=true:=by simp;omega
    go_wp2_with fail;go_region_law(fail)
    all_goals
     go_wp2_with fail;refine aF (v:=bD #[ag av l.length aj,ah (s.extract n s.size),af ae 0,af ae 0]) (by simp[aH,Cf,go_sem]) rfl ?_;exact⟨_,_,_,_,l,rfl,ab.out.drewN _,ac.out.drewN _⟩
   ·have ge:((n:Int)+(m:Int)==(s.size:Int))=false:=by rw[beq_eq_false_iff_ne];omega
    have a2:¬(n:Int)+(m:Int)=(s.size:Int):=by omega
    go_wp2_with fail;refine(AA _ s (by omega) _ (n+m) (by omega) (by omega)).mono ?_;rintro e w2 ⟨⟨A,G,E,M,rfl,hit⟩,b2⟩;have IT:=aa hit;have ax:Hid (St w.heap.size h w h (w2.alloc (.cells #[af ae A,af ae G,af ae E,af ae M] 253))):=(ac.out.same b2).alloc _;have aO:Hid (Ow (w2.alloc (.cells #[af ae A,af ae G,af ae E,af ae M] 253)) h w.heap.size 95 3 (ag av l.length aj) l.length (l.flatMap ir)):=(ab.out.same b2).alloc _;have ad:Hid (Has (w2.alloc (.cells #[af ae A,af ae G,af ae E,af ae M] 253)) w2.heap.size #[af ae A,af ae G,af ae E,af ae M]):=Has.new _ _ _;have am:=b2.size;clear hit b2;by_cases ak:E=0
    ·subst ak;obtain⟨bg,bm⟩:=IT.out rfl;have bv:(n:Int)+(m:Int)+(A:Int)≤(s.size:Int):=by omega
     have bd:ae.wrap ((n:Int)+(m:Int)+(A:Int))=(n:Int)+(m:Int)+(A:Int):=bA (by omega);have bz:(n:Int)≤(n:Int)+(m:Int):=by omega
     have bB:(n:Int)+(m:Int)≤(s.size:Int):=by omega
     have bC:(0:Int)≤(n:Int)+(m:Int):=by omega
     have u8:(n:Int)+(m:Int)≤(n:Int)+(m:Int)+(A:Int):=by omega
     have aV:(l.length+1)*40≤140737488355328:=by omega
     have bG:=ad.out.cl 0;have bH:=ad.out.cl 1;have aN:Hid (∀g,(ag av l.length aj).ownBlock=some g→g<w2.heap.size):=fun g aX=>Nat.lt_of_lt_of_le (ab.out.lt g aX).2 am;clear am;go_wp2_with fail;go_region_held3(fun w'=>w'.cell? ⟨w2.heap.size,0,none⟩=some (af ae A)∧w'.cell? ⟨w2.heap.size,1,none⟩=some (af ae G)) (first|(go_keep;done)|exact⟨aZ,a1⟩) (first|(refine gS xk (by rfl) _ _ (by rfl) (ax.out.drew.alloc _) _ l.length (l.flatMap ir) (by rfl) (aO.out.drew.alloc _) ⟨w2.heap.size+1,0,none⟩ 1 1 [af ae G,ah (s.extract n (n+m)),ah (s.extract (n+m) (n+m+A))] (by rfl) (by rfl) (cK _ _ _ _ (by simp)) (cm _ rfl) (by omega) aV ?_;intro a3 cg bE aL aJ aB aS;have O:=(ad.out.drew.alloc _).grown aB (fun e=>by have:=aN.out _ e;omega);have aZ:=O.cl 0;have a1:=O.cl 1;have aQ:=aa aL;have aP:=aa aJ;have ba:=O.lt;clear aL aJ aB aS O))
     all_goals
      go_wp2_with fail;go_roundw;case rel=>exact⟨n+m+A,l++[⟨G,s.extract n (n+m),s.extract (n+m) (n+m+A)⟩],by omega,by go_num,by simp;omega,aQ.out,by simpa[ir]using aP.out⟩
      case measure=>simp[intOf];omega
    ·have ge:(E !=0)=true:=by simpa using ak
     clear ak am;go_wp2_with fail;go_region_law(fail)
     all_goals
      go_wp2_with fail;refine aF (v:=bD #[ag none 0 0,ah ⟨#[]⟩,af ae M,af ae E]) (by simp[aH,Cf,go_sem]) rfl ?_;exact⟨_,_,_,_,[],rfl,Ow.nil _ _ _ _ _,ax.out.drewN _⟩
theorem HR(h:Hp)(w:World)(G:ao h w)(s:ByteArray):Calls ai 174 #[ah s] w (AD h w):=by
 have A:=aa G;clear G;go_enter Tryz.func174,Tryz.ntmps174;by_cases ad:4096<s.size
 ·have g:(4096:Int)<(s.size:Int):=by omega
  go_wp2_with fail;refine aF (v:=bD #[ag none 0 0,ah ⟨#[]⟩,af ae 4096,af ae 3]) (by simp[aH,KI,go_sem]) rfl ?_;exact⟨_,_,_,_,[],rfl,Ow.nil _ _ _ _ _,St.refl A.out⟩
 ·have g:¬(4096:Int)<(s.size:Int):=by omega
  have ac:decide (4096<s.size)=false:=by simp;omega
  go_wp2_with fail;refine(HQ h w A.out s (by omega)).mono ?_;rintro e w2 ⟨v,ab,a,Y,l,rfl,E,S⟩;have M:=aa E;have O:=aa S;clear E S;go_wp2_with fail;refine aF (v:=bD #[v,ah ab,af ae a,af ae Y]) (by simp[aH,KI,go_sem]) rfl ?_;exact⟨_,_,_,_,l,rfl,M.out,O.out⟩
theorem HS(h:Hp)(w:World)(am:ao h w)(a b:ByteArray)(aN:a.size≤100000)(aO:b.size≤100000):Calls ai 124 #[ah a,ah b] w fun e w'=>nS e∧Below w.heap.size w w':=by
 have ax:=aa am;clear am;go_enter Tryz.func124,Tryz.ntmps124;go_wp2_with fail;refine(u5 _ a (by omega)).mono ?_;rintro e w2 ⟨⟨k,rfl⟩,b2⟩;by_cases A:k=0;·subst A;have Y:=aa b2;clear b2;go_wp2_with fail;go_ret;exact⟨fW _,Y.out⟩
 ·have aJ:(k==0)=false:=by simpa using A
  clear A;have Y:=aa b2;clear b2;go_wp2_with fail;refine(u5 _ b (by omega)).mono ?_;rintro e w3 ⟨⟨k2,rfl⟩,b3⟩;have ab:=aa (Y.out.trans (b3.mono Y.out.size));clear b3;by_cases A:k2=0;·subst A;go_wp2_with fail;go_ret;exact⟨fW _,ab.out⟩
  ·have aL:(k2==0)=false:=by simpa using A
   clear A;go_wp2_with fail;refine(HR h w3 (ax.out.below ab.out) _).mono ?_;rintro e aQ ⟨v,aP,aB,ak,l,rfl,M,S⟩;have ac:=aa (ab.out.trans (S.below.mono ab.out.size));obtain⟨av,aG,rfl⟩:=M.shape;by_cases ad:ak=0
   ·subst ad;by_cases aj:l.length=2
    ·obtain⟨E,G,rfl⟩:∃E G,l=[E,G]:=by
      match l,aj with
      |[E,G],_=>exact⟨E,G,rfl⟩
     obtain⟨g,rfl,-,aS,-,O,-⟩:=M.cell (by simp);have c1:=O 1 (ah E.lead) rfl;have c2:=O 2 (ah E.text) rfl;have c4:=O 4 (ah G.lead) rfl;have c5:=O 5 (ah G.text) rfl;clear O M S aj;go_wp2_with fail;all_goals go_ret
     all_goals exact⟨fW _,ac.out⟩
    ·have aM:((l.length:Int)!=2)=true:=by rw[bne_iff_ne];omega
     clear aj M S;go_wp2_with fail;go_ret;exact⟨fW _,ac.out⟩
   ·have ge:(ak !=0)=true:=by simpa using ad
    clear ad M S;go_wp2_with fail;go_ret;exact⟨fW _,ac.out⟩
end Go.Proofs.YtdplggpbgommnaaGreatDoor
