/- pairing.classes.of: the walk. -/
import Derived.Test.YtdplggpbgommnaaGreatDoorG16
open ByteArray renaming size->J7
open Go renaming bodyPost_ret->aF,heap_alloc_old->oi
open Go.IntKind renaming i64->ae
open Go.Lib renaming byteCells_append->J9,byteCells_length->J8,byteCells->vB,hid->aa,itoa_length_le->Bs,itoa->eQ
open Go.Proofs.Tryz renaming prog->ai,results108->Kb,underlying114->Br
open Go.RowKit.Below renaming heap_setCell->cH,refl->aD
open Go.Value renaming int->af,pointer->az,slice->ag,string->ah,tuple->bD
open List renaming append_assoc->fI,findIdx?_isSome->Ka,flatMap_append->sv,getElem?_cons_zero->bc,getElem?_toArray->bw,length_append->cI,length_cons->bF,set_append_right->ma
open Nat renaming add_sub_cancel_left->Bq,le_of_lt->kB,le_refl->kI,le_trans->b5
open Option.some renaming inj->aU
set_option maxRecDepth 100000
set_option maxHeartbeats 1000000
namespace Go.Proofs.YtdplggpbgommnaaGreatDoor
open Go.RowKit
mutual
def Tree.short:Tree->Prop
 | .node _ s _ ks=>s.size<=1000000/\kJ ks
def kJ:List Tree->Prop
 |[]=>True
 |t::ts=>t.short/\kJ ts
end
theorem Tree.LA{t:Tree}(h:t.short):t.text.size<=1000000/\kJ t.kids:=by cases t;rw[Tree.short]at h;exact h
theorem s3:∀{ts:List Tree},kJ ts->∀i (G:i<ts.length),(ts[i]).short
 |_::_,h,0,_=>by rw[kJ]at h;exact h.1
 |_::ts,h,i+1,G=>by rw[kJ]at h;exact s3 h.2 i (by simpa using G)
theorem Has.heap{w:World}{b:Nat}{c:Array Value}{t:TypeId}(h:w.heap[b]? =some (.cells c t (0,0))):Has w b c:=by
 refine⟨?_,fun o=>by simp[World.cell?,h],fun o=>by simp[World.frozen?,h]⟩;rcases Nat.lt_or_ge b w.heap.size with q|q;·exact q
 ·rw[Array.getElem?_eq_none q]at h;cases h
structure fb(h:Hp)(w:World)(B r:Nat)(lv:Value)(b:Nat)(c:Array Value)(wr:World)(bC:Value)(L:List bq)(kn:List ByteArray)(l:List UInt8):Prop where
 s:cz h w B r lv wr bC L kn
 a:hP b b (vB l) wr
 x:wr.heap[w.heap.size]? =some (.cells c 26 (0,0))
 lt:w.heap.size<b
section
variable {h:Hp} {w wr w':World} {B r b:Nat} {lv bC jl:Value} {L L2:List bq} {kn nD:List ByteArray} {l l2:List UInt8} {c:Array Value}
theorem fb.s4(z:fb h w B r lv b c wr bC L kn l):b<wr.heap.size:=by obtain⟨c1,h1⟩:=oK.type z.a;exact(Has.heap h1).lt
theorem fb.below(z:fb h w B r lv b c wr bC L kn l)(q:Below wr.heap.size wr w'):fb h w B r lv b c w' bC L kn l:=
 ⟨z.s.below q,z.a.tu ((Tu.refl (fun _=>False) wr).below q) fun _ e=>e.elim,(q.block _ (Has.heap z.x).lt).trans z.x,z.lt⟩
theorem fb.wrote(z:fb h w B r lv b c wr bC L kn l)(q:jJ b b wr w')(G:hP b b (vB l2) w'):fb h w B r lv b c w' bC L kn l2:=
 ⟨z.s.wrote z.a q (kB z.lt),G,(q.1.block _ z.lt).trans z.x,z.lt⟩
theorem fb.call(z:fb h w B r lv b c wr bC L kn l)(q:cz h wr B r bC w' jl L2 nD):fb h w B r lv b c w' jl L2 nD l:=by
 refine⟨z.s.call q,z.a.tu q.tu (z.s.apart z.a),(q.tu.block _ (Has.heap z.x).lt fun e=> ?_).trans z.x,z.lt⟩;rcases e with e|e;·obtain⟨c2,h2⟩:=z.s.own.type e;rw[z.x]at h2;simp at h2
 ·have h2:=z.s.map;unfold aS cG at h2;rw[<-e,z.x]at h2;cases h2
theorem fb.str(z:fb h w B r lv b c wr bC L kn l)(l2:List UInt8)(G:l.length+l2.length<=100000000):Calls ai 152 #[az (some ⟨b,0,none⟩),ah ⟨l2.toArray⟩] wr fun e w'=>e= .returned (bD #[af ae (J7 ⟨l2.toArray⟩),.nilIface])/\fb h w B r lv b c w' bC L kn (l++l2):=by refine(Co b b _ ⟨l2.toArray⟩ wr z.a (by rw[J8];simp[J7];omega) (kB z.s4)).mono ?_;rintro e w' ⟨rfl,a,q⟩;refine⟨rfl,z.wrote q (.inr ?_)⟩;rw[J9];exact a
theorem fb.blank(z:fb h w B r lv b c wr bC L kn l)(G:l.length<=100000000):Calls ai 154 #[az (some ⟨b,0,none⟩),af .u8 32] wr fun e w'=>e= .returned .nilIface/\fb h w B r lv b c w' bC L kn (l++[32]):=by refine(Cp b b _ 32 wr z.a (by rw[J8];omega) (kB z.s4)).mono ?_;rintro e w' ⟨rfl,a,q⟩;refine⟨rfl,z.wrote q (.inr ?_)⟩;rw[J9];exact a
end
theorem cz.push{h:Hp}{w W w2:World}{B r:Nat}{lv bC G:Value}{L:List bq}{kn:List ByteArray}{x:bq}(s:cz h w B r lv W bC L kn){o:Obj}(Y:r<B)(O:Ow w2 h B 121 4 G (L.length+1) (L.flatMap cX++cX x))(gr:(W.alloc o).grownBy w2 bC.ownBlock)(bk:G.ownBlock=bC.ownBlock\/G.ownBlock=some (W.alloc o).heap.size):cz h w B r lv w2 G (L++[x]) kn:=by
 refine⟨by rw[cI,sv];simpa using O,s.map.keep ?_,(s.tu.alloc o).grown gr fun k e=> ?_,?_⟩;·have:=s.map.lt;rw[gr.block r (by simp;omega) (fun e=>by have:=(s.own.lt r e.symm).1;omega)];exact Below.heap_alloc _ _ _ this
 ·rcases s.bi with q|⟨g,q,J⟩;·exact .inl (.inl (by rw[<-q];exact e))
  ·rw[q]at e;exact .inr (by rw[<-aU e];exact J)
 ·rcases bk with q|q;·rw[q];exact s.bi
  ·refine .inr ⟨_,q,?_⟩;have:=s.tu.size;simp;omega
theorem qK{w:World}{g n k:Nat}{xs:List Value}(h:∀i u,xs[i]? =some u->w.cell? ⟨g,i,none⟩=some u)(J:xs.length=n*k){i:Nat}(G:i<n*k):∃u,w.cell? ⟨g,i,none⟩=some u:=
 ⟨_,h i _ (List.getElem?_eq_getElem (by omega))⟩
theorem Cq(L A:List bq)(m n s c:Nat):((((L++[(⟨m,n,0,0⟩:bq)]++A).flatMap cX).set (L.length*4+2) (af ae s)).set (L.length*4+3) (af ae c))=(L++[(⟨m,n,s,c⟩:bq)]++A).flatMap cX:=by simp only[sv,fI];rw[ma _ _ (by rw[s5];omega),ma _ _ (by rw[s5];omega),s5,Bq,Bq];simp[cX]
theorem cz.fill{h:Hp}{w wr:World}{B r:Nat}{lv:Value}{L A:List bq}{kn:List ByteArray}{m n g len J:Nat}(s:cz h w B r lv wr (ag (some ⟨g,0,none⟩) len J) (L++[⟨m,n,0,0⟩]++A) kn)(aj:r<B)(O:len=(L++[(⟨m,n,0,0⟩:bq)]++A).length)(G c:Nat):cz h w B r lv ((wr.setCell ⟨g,L.length*4+2,none⟩ (af ae G)).setCell ⟨g,L.length*4+3,none⟩ (af ae c)) (ag (some ⟨g,0,none⟩) len J) (L++[⟨m,n,G,c⟩]++A) kn:=by
 have ab:=(s.own.lt g rfl).1
 have hS:(lv.ownBlock=some g\/g=r)\/w.heap.size<=g:=by
  rcases s.bi with q|⟨g',q,Y⟩;·exact .inl (.inl (by rw[<-q];rfl))
  ·exact .inr (by have:g=g':=aU q;omega)
 subst O;refine⟨?_,s.map.keep ?_,(s.tu.set (p:=⟨g,L.length*4+2,none⟩) hS _).set (p:=⟨g,L.length*4+3,none⟩) hS _,s.bi⟩;·have o:=(s.own.set (L.length*4+2) (af ae G) (by simp;omega)).set (L.length*4+3) (af ae c) (by simp;omega);rw[Cq]at o;simpa using o
 ·rw[cH _ _ _ _ (by show r≠g;omega),cH _ _ _ _ (by show r≠g;omega)]
theorem Cr:jm 9 j8:=ww
theorem cz.known{h:Hp}{w wr:World}{B r:Nat}{lv bC:Value}{L:List bq}{kn:List ByteArray}(s:cz h w B r lv wr bC L kn)(key:ByteArray)(hf:(kn.findIdx? fun k=>decide (k=key))=none)(O:r<B):(Instr.mapUpdate 114 (.map (some r)) (ah key) (af ae (kn.length:Nat))).run ai wr= .ok () (sG wr r (cG j8 (hB (kn++[key]))))/\cz h w B r lv (sG wr r (cG j8 (hB (kn++[key])))) bC L (kn++[key])/\wr.grownBy (sG wr r (cG j8 (hB (kn++[key])))) (some r):=by obtain⟨h1,h2,G⟩:=s.map.put Cr key (af ae (kn.length:Nat)) 114 3 Br;rw[Cs kn key hf]at h1 h2 G;exact⟨h1,⟨s.own.grown G fun g J e=>by have:=(s.own.lt g J).1;have:=aU e;omega,h2,s.tu.grown G fun k e=> .inl (.inr (aU e).symm),s.bi⟩,G⟩
theorem wx:∀(ts:List Tree),ts.length<=ax ts
 |[]=>by simp
 |t::ts=>by have:=wx ts;have:=t.size_eq;rw[gR,bF];omega
theorem Ct(T:Lib.PrintTabs)(N:Nat)(n:Nat):∀(t:Tree),t.size<=n->t.short->∀(h:Hp) (w:World) (B cb r:Nat) (v lv:Value) (L:List bq) (kn:List ByteArray) (m num:Nat),ao h w->Tb T N w->N<=B->B<=w.heap.size->cb<B->r<B->N<=r->cb≠r->h r=none->Has w cb #[.map (some r)]->aP h v t->Ow w h B 121 4 lv L.length (L.flatMap cX)->aS j8 w r (hB kn)->L.length+t.size<=1000000->kn.length+t.size<=1000000->num+t.size<=1000000->Calls ai 108 #[az (some ⟨cb,0,none⟩),v,af ae m,af ae num,lv] w fun e w'=>∃bC,e= .returned (bD #[bC,af ae t.size,af ae (cS (aX T) m t num kn).2.1])/\cz h w B r lv w' bC (L++(cS (aX T) m t num kn).1) (cS (aX T) m t num kn).2.2:=by
 induction n with
 |zero=>intro t e0;have:=t.size_eq;omega
 |succ n di=>
  intro t e1 dh h w B cb r v lv L kn m num ce tb cZ d7 ea a9 c6 bJ hr dC tv ba dn e2 lk e4;have co:=aa ce;have dZ:=aa tb;have cC:=aa dC;have eI:=aa ba;have dU:=aa di;have cg:=t.LA dh;have dT:=aa cg.2;have ei:=cg.1;have ch:=t.size_eq;obtain⟨al,am,J,ck,xs,rfl,cf,eZ,eX,ed,dg,he⟩:=tv.open;have dY:=aa dg;have dP:=aa he;have cv:Hid (∀g,lv.ownBlock=some g->h g=none):=fun g a5=>ba.free g a5;have bp:Hid (∀g,lv.ownBlock=some g->B<=g/\g<w.heap.size):=fun g a5=>ba.lt g a5;have dX:Hid (cz h w B r lv w lv L kn):=⟨ba,dn,Tu.refl _ _,.inl rfl⟩
  have cl:=aa (Cu (ck:=aX T) m t num kn);have b0:Below w.heap.size w (w.alloc (.cells #[af ae t.kind,ah t.text,ag al t.leads.length am,ag J t.kids.length ck] 26)):=(aD _ _).alloc (kI _) _;have cB:=aa (heap_alloc_new w (.cells #[af ae t.kind,ah t.text,ag al t.leads.length am,ag J t.kids.length ck] 26));have ct:=aa (ce.below b0);have bB:=aa (dX.out.below b0);clear ce tb dC ba di dg he ed dn tv cg dh b0;generalize c9:cS (aX T) m t num kn=e5 at*;have eE:=aa c9;obtain⟨a1,a2,rfl⟩:=bB.out.own.shape;clear c9;go_in;go_wp2_with(at_builtin;go_must(refine ft wy rfl _ _ rfl (St.dN (B:=B) (ct.out.alloc _) (by simp;omega)) _ L.length (L.flatMap cX) rfl (bB.out.own.alloc _) ⟨w.heap.size+1,0,none⟩ 1 1 [af ae m,af ae num,af ae 0,af ae 0] rfl rfl (cK _ _ _ _ (by simp)) (cm _ rfl) (by omega) ?_);go_must(intro bN w2 er dp cc cQ;have O:Hid (w2.heap[w.heap.size]? =some (.cells #[af ae t.kind,ah t.text,ag al t.leads.length am,ag J t.kids.length ck] 26 (0,0))):=((cc.block w.heap.size (by simp;omega) (fun e=>by have:=(bp.out _ e.symm).2;omega)).trans ((oi _ _ (by simp)).trans cB.out));have cA:=aa (cz.push (x:=⟨m,num,0,0⟩) bB.out a9 dp cc cQ);have bT:Hid (fb h w B r (ag a1 L.length a2) w2.heap.size #[af ae t.kind,ah t.text,ag al t.leads.length am,ag J t.kids.length ck] (w2.alloc (.cells #[az none,ag none 0 0] 224)) bN (L++[⟨m,num,0,0⟩]) kn []):=⟨cA.out.below ((aD _ _).alloc (kI _) _),hP.new w2,(oi _ _ (Has.heap O.out).lt).trans O.out,(Has.heap O.out).lt⟩;have eD:=(Has.heap O.out).lt;have dw:=(Has.heap O.out).cl 0;have dA:=(Has.heap O.out).cl 1;have dB:=(Has.heap O.out).cl 3;simp only[bw,bc,List.getElem?_cons_succ]at dw dA dB;clear er dp cc cQ));have bH:Hid (∀{wr bC M q l},fb h w B r (ag a1 L.length a2) w2.heap.size #[af ae t.kind,ah t.text,ag al t.leads.length am,ag J t.kids.length ck] wr bC M q l->Tb T N wr):=fun z=>z.s.tb dZ.out (fun g a5=>b5 cZ (bp.out g a5).1) c6;have Y:Hid (∀{wr bC M q l},fb h w B r (ag a1 L.length a2) w2.heap.size #[af ae t.kind,ah t.text,ag al t.leads.length am,ag J t.kids.length ck] wr bC M q l->w.heap.size<wr.heap.size/\w2.heap.size<wr.heap.size/\wr.cell? ⟨w.heap.size,1,none⟩=some (ah t.text)/\wr.cell? ⟨w.heap.size,3,none⟩=some (ag J t.kids.length ck)):=fun z=>⟨(Has.heap z.x).lt,z.s4,(Has.heap z.x).cl 1,(Has.heap z.x).cl 3⟩
  refine(wA (bH.out bT.out) t.kind cf).mono ?_;rintro e w3 ⟨rfl,b3⟩;have bV:=aa (bT.out.below b3);obtain⟨aJ,aL,aM,aN⟩:=Y.out bV.out;clear bT b3 dw dA dB eD O cB cA bB ct;have eF:=Bs t.kind cf.1 cf.2;have eJ:(mB T t.text).length<=10000002:=by have:=Lib.quoteZ_length_le T t.text;simp only[mB,List.length_map];omega
  go_wp2_with fail;refine(bV.out.str (eQ t.kind) (by simp;omega)).mono ?_;rintro e ff ⟨rfl,dG⟩;have bX:=aa dG;obtain⟨aJ,aL,aM,aN⟩:=Y.out bX.out;clear dG bV;go_wp2_with fail;refine(bX.out.blank (by simp;omega)).mono ?_;rintro e fg ⟨rfl,dN⟩;have bE:=aa dN;obtain⟨aJ,aL,aM,aN⟩:=Y.out bE.out;clear dN bX;go_wp2_with fail;refine(Cv (bH.out bE.out) t.text ei).mono ?_;rintro e fh ⟨rfl,cN⟩;have bY:=aa (bE.out.below cN);obtain⟨aJ,aL,aM,aN⟩:=Y.out bY.out;clear cN bE;go_wp2_with fail;refine(bY.out.str (mB T t.text) (by simp;omega)).mono ?_;rintro e fi ⟨rfl,dO⟩;have bZ:=aa dO;obtain⟨aJ,aL,aM,aN⟩:=Y.out bZ.out;clear dO bY;go_wp2_with fail;clear aJ aL aM aN;generalize bL:[]++eQ t.kind++[32]++mB T t.text=aB at bZ;have eH:aB.length<=10001000:=by rw[<-bL];simp;omega
  have dR:Hid (∀cs,aX T t.kind t.text cs=⟨(aB++cs.flatMap fun(c:Nat)=>32::eQ c).toArray⟩):=fun cs=>by rw[<-bL];simp[aX,pE]
  have dW:aB≠[]:=by rw[<-bL];simp
  clear bL
  have cj:Hid (∀j,j<=t.kids.length->(bz (aX T) m (t.kids.take j) (num+1) kn).1.length=ax (t.kids.take j)/\(bz (aX T) m (t.kids.take j) (num+1) kn).2.2.length<=kn.length+ax (t.kids.take j)/\((bz (aX T) m (t.kids.take j) (num+1) kn).2.1.flatMap fun(c:Nat)=>32::eQ c).length<=j*22):=fun j hj=>by
   have q:=pF (ck:=aX T) m (t.kids.take j) (num+1) kn;refine⟨q.1,q.2.2.1,?_⟩
   have d9:∀(cs:List Nat),(∀c∈cs,c<10000000)->(cs.flatMap fun(c:Nat)=>32::eQ c).length<=cs.length*22:=by
    intro cs;induction cs with
    |nil=>intro _;simp
    |cons c cs ej=>intro hc;have h1:=hc c List.mem_cons_self;have h2:=ej fun d hd=>hc d (List.mem_cons_of_mem _ hd);have eP:=Bs (c:Int) (by omega) (by omega);simp only[List.flatMap_cons,cI,bF];omega
   have hs:ax (t.kids.take j)<=ax t.kids:=jK _ _;have:=d9 _ fun c hc=>by have:=q.2.2.2.1 c hc;omega
   rw[q.2.2.2.2,List.length_take]at this;have:min j t.kids.length<=j:=Nat.min_le_left _ _;omega
  have KL:t.kids.length<=ax t.kids:=wx _;go_loopw[4,15,42] (fun l s i wr=>∃(j:Nat) (bC:Value),j<=t.kids.length/\bC=l/\s=af ae (ax (t.kids.take j)+1:Nat)/\i=af ae j/\fb h w B r (ag a1 L.length a2) w2.heap.size #[af ae t.kind,ah t.text,ag al t.leads.length am,ag J t.kids.length ck] wr bC (L++[⟨m,num,0,0⟩]++(bz (aX T) m (t.kids.take j) (num+1) kn).1) (bz (aX T) m (t.kids.take j) (num+1) kn).2.2 (aB++(bz (aX T) m (t.kids.take j) (num+1) kn).2.1.flatMap fun(c:Nat)=>32::eQ c)) (fun _ _ i _=>t.kids.length-(intOf i).toNat);case atStart=>exact⟨0,_,Nat.zero_le _,rfl,rfl,rfl,by simpa[bz]using bZ.out⟩
  case round=>
   obtain⟨j,bC,eb,rfl,rfl,rfl,z⟩:=hrel;have bI:=cj.out j eb;by_cases hj:j<t.kids.length
   ·have dk:=z.s.I co.out cv.out hr;obtain⟨bk,ok,d4,d6,d3,d5,rfl,fj,d0,eM,eN,eO,ey⟩:=j9 dY.out dP.out dk j hj;have st:=eY t.kids j hj;have e6:=jK t.kids (j+1);have ep:=s3 dT.out j hj;have b9:=cj.out (j+1) (by omega);have bG:Hid (bz (aX T) m (t.kids.take (j+1)) (num+1) kn=((bz (aX T) m (t.kids.take j) (num+1) kn).1++(cS (aX T) m t.kids[j] (num+1+ax (t.kids.take j)) (bz (aX T) m (t.kids.take j) (num+1) kn).2.2).1,(bz (aX T) m (t.kids.take j) (num+1) kn).2.1++[(cS (aX T) m t.kids[j] (num+1+ax (t.kids.take j)) (bz (aX T) m (t.kids.take j) (num+1) kn).2.2).2.1],(cS (aX T) m t.kids[j] (num+1+ax (t.kids.take j)) (bz (aX T) m (t.kids.take j) (num+1) kn).2.2).2.2)):=by unfold Hid;rw[List.take_succ_eq_append_getElem hj,s6]
    have cn:=wB (ck:=aX T) m t.kids[j] (num+1+ax (t.kids.take j)) (bz (aX T) m (t.kids.take j) (num+1) kn).2.2;obtain⟨bv,d8⟩:∃q,q=num+1+ax (t.kids.take j):=⟨_,rfl⟩
    rw[<-d8]at cn bG;rw[bG.out]at b9;simp only at b9;have e7:ax (t.kids.take (j+1))=ax (t.kids.take j)+t.kids[j].size:=st;have w2:ae.wrap (((ax (t.kids.take j)+1:Nat):Int)+(t.kids[j].size:Int))=((ax (t.kids.take (j+1))+1:Nat):Int):=by rw[bA (by omega)];omega
    generalize t.kids[j]=aZ at*;generalize bz (aX T) m (t.kids.take j) (num+1) kn=A at*;have w1:ae.wrap ((num:Int)+((ax (t.kids.take j)+1:Nat):Int))=(bv:Int):=by rw[bA (by omega)];omega
    obtain⟨R,hR⟩:∃R,R=cS (aX T) m aZ bv A.2.2:=⟨_,rfl⟩
    rw[<-hR]at cn bG b9;have ab:=aa (z.below ((aD wr.heap.size wr).alloc (kI _) (.cells #[af ae aZ.kind,ah aZ.text,ag d4 aZ.leads.length d6,ag d3 aZ.kids.length d5] 26)));have cu:=aa (ab.out.s.I co.out cv.out hr)
    have cD:=aa (cC.out.tu ab.out.s.tu fun e=>by
     rcases e with e|e;·have:=(bp.out _ e).1;omega
     ·exact bJ e)
    have eG:(L++[(⟨m,num,0,0⟩:bq)]++A.1).length=L.length+1+ax (t.kids.take j):=by simp[bI.1];omega
    have bm:=aa (dU.out aZ (by omega) ep h _ B cb r _ bC (L++[⟨m,num,0,0⟩]++A.1) A.2.2 m bv cu.out (bH.out ab.out) cZ (b5 d7 ab.out.s.tu.size) ea a9 c6 bJ hr cD.out ey ab.out.s.own ab.out.s.map (by omega) (by omega) (by omega));rw[<-hR]at bm;clear hR;rw[show((bv:Nat):Int)=(num:Int)+((ax (t.kids.take j):Int)+1)from by omega]at bm;have du:(0:Int)<=(j:Int):=by omega
    have bN:(j:Int)<(t.kids.length:Int):=by omega
    have eK:=jK t.kids j;clear z dk;go_wp2_with fail;refine bm.out.mono ?_;rintro e e8 ⟨jl,rfl,cU⟩;have G:=aa (ab.out.call cU);clear cU bm ab cu cD;obtain⟨aJ,aL,aM,aN⟩:=Y.out G.out;have eW:(aB++A.2.1.flatMap fun(c:Nat)=>32::eQ c).length<=90000000:=by rw[cI];omega
    have cd:aG (R.2.1:Int):=by unfold aG;omega
    have IR:=Bs (R.2.1:Int) cd.1 cd.2;go_wp2_with fail;refine(G.out.blank (by omega)).mono ?_;rintro e e9 ⟨rfl,dD⟩;have aj:=aa dD;obtain⟨aJ,aL,aM,aN⟩:=Y.out aj.out;clear dD G;go_wp2_with fail;refine(wA (bH.out aj.out) (R.2.1:Int) cd).mono ?_;rintro e fc ⟨rfl,cM⟩;have ak:=aa (aj.out.below cM);obtain⟨aJ,aL,aM,aN⟩:=Y.out ak.out;clear cM aj;go_wp2_with fail;refine(ak.out.str (eQ (R.2.1:Int)) (by rw[cI,List.length_singleton];omega)).mono ?_;rintro e fd ⟨rfl,dF⟩;have d2:=aa dF;clear dF ak;go_wp2_with fail;go_roundw;case rel=>exact⟨j+1,jl,by omega,rfl,congrArg (af ae) (by omega),congrArg (af ae) (by omega),by rw[bG.out];simpa[fI,sv]using d2.out⟩
    case measure=>simp[intOf];omega
   ·obtain rfl:j=t.kids.length:=by omega
    rw[List.take_length]at z bI;have cq:Hid (aX T t.kind t.text (bz (aX T) m t.kids (num+1) kn).2.1=⟨(aB++(bz (aX T) m t.kids (num+1) kn).2.1.flatMap fun(c:Nat)=>32::eQ c).toArray⟩):=dR.out _;have bO:=cl.out;rw[cq.out]at bO;have c8:(aB++(bz (aX T) m t.kids (num+1) kn).2.1.flatMap fun(c:Nat)=>32::eQ c)≠[]:=by simp[dW]
    generalize(aB++(bz (aX T) m t.kids (num+1) kn).2.1.flatMap fun(c:Nat)=>32::eQ c)=l at*;generalize bz (aX T) m t.kids (num+1) kn=A at*;have aT:=aa bO;have Z:=aa z
    have aY:Hid (∀{wr bC M q l},fb h w B r (ag a1 L.length a2) w2.heap.size #[af ae t.kind,ah t.text,ag al t.leads.length am,ag J t.kids.length ck] wr bC M q l->Has wr cb #[.map (some r)]):=fun z=>cC.out.tu z.s.tu fun e=>by
     rcases e with e|e;·have:=(bp.out _ e).1;omega
     ·exact bJ e
    have el:=(aY.out z).cl 0;have fr:=(aY.out z).lt;simp only[bw,bc]at el;have ek:Hid (jm 9 j8):=ww;clear bO cq z cl;go_wp2_with fail;go_region_held3(fun w'=>w'.cell? ⟨cb,0,none⟩=some (.map (some r))) (first|(go_keep;done)|exact dm) (first|(go_at_call 156;refine(wC _ _ l _ (Z.out.below (aD _ _).drew).a c8).mono ?_;rintro e dv ⟨rfl,cE,dr⟩;have G:=aa ((Z.out.below (aD _ _).drew).wrote dr cE);have dm:=(aY.out G.out).cl 0;simp only[bw,bc]at dm;have bS:=(G.out.s.map.look ek.out ⟨l.toArray⟩ 114 3 (af ae 0) Br (fun W=>by kernel_rfl)).2;rw[Cw]at bS;simp only[j8]at bS;clear cE dr));have fu:=(aY.out G.out).lt;have cw:=fun ty=>G.out.s.map.qL Br ty;rw[Cx]at cw;have aV:=G.out.s.own;obtain⟨eL,cV,rfl⟩:=aV.shape;have e3:(L++[(⟨m,num,0,0⟩:bq)]++A.1).length=L.length+1+A.1.length:=by simp;omega
    clear bS;cases hf:A.2.2.findIdx? (fun k=>decide (k=⟨l.toArray⟩))with
    |some q=>
     have a8:gw A.2.2 ⟨l.toArray⟩=(q,A.2.2):=by unfold gw;rw[hf]
     have a4:(A.2.2.any fun k=>decide (k=⟨l.toArray⟩))=true:=by rw[<-Ka,hf];rfl
     simp only[Option.map_some,Option.getD_some,a4];rw[a8]at aT;obtain⟨a3,rfl,-,eC,-,aO,aQ⟩:=aV.cell (by omega);have bd:∃u,dv.cell? ⟨a3,L.length*4+2,none⟩=some u:=qK aO aV.len (by omega);have bg:∃u,dv.cell? ⟨a3,L.length*4+3,none⟩=some u:=qK aO aV.len (by omega);obtain⟨ez,bd⟩:=bd;obtain⟨eA,bg⟩:=bg;have en:=aQ (L.length*4+2);have eo:=aQ (L.length*4+3);have bR:=aa (G.out.s.fill a9 rfl (ax t.kids+1) q);have du:(0:Int)<=(L.length:Int):=by omega
     have bN:(L.length:Int)<((L++[(⟨m,num,0,0⟩:bq)]++A.1).length:Int):=by omega
     clear hf a4 a8 aO aQ aV;go_wp2_with fail;refine aF (v:=bD #[ag (some ⟨a3,0,none⟩) (L++[(⟨m,num,0,0⟩:bq)]++A.1).length cV,af ae ((ax t.kids:Int)+1),af ae q]) (by simp[results,Kb,go_sem];exact bI.1.symm) rfl ?_;refine⟨_,by rw[aT.out],?_⟩;rw[aT.out,ch];show cz h w B r _ _ _ (L++((⟨m,num,ax t.kids+1,q⟩:bq)::A.1)) A.2.2;rw[show L++((⟨m,num,ax t.kids+1,q⟩:bq)::A.1)=L++[⟨m,num,ax t.kids+1,q⟩]++A.1 from by simp];exact bR.out
    |none=>
     have a8:gw A.2.2 ⟨l.toArray⟩=(A.2.2.length,A.2.2++[⟨l.toArray⟩]):=by unfold gw;rw[hf]
     have a4:(A.2.2.any fun k=>decide (k=⟨l.toArray⟩))=false:=by rw[<-Ka,hf];rfl
     simp only[Option.map_none,Option.getD_none,a4];rw[a8]at aT;have ec:=c8;have dQ:=aa hf;clear hf a4 a8 aV;go_wp2_with fail;go_region_held3(fun w'=>w'.cell? ⟨cb,0,none⟩=some (.map (some r))) (first|(go_keep;done)|exact ci|exact em) (first|(go_at_call 156;refine(wC _ _ l _ (G.out.below (aD _ _).drew).a ec).mono ?_;rintro e eB ⟨rfl,cF,dt⟩;have aj:=aa ((G.out.below (aD _ _).drew).wrote dt cF);have ci:=(aY.out aj.out).cl 0;simp only[bw,bc]at ci;obtain⟨d1,dE,cY⟩:=aj.out.s.known ⟨l.toArray⟩ dQ.out a9;have ak:=aa dE;have em:=(World.cell?_of_block (a:=⟨cb,0,none⟩) (cY.block cb (aY.out aj.out).lt (fun e=>bJ (aU e)))).trans ci;clear cF dt dE cY));obtain⟨a3,rfl,-,eC,-,aO,aQ⟩:=ak.out.own.cell (by omega);have bd:=qK aO ak.out.own.len (i:=L.length*4+2) (by omega);have bg:=qK aO ak.out.own.len (i:=L.length*4+3) (by omega);obtain⟨ez,bd⟩:=bd;obtain⟨eA,bg⟩:=bg;have en:=aQ (L.length*4+2);have eo:=aQ (L.length*4+3);have bR:=aa (ak.out.fill a9 rfl (ax t.kids+1) A.2.2.length);have du:(0:Int)<=(L.length:Int):=by omega
     have bN:(L.length:Int)<((L++[(⟨m,num,0,0⟩:bq)]++A.1).length:Int):=by omega
     clear aO aQ d1 cw;generalize sG eB r (cG j8 (hB (A.2.2++[⟨l.toArray⟩])))=fe at*;go_wp2_with fail;refine aF (v:=bD #[ag (some ⟨a3,0,none⟩) (L++[(⟨m,num,0,0⟩:bq)]++A.1).length cV,af ae ((ax t.kids:Int)+1),af ae A.2.2.length]) (by simp[results,Kb,go_sem];exact bI.1.symm) rfl ?_;refine⟨_,by rw[aT.out,ch];rfl,?_⟩;rw[aT.out,ch];show cz h w B r _ _ _ (L++((⟨m,num,ax t.kids+1,A.2.2.length⟩:bq)::A.1)) (A.2.2++[⟨l.toArray⟩]);rw[show L++((⟨m,num,ax t.kids+1,A.2.2.length⟩:bq)::A.1)=L++[⟨m,num,ax t.kids+1,A.2.2.length⟩]++A.1 from by simp];exact bR.out
end Go.Proofs.YtdplggpbgommnaaGreatDoor
