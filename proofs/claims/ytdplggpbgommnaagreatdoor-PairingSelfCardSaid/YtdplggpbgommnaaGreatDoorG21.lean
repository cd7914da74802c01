/- pairing.classes.of. -/
import Derived.Test.YtdplggpbgommnaaGreatDoorG17
import Derived.Lib.ItoaLen
import Derived.Test.YtdplggpbgommnaaGreatDoorG20
open Go renaming bodyPost_ret→aF,results→aH
open Go.IntKind renaming i64→ae
open Go.Lib renaming hid→aa
open Go.Obj renaming cells→au
open Go.Proofs.Tryz renaming func120→lB,ntmps120→lC,prog→ai,results120→j1
open Go.Value renaming int→af,ownBlock→bW,pointer→az,slice→ag,string→ah
open Go.World renaming setCell→ef
open List renaming cons_append→hv,length_append→cI,length_cons→bF
open Nat renaming le_refl→an,lt_or_ge→b7,zero_le→aW
open Option.some renaming injEq→aC,inj→aU
set_option maxRecDepth 100000
set_option maxHeartbeats 8000000
namespace Go.Proofs.YtdplggpbgommnaaGreatDoor
open Go.RowKit
section
variable {ck:Int→ByteArray→List Nat→ByteArray}
theorem s6(m:Nat):∀(ts:List Tree) (t:Tree) (n:Nat) (kn:List ByteArray),bz ck m (ts++[t]) n kn=(let a:=bz ck m ts n kn;let b:=cS ck m t (n+ax ts) a.2.2;(a.1++b.1,a.2.1++[b.2.1],b.2.2))
 |[],t,n,kn=>by simp[bz,ax]
 |u::ts,t,n,kn=>by rw[hv,bz,bz];simp only;rw[s6 m ts t];simp only[gR,Nat.add_assoc,List.append_assoc,hv]
theorem Cu(m:Nat)(t:Tree)(n:Nat)(kn:List ByteArray):cS ck m t n kn=(let r:=bz ck m t.kids (n+1) kn;let q:=gw r.2.2 (ck t.kind t.text r.2.1);(⟨m,n,t.size,q.1⟩::r.1,q.1,q.2)):=by cases t;rw[cS];simp only[Tree.kids,Tree.kind,Tree.text,Tree.size]
end
theorem s5(l:List bq):(l.flatMap cX).length=l.length*4:=by
 induction l with
 |nil=>rfl
 |cons a l A=>simp only[List.flatMap_cons,cI,A,cX,bF,List.length_nil];omega
theorem hP.tu{B b:Nat}{bs:List Value}{w w':World}{S:Nat→Prop}(h:hP B b bs w)(t:Tu S w w')(M:∀k,S k→k≠b∧∀c A,w.heap[k]?≠some (.cells c 5 A)):hP B b bs w':=by
 have ab:∀p,Lib.BuilderAtF 224 5 B b p bs w→Lib.BuilderAtF 224 5 B b p bs w':=fun p ⟨aj,v,O,ao,am⟩=>by
  have ac:∀{k:Nat} {o:Obj},w.heap[k]? =some o→k<w.heap.size:=fun{k o} Y=>by
   rcases b7 k w.heap.size with q|q;·exact q
   ·rw[Array.getElem?_eq_none q]at Y;cases Y
  refine⟨aj,v,(t.block b (ac O) fun e=>(M b e).1 rfl).trans O,?_,am⟩;rcases ao with⟨h1,h2|⟨g,ad,G,A,ax,ak,E,r⟩⟩;·exact⟨h1,.inl h2⟩
  ·exact⟨h1,.inr ⟨g,ad,G,A,ax,ak,(t.block g (ac E) fun e=>(M g e).2 G A E).trans E,r⟩⟩
 rcases h with h|h;·exact .inl (ab _ h)
 ·exact .inr (ab _ h)
theorem jJ.tu{B b:Nat}{w w1 w2:World}{S:Nat→Prop}(h:jJ B b w1 w2)(t:Tu S w w1)(A:w.heap.size≤B):Tu S w w2:=
 t.step (S':=fun k=>B≤k) ⟨h.1.os,h.1.tape,h.1.output,h.1.size,fun k _ G=>h.1.block k (by omega)⟩ fun k E=> .inr (by omega)
theorem jJ.ow{B b B':Nat}{w w':World}{h:Hp}{e:TypeId}{k n:Nat}{v:Value}{xs:List Value}(r:jJ B b w w')(o:Ow w h B' e k v n xs)(Y:e≠5)(O:v.ownBlock≠some b):Ow w' h B' e k v n xs:=by
 refine o.U (fun g E=> ?_) fun _ _=>rfl;rcases o.row with⟨h1,⟨rfl,aj⟩|⟨M,ab,ac,rfl,ak,G,ax,am,ao,aB⟩⟩;·simp[bW]at E
 ·simp only[bW,aC]at E;subst E;rw[G];exact r.2 M _ G (fun A=>O (by rw[←A];rfl)) fun c ad A=>Y (by injection A)
theorem jJ.map{K:Type}{enc:K→Value}{B b:Nat}{w w':World}{r:Nat}{l:List (K×Value)}(q:jJ B b w w')(m:aS enc w r l)(A:r≠b):aS enc w' r l:=
 m.U (by rw[m];exact q.2 r _ m (fun e=>A (aU e)) fun c E e=>by unfold cG at e;cases e)
theorem hP.new(w:World):hP w.heap.size w.heap.size [] (w.alloc (.cells #[az none,ag none 0 0] 224)):=
 .inl ⟨an _,ag none 0 0,heap_alloc_new w _,⟨by simp,.inl ⟨rfl,rfl⟩⟩,by simp[bW]⟩
section
variable {ck:Int→ByteArray→List Nat→ByteArray}
theorem FP(kn:List ByteArray)(A:ByteArray):kn.length≤(gw kn A).2.length∧(gw kn A).2.length≤kn.length+1∧(gw kn A).1<(gw kn A).2.length:=by
 unfold gw;split;·rename_i i h;have:=(List.findIdx?_eq_some_iff_getElem.1 h).1;exact⟨an _,by simp,this⟩
 ·simp
mutual
theorem wB(m:Nat):∀(t:Tree) (n:Nat) (kn:List ByteArray),(cS ck m t n kn).1.length=t.size∧kn.length≤(cS ck m t n kn).2.2.length∧(cS ck m t n kn).2.2.length≤kn.length+t.size∧(cS ck m t n kn).2.1<(cS ck m t n kn).2.2.length
 | .node k s ls A,n,kn=>by have h:=pF m A (n+1) kn;rw[cS];have q:=FP (bz ck m A (n+1) kn).2.2 (ck k s (bz ck m A (n+1) kn).2.1);simp only[bF,Tree.size];exact⟨by rw[h.1],by omega,by omega,q.2.2⟩
theorem pF(m:Nat):∀(ts:List Tree) (n:Nat) (kn:List ByteArray),(bz ck m ts n kn).1.length=ax ts∧kn.length≤(bz ck m ts n kn).2.2.length∧(bz ck m ts n kn).2.2.length≤kn.length+ax ts∧(∀c∈(bz ck m ts n kn).2.1,c<kn.length+ax ts)∧(bz ck m ts n kn).2.1.length=ts.length
 |[],n,kn=>by simp[bz,ax]
 |t::ts,n,kn=>by
  have h1:=wB m t n kn;have h2:=pF m ts (n+t.size) (cS ck m t n kn).2.2;rw[bz];simp only[cI,bF,gR];refine⟨by omega,by omega,by omega,fun c A=> ?_,by omega⟩;rcases List.mem_cons.1 A with rfl|A;·omega
  ·have:=h2.2.2.2.1 c A;omega
end
end
structure cz(h:Hp)(w:World)(B r:Nat)(lv:Value)(wr:World)(bC:Value)(L:List bq)(kn:List ByteArray):Prop where
 own:Ow wr h B 121 4 bC L.length (L.flatMap cX)
 map:aS j8 wr r (hB kn)
 tu:Tu (fun k=>lv.ownBlock=some k∨k=r) w wr
 bi:bC.ownBlock=lv.ownBlock∨∃g,bC.ownBlock=some g∧w.heap.size≤g
section
variable {h:Hp} {w wr w':World} {B r B0 b:Nat} {lv bC jl:Value} {L L2:List bq} {kn nD:List ByteArray} {bs:List Value}
theorem cz.below(s:cz h w B r lv wr bC L kn)(q:Below wr.heap.size wr w'):cz h w B r lv w' bC L kn:=
 ⟨s.own.same q,s.map.U (q.block _ s.map.lt),s.tu.below q,s.bi⟩
theorem oK.type(a:hP B0 b bs wr):∃c,wr.heap[b]? =some (.cells c 224 (0,0)):=by rcases a with⟨_,v,h,_⟩|⟨_,v,h,_⟩<;>exact⟨_,h⟩
theorem Ow.type{e:TypeId}{k n:Nat}{v:Value}{xs:List Value}(o:Ow wr h B e k v n xs){g:Nat}(A:v.ownBlock=some g):∃c,wr.heap[g]? =some (.cells c e (0,0)):=by
 rcases o.row with⟨h1,⟨rfl,Y⟩|⟨O,G,M,rfl,ab,E,_⟩⟩;·simp[bW]at A
 ·simp only[bW,aC]at A;subst A;exact⟨_,E⟩
theorem cz.apart(s:cz h w B r lv wr bC L kn)(a:hP B0 b bs wr):∀k,(bC.ownBlock=some k∨k=r)→k≠b∧∀c A,wr.heap[k]?≠some (.cells c 5 A):=fun k E=>by
 obtain⟨c1,h1⟩:=oK.type a;rcases E with E|rfl
 ·obtain⟨c2,h2⟩:=s.own.type E;refine⟨fun e=> ?_,fun c A e=> ?_⟩;·subst e;rw[h1]at h2;simp at h2
  ·rw[h2]at e;simp at e
 ·have h2:=s.map;unfold aS cG at h2;refine⟨fun e=> ?_,fun c A e=> ?_⟩;·subst e;rw[h1]at h2;cases h2
  ·rw[h2]at e;cases e
theorem cz.wrote(s:cz h w B r lv wr bC L kn)(a:hP B0 b bs wr)(q:jJ B0 b wr w')(A:w.heap.size≤B0):cz h w B r lv w' bC L kn:=
 ⟨q.ow s.own (by decide) fun e=>(s.apart a b (.inl e)).1 rfl,q.map s.map fun e=>(s.apart a r (.inr rfl)).1 e,q.tu s.tu A,s.bi⟩
theorem cz.call(s:cz h w B r lv wr bC L kn)(c:cz h wr B r bC w' jl L2 nD):cz h w B r lv w' jl L2 nD:=by
 refine⟨c.own,c.map,s.tu.step c.tu fun k A=> ?_,?_⟩
 ·rcases A with A|rfl
  ·rcases s.bi with e|⟨g,e,E⟩;·exact .inl (.inl (by rw[←e];exact A))
   ·rw[e]at A;exact .inr (by rw[←aU A];exact E)
  ·exact .inl (.inr rfl)
 ·rcases c.bi with e|⟨g,e,E⟩;·rw[e];exact s.bi
  ·exact .inr ⟨g,e,Nat.le_trans s.tu.size E⟩
theorem cz.I(s:cz h w B r lv wr bC L kn)(A:ao h w)(E:∀g,lv.ownBlock=some g→h g=none)(G:h r=none):ao h wr:=s.tu.I A fun k e=>by
 rcases e with e|rfl;·exact E k e
 ·exact G
theorem cz.tb{T:Lib.PrintTabs}{N:Nat}(s:cz h w B r lv wr bC L kn)(t:Tb T N w)(A:∀g,lv.ownBlock=some g→N≤g)(E:N≤r):Tb T N wr:=t.below (s.tu.jR t.1 fun k e=>by
 rcases e with e|rfl;·exact A k e
 ·exact E)
end
theorem CE(m B:Nat)(ce:m≤100)(a3:lI m B)(h:Hp)(w:World)(bG:ao h w)(g:Nat)(L:List Int)(n:Nat)(d:cA h w g L n)(bH:a8 L n 14=9):Calls ai 120 #[az (some ⟨g,0,none⟩),af ae ((m+1:Nat):Int)] w (fQ g L h w (ME (3*B+6))):=by
 have a4:=aa bG;have D:=aa d;have bJ:=aa bH;have cd:=d.lt;clear bG d bH;have b0:((m+1:Nat):Int)-1=(m:Int):=by omega
 have b9:¬((m+1:Nat):Int)<1:=by omega
 have cc:(m:Int)+1-1=(m:Int):=by omega
 have ax:=aa a3;clear a3;go_enter lB,lC;go_wp2_with fail;have B0:=aa (Bx.new a4.out #[af ae 0,ah ⟨#[]⟩,ag none 0 0,ag none 0 0] 26);have a5:=aa ((aL.refl a4.out D.out).alloc (au #[af ae 0,ah ⟨#[]⟩,ag none 0 0,ag none 0 0] 26));refine(dW h _ a5.out.I g L n (D.out.alloc _) 14 (by omega) (by omega)).mono ?_;rintro e w1 ⟨rfl,aB⟩;rw[bJ.out];have aY:=aa (B0.out.call aB (by omega));have aN:=aa (a5.out.call aB);obtain⟨bX,ad⟩:=aN.out.bj;have ad:=aa ad;have cf:w.heap.size<w1.heap.size:=aY.out.has.lt;clear aB;go_wp2_with fail;refine(ax.out h _ aN.out.I g L bX ad.out).mono ?_;rintro e w2 ⟨cj,rfl,h2,A,aM,aS,bN⟩;obtain⟨bg,bA,a9,bq,-,rfl,-,-,-,-,-,-⟩:=aS.open;have aZ:=aa (aY.out.call aM (by omega));have aO:=aa (aN.out.call aM);obtain⟨bY,aj⟩:=aO.out.bj;have aj:=aa aj;have O:=aa (dq aS);have cg:w.heap.size<w2.heap.size:=aZ.out.has.lt;clear aM aS;go_wp2_with fail;refine(ax.out h2 _ aO.out.I g L bY aj.out).mono ?_;rintro e w3 ⟨cl,rfl,bS,E,ab,aT,bO⟩;obtain⟨bm,bB,ba,bv,-,rfl,-,-,-,-,-,-⟩:=aT.open;have a1:=aa (aZ.out.call ab (by omega));have aP:=aa (aO.out.call ab);obtain⟨bZ,ak⟩:=aP.out.bj;have ak:=aa ak;have am:=aa (dq aT);have ch:w.heap.size<w3.heap.size:=a1.out.has.lt;replace O:=aa (O.out.mono ab.le);clear ab aT;go_wp2_with fail;refine(ax.out bS _ aP.out.I g L bZ ak.out).mono ?_;rintro e M ⟨cm,rfl,bE,G,Y,aV,bR⟩;obtain⟨bp,bC,bd,bz,-,rfl,-,-,-,-,-,-⟩:=aV.open;have ac:=aa (a1.out.call Y (by omega));have aQ:=aa (aP.out.call Y);obtain⟨ci,a2⟩:=aQ.out.bj;have a2:=aa a2;have bI:=aa (dq aV);have bT:w.heap.size<M.heap.size:=ac.out.has.lt;replace O:=aa (O.out.mono Y.le);replace am:=aa (am.out.mono Y.le);clear Y aV;have⟨⟨bV,k1,k2,k3⟩,cn,co,cq,ct⟩:=ac.out.four;have hy:w.heap.size<M.heap.size+1:=by omega
 go_wp2_with fail;refine aF (v:= .agg #[af ae 19,ah ⟨#[]⟩,ag none 0 0,ag (some ⟨M.heap.size,0,none⟩) 3 3]) (by simp[aH,j1,go_sem,bV,k1,k2,k3,bT]) rfl ?_;have bL:=(aQ.out.aM (an _) ac.out.no (af ae 19) (ah ⟨#[]⟩) (ag none 0 0) (ag (some ⟨M.heap.size,0,none⟩) 3 3)).lay [af ae A.kind,ah A.text,ag bg A.leads.length bA,ag a9 A.kids.length bq,af ae E.kind,ah E.text,ag bm E.leads.length bB,ag ba E.kids.length bv,af ae G.kind,ah G.text,ag bp G.leads.length bC,ag bd G.kids.length bz] 26 M.heap.size (by simp[ef]);have aX:bE.le (bE.add M.heap.size ([af ae A.kind,ah A.text,ag bg A.leads.length bA,ag a9 A.kids.length bq,af ae E.kind,ah E.text,ag bm E.leads.length bB,ag ba E.kids.length bv,af ae G.kind,ah G.text,ag bp G.leads.length bC,ag bd G.kids.length bz]:List Value).toArray):=Hp.eG _ aQ.out.I.iI;exact⟨_,rfl,_,.node 19 ⟨#[]⟩ [] [A,E,G],bL,jL (jM _ _ _) ((aJ.one (O.out.mono aX)).append ((aJ.one (am.out.mono aX)).append (aJ.one (bI.out.mono aX)))) 3 rfl (by simp) _ (by unfold aG;omega) _,HG bN bO bR (by omega)⟩
theorem wL(m B:Nat)(bY:m≤100)(a2:lI m B)(h:Hp)(w:World)(Y:ao h w)(g:Nat)(L:List Int)(n:Nat)(d:cA h w g L n)(M:a8 L n 14=10∨a8 L n 14=11):Calls ai 120 #[az (some ⟨g,0,none⟩),af ae ((m+1:Nat):Int)] w (fQ g L h w (ME (3*B+6))):=by
 have a4:=aa Y;have D:=aa d;have bX:=d.lt;clear Y d;rcases M with M|M
 all_goals
  have bC:=aa M;clear M;have bS:((m+1:Nat):Int)-1=(m:Int):=by omega
  have bT:¬((m+1:Nat):Int)<1:=by omega
  have bV:(m:Int)+1-1=(m:Int):=by omega
  have a3:=aa a2;clear a2;go_enter lB,lC;go_wp2_with fail;have B0:=aa (Bx.new a4.out #[af ae 0,ah ⟨#[]⟩,ag none 0 0,ag none 0 0] 26);have a5:=aa ((aL.refl a4.out D.out).alloc (au #[af ae 0,ah ⟨#[]⟩,ag none 0 0,ag none 0 0] 26));refine(dW h _ a5.out.I g L n (D.out.alloc _) 14 (by omega) (by omega)).mono ?_;rintro e w1 ⟨rfl,ax⟩;rw[bC.out];have aX:=aa (B0.out.call ax (by omega));have aN:=aa (a5.out.call ax);obtain⟨bN,ac⟩:=aN.out.bj;have ac:=aa ac;have bZ:w.heap.size<w1.heap.size:=aX.out.has.lt;clear ax;go_wp2_with fail;refine(jn h _ (aN.out.I.alloc _) g L bN (ac.out.alloc _) w1.heap.size 3 3 #[ah ⟨#[120]⟩,ah ⟨#[121]⟩,ah ⟨#[122]⟩] (Has.new w1 _ _) (by omega) (by omega) (by omega) (fun i Y=>ik [ah ⟨#[120]⟩,ah ⟨#[121]⟩,ah ⟨#[122]⟩] (ka 12) (by kernel_rfl) i Y)).mono ?_;rintro e w2 ⟨aV,rfl,am,aB⟩;have am:=aa am;have aY:=aa ((aX.out.alloc _).call aB (by omega));have aO:=aa ((aN.out.alloc _).call aB);obtain⟨bO,ad⟩:=aO.out.bj;have ad:=aa ad;have b0:w.heap.size<w2.heap.size:=aY.out.has.lt;clear aB;go_wp2_with fail;refine(a3.out h _ aO.out.I g L bO ad.out).mono ?_;rintro e w3 ⟨cd,rfl,bI,A,aM,aS,bG⟩;obtain⟨bd,bq,a9,bm,-,rfl,-,-,-,-,-,-⟩:=aS.open;have aZ:=aa (aY.out.call aM (by omega));have aP:=aa (aO.out.call aM);obtain⟨bR,aj⟩:=aP.out.bj;have aj:=aa aj;have ak:=aa (dq aS);have b9:w.heap.size<w3.heap.size:=aZ.out.has.lt;clear aM aS;go_wp2_with fail;refine(a3.out bI _ aP.out.I g L bR aj.out).mono ?_;rintro e G ⟨ce,rfl,bz,E,O,aT,bH⟩;obtain⟨bg,bv,ba,bp,-,rfl,-,-,-,-,-,-⟩:=aT.open;have ab:=aa (aZ.out.call O (by omega));have aQ:=aa (aP.out.call O);obtain⟨cc,a1⟩:=aQ.out.bj;have a1:=aa a1;have bB:=aa (dq aT);have bJ:w.heap.size<G.heap.size:=ab.out.has.lt;replace ak:=aa (ak.out.mono O.le);clear O aT;have⟨⟨bL,k1,k2,k3⟩,cf,cg,ch,ci⟩:=ab.out.four;have hy:w.heap.size<G.heap.size+1:=by omega
  go_wp2_with fail;refine aF (v:= .agg #[af ae 20,ah aV,ag none 0 0,ag (some ⟨G.heap.size,0,none⟩) 2 2]) (by simp[aH,j1,go_sem,bL,k1,k2,k3,bJ]) rfl ?_;have bE:=(aQ.out.aM (an _) ab.out.no (af ae 20) (ah aV) (ag none 0 0) (ag (some ⟨G.heap.size,0,none⟩) 2 2)).lay [af ae A.kind,ah A.text,ag bd A.leads.length bq,ag a9 A.kids.length bm,af ae E.kind,ah E.text,ag bg E.leads.length bv,ag ba E.kids.length bp] 26 G.heap.size (by simp[ef]);have bA:bz.le (bz.add G.heap.size ([af ae A.kind,ah A.text,ag bd A.leads.length bq,ag a9 A.kids.length bm,af ae E.kind,ah E.text,ag bg E.leads.length bv,ag ba E.kids.length bp]:List Value).toArray):=Hp.eG _ aQ.out.I.iI;exact⟨_,rfl,_,.node 20 aV [] [A,E],bE,jL (jM _ _ _) ((aJ.one (ak.out.mono bA)).append (aJ.one (bB.out.mono bA))) 2 rfl (by simp) _ (by unfold aG;omega) _,HH am.out bG bH (by omega)⟩
theorem CG(m B:Nat)(bd:m≤100)(ak:lI m B)(h:Hp)(w:World)(aP:ao h w)(g:Nat)(L:List Int)(n:Nat)(d:cA h w g L n)(aQ:a8 L n 14=13):Calls ai 120 #[az (some ⟨g,0,none⟩),af ae ((m+1:Nat):Int)] w (fQ g L h w (ME (3*B+6))):=by
 have am:=aa aP;have D:=aa d;have aV:=aa aQ;have ba:=d.lt;clear aP d aQ;have a4:((m+1:Nat):Int)-1=(m:Int):=by omega
 have a5:¬((m+1:Nat):Int)<1:=by omega
 have a9:(m:Int)+1-1=(m:Int):=by omega
 have aT:=aa ak;clear ak;go_enter lB,lC;go_wp2_with fail;have B0:=aa (Bx.new am.out #[af ae 0,ah ⟨#[]⟩,ag none 0 0,ag none 0 0] 26);have ax:=aa ((aL.refl am.out D.out).alloc (au #[af ae 0,ah ⟨#[]⟩,ag none 0 0,ag none 0 0] 26));refine(dW h _ ax.out.I g L n (D.out.alloc _) 14 (by omega) (by omega)).mono ?_;rintro e w1 ⟨rfl,M⟩;rw[aV.out];have ad:=aa (B0.out.call M (by omega));have Y:=aa (ax.out.call M);obtain⟨a3,G⟩:=Y.out.bj;have G:=aa G;have bg:w.heap.size<w1.heap.size:=ad.out.has.lt;clear M;go_wp2_with fail;refine(aT.out h _ Y.out.I g L a3 G.out).mono ?_;rintro e w2 ⟨bp,rfl,h2,A,O,ac,aY⟩;obtain⟨aM,aO,aB,aN,-,rfl,-,-,-,-,-,-⟩:=ac.open;have E:=aa (ad.out.call O (by omega));have ab:=aa (Y.out.call O);obtain⟨bm,aj⟩:=ab.out.bj;have aj:=aa aj;have aS:=aa (dq ac);have a1:w.heap.size<w2.heap.size:=E.out.has.lt;clear O ac;have⟨⟨a2,k1,k2,k3⟩,bq,bv,bz,bA⟩:=E.out.four;have hy:w.heap.size<w2.heap.size+1:=by omega
 go_wp2_with fail;refine aF (v:= .agg #[af ae 22,ah ⟨#[]⟩,ag none 0 0,ag (some ⟨w2.heap.size,0,none⟩) 1 1]) (by simp[aH,j1,go_sem,a2,k1,k2,k3,a1]) rfl ?_;have aX:=(ab.out.aM (an _) E.out.no (af ae 22) (ah ⟨#[]⟩) (ag none 0 0) (ag (some ⟨w2.heap.size,0,none⟩) 1 1)).lay [af ae A.kind,ah A.text,ag aM A.leads.length aO,ag aB A.kids.length aN] 26 w2.heap.size (by simp[ef]);have aZ:h2.le (h2.add w2.heap.size ([af ae A.kind,ah A.text,ag aM A.leads.length aO,ag aB A.kids.length aN]:List Value).toArray):=Hp.eG _ ab.out.I.iI;exact⟨_,rfl,_,.node 22 ⟨#[]⟩ [] [A],aX,jL (jM _ _ _) (aJ.one (aS.out.mono aZ)) 1 rfl (by simp) _ (by unfold aG;omega) _,(Ai aY).expr.le (by omega)⟩
def EG(s:ByteArray)(i:Nat)(e:Ending):Prop:=∃(m:Nat) (b:Int),e= .returned (.tuple #[af ae m,af ae b])∧i+m≤s.size
theorem x2(w:World)(s:ByteArray)(aM:s.size≤140737488355328)(z:Int)(i:Nat)(hz:z=(i:Int))(aj:i≤s.size):Calls ai 197 #[ah s,af ae z] w fun e w'=>EG s i e∧w=w':=by
 subst hz;go_enter Tryz.func197,Tryz.ntmps197;go_wp2_with fail;go_loop[4,5,6,8,9,10,11,12,13,14,15,16,17,18,19,20,21,22,23,24,25,26,27,28,29,30,31,32,33,34,35,36,37,38,39,40,41,42,43,44,45,46,47] (fun _ _ q _ _ _ _ _ _ _ _ _ _ _ _ _ _ _ _ _ _ _ _ _ _ _ _ _ _ _ _ _ _ _ _ _ _ _ _ _ _ _ _=>∃n:Nat,i≤n∧n≤s.size∧q=af ae n) (fun _ _ q _ _ _ _ _ _ _ _ _ _ _ _ _ _ _ _ _ _ _ _ _ _ _ _ _ _ _ _ _ _ _ _ _ _ _ _ _ _ _ _=>s.size-(intOf q).toNat);case atStart=>exact⟨i,an _,aj,rfl⟩
 case round=>
  obtain⟨n,aG,am,rfl⟩:=hrel;have w2:ae.wrap ((n:Int)-(i:Int))=((n-i:Nat):Int):=by rw[bA (by omega)];omega
  by_cases M:n<s.size
  ·have aN:(0:Int)≤(n:Int):=by omega
   have aO:(n:Int)<(s.size:Int):=by omega
   have aB:((s[n]'M).toNat:Int)=bt s n:=ei M;go_wp2_with fail;refine(tE _ _).mono ?_;rintro e w1 ⟨rfl,rfl⟩;obtain⟨ao,O⟩:∃b,hR (bt s n)=b:=⟨_,rfl⟩
   rw[O];clear O;cases ao
   ·by_cases A:bt s n=35
    ·have ad:(bt s n==35)=true:=by simpa using A
     have Y:Hid (bt s n≠10):=by unfold Hid;omega
     clear A;go_wp2_with fail;go_loop[4,5,6,27,28,29,30,31,32,33,34,35,36,37,38,39,40,41,42,43,44,45,46,47] (fun _ _ q _ _ _ _ _ _ _ _ _ _ _ _ _ _ _ _ _ _ _ _ _=>∃k:Nat,n≤k∧k≤s.size∧q=af ae k) (fun _ _ q _ _ _ _ _ _ _ _ _ _ _ _ _ _ _ _ _ _ _ _ _=>s.size-(intOf q).toNat);case atStart=>exact⟨n,an _,am,rfl⟩
     case round=>
      obtain⟨k,aL,ak,rfl⟩:=hrel;have w3:ae.wrap ((k:Int)-(i:Int))=((k-i:Nat):Int):=by rw[bA (by omega)];omega
      by_cases G:k<s.size
      ·have aP:(0:Int)≤(k:Int):=by omega
       have aQ:(k:Int)<(s.size:Int):=by omega
       have ax:((s[k]'G).toNat:Int)=bt s k:=ei G;by_cases lT:bt s k=10
       ·have ac:(bt s k !=10)=false:=by simpa using lT
        have aJ:n<k:=by
         rcases b7 n k with h|h;·exact h
         ·have:n=k:=by omega
          subst this;exact absurd lT Y.out
        go_wp2_with fail;go_round;case rel=>exact⟨k,by omega,ak,rfl⟩
        case measure=>simp[intOf];omega
       ·have ac:(bt s k !=10)=true:=by simpa using lT
        go_wp2_with fail;refine(tH _ _).mono ?_;rintro e w1 ⟨rfl,rfl⟩;obtain⟨ab,E⟩:∃b,(hR (bt s k)||mH (bt s k))=b:=⟨_,rfl⟩
        rw[E];clear E;cases ab;·go_wp2_with fail;go_ret2;exact⟨⟨k-i,k,rfl,by omega⟩,rfl⟩
        ·go_wp2_with fail;go_round;case rel=>exact⟨k+1,by omega,by omega,by go_num⟩
         case measure=>simp[intOf];omega
      ·obtain rfl:k=s.size:=by omega
       go_wp2_with fail;go_round;case rel=>exact⟨s.size,by omega,by omega,rfl⟩
       case measure=>simp[intOf];omega
    ·have ad:(bt s n==35)=false:=by simpa using A
     go_wp2_with fail;go_ret2;exact⟨⟨n-i,-1,rfl,by omega⟩,rfl⟩
   ·go_wp2_with fail;go_round;case rel=>exact⟨n+1,by omega,by omega,by go_num⟩
    case measure=>simp[intOf];omega
  ·obtain rfl:n=s.size:=by omega
   go_wp2_with fail;go_ret2;exact⟨⟨s.size-i,-1,rfl,by omega⟩,rfl⟩
theorem ue(w:World)(s:ByteArray)(ab:s.size≤140737488355328)(E:Bool):Calls ai 172 #[ah s,.bool E] w fun e w'=>nS e∧w=w':=by
 go_enter Tryz.func172,Tryz.ntmps172;go_wp2_with fail;refine(x2 _ s ab 0 0 rfl (aW _)).mono ?_;rintro e w1 ⟨⟨m,b,rfl,ak⟩,rfl⟩;by_cases Y:0≤b;·go_wp2_with fail;go_ret;exact⟨fW _,rfl⟩
 ·have aj:decide (0≤b)=false:=by simpa using Y
  by_cases am:m<s.size
  ·have ac:(m:Int)<(s.size:Int):=by omega
   go_wp2_with fail;go_ret;exact⟨fW _,rfl⟩
  ·have ac:decide ((m:Int)<(s.size:Int))=false:=by simp;omega
   have ax:decide (m<s.size)=false:=by simp;omega
   cases E
   ·go_wp2_with fail;go_loop[7,8,23,24,25,26,27,28,29,30,31,32,33,34,35,36] (fun c q _ _ _ _ _ _ _ _ _ _ _ _ _ _=>∃(n:Nat) (cb:Bool),n≤s.size∧q=af ae n∧c= .bool cb) (fun _ q _ _ _ _ _ _ _ _ _ _ _ _ _ _=>s.size-(intOf q).toNat);case atStart=>exact⟨0,false,aW _,rfl,rfl⟩
    case round=>
     obtain⟨n,cb,ao,rfl,rfl⟩:=hrel;by_cases M:n<s.size
     ·have aB:(0:Int)≤(n:Int):=by omega
      have aG:(n:Int)<(s.size:Int):=by omega
      have ad:((s[n]'M).toNat:Int)=bt s n:=ei M;by_cases A:bt s n=35
      ·have O:(bt s n==35)=true:=by simpa using A
       have G:(bt s n==10)=false:=by simp;omega
       clear A;go_wp2_with fail;go_round;case rel=>exact⟨n+1,true,by omega,by go_num,rfl⟩
       case measure=>simp[intOf];omega
      ·have O:(bt s n==35)=false:=by simpa using A
       by_cases lT:bt s n=10
       ·have G:(bt s n==10)=true:=by simpa using lT
        clear lT A;go_wp2_with fail;go_round;case rel=>exact⟨n+1,false,by omega,by go_num,rfl⟩
        case measure=>simp[intOf];omega
       ·have G:(bt s n==10)=false:=by simpa using lT
        clear lT A;go_wp2_with fail;go_round;case rel=>exact⟨n+1,cb,by omega,by go_num,rfl⟩
        case measure=>simp[intOf];omega
     ·obtain rfl:n=s.size:=by omega
      go_wp2_with fail;go_ret;exact⟨fW _,rfl⟩
   ·go_wp2_with fail;go_ret;exact⟨fW _,rfl⟩
end Go.Proofs.YtdplggpbgommnaaGreatDoor
