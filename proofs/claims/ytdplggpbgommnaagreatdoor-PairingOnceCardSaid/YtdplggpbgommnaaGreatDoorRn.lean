/- The reference's Nodes. -/
import Derived.Test.YtdplggpbgommnaaGreatDoorG03
open Go.IntKind renaming i64->ae
open Go.Lib renaming hid->aa
open Go.Obj renaming cells->au
open Go.Value renaming int->af,slice->ag,string->ah
open Go.Value.agg renaming injEq->oG
open List renaming map_append->gO,map_cons->cR
set_option maxRecDepth 100000
set_option maxHeartbeats 2000000
namespace Go.Proofs.YtdplggpbgommnaaGreatDoor
open Go.RowKit
mutual
def fO:Tree->List Tree
 | .node k s l ks=> .node k s l ks::kL ks
def kL:List Tree->List Tree
 |[]=>[]
 |t::ts=>fO t++kL ts
end
theorem Mu(t:Tree):fO t=t::kL t.kids:=by cases t;rw[fO];rfl
def wg(e:aB):Int×ByteArray×Nat×Int:=(e.kind,e.text,e.kids.length,e.size)
def wh(t:Tree):Int×ByteArray×Nat×Int:=(t.kind,t.text,t.kids.length,(t.size:Int))
mutual
theorem L6:∀(t:Tree) (p:Int) (n:Nat),(fO t).map wh=(ej t p n).map wg
 | .node k s l G,p,n=>by rw[fO,ej,cR,cR,L7 G n (n+1)];simp[wh,wg,Tree.kind,Tree.text,Tree.kids,Tree.size,Dq]
theorem L7:∀(ts:List Tree) (p n:Nat),(kL ts).map wh=(eJ ts p n).map wg
 |[],p,n=>by rw[kL,eJ];rfl
 |t::ts,p,n=>by rw[kL,eJ,gO,gO,L6 t p n,L7 ts p (n+t.size)]
end
theorem r3(t:Tree):(fO t).length=t.size:=by have:=congrArg List.length (L6 t (-1) 0);simpa[lN]using this
theorem Mv(ts:List Tree)(j:Nat)(h:j<ts.length):kL (ts.take (j+1))=kL (ts.take j)++fO ts[j]:=by
 induction ts generalizing j with
 |nil=>simp at h
 |cons t ts G=>
  cases j with
  |zero=>simp[kL]
  |succ j=>simp only[List.take_succ_cons,kL,List.getElem_cons_succ];rw[G j (by simpa using h),List.append_assoc]
theorem L8{h:Hp}:∀{ts:List Tree} {cs:List Value},aJ (bg h) ts cs->∀u∈cs,u.oneCell'=true
 |[],cs,e,u,G=>by simp only[aJ]at e;subst e;simp at G
 |t::ts,cs,⟨a,r,e,h1,h2⟩,u,G=>by
  subst e;rcases List.mem_append.1 G with G|G;·obtain⟨al,O,J,ck,xs,rfl,_⟩:=bg.iff.1 h1;exact cm _ rfl u G
  ·exact L8 h2 u G
theorem L9(m:Nat):∀(t:Tree) (_:t.size<=m) (h:Hp) (w:World) (_:ao h w) (v:Value) (_:aP h v t) (_:t.size<=1000000),Calls Tryz.prog 16 #[v] w fun e w'=>∃v',e= .returned v'/\∃h',St w.heap.size h w h' w'/\hQ h' v' (fO t):=by
 induction m with
 |zero=>intro t hn;have:=t.size_eq;omega
 |succ m aX=>
  intro t cn h w aT v aB cd;have a9:=aa aB;have aG:=aa aT;have ba:=aa aX;obtain⟨al,J,G,ck,ys,rfl,cf,ci,cg,bE,aV,he⟩:=aB.open;have bq:=aa aV;have a2:=aa he;have cm:=t.size_eq;have ch:=w9 t.kids
  have a4:Hid (bg h t [af ae t.kind,ah t.text,ag al t.leads.length J,ag G t.kids.length ck]):=by
   obtain⟨cs,e,i⟩:=a9.out;have:cs=[af ae t.kind,ah t.text,ag al t.leads.length J,ag G t.kids.length ck]:=by simp only[oG]at e;have:=congrArg Array.toList e;simpa using this.symm
   rw[this]at i;exact i
  clear aB aT aX bE aV he;go_in;go_wp2_with fail;have aN:Hid (ao h (w.alloc (au #[af ae t.kind,ah t.text,ag al t.leads.length J,ag G t.kids.length ck] 26))):=aG.out.alloc _;have hz:(w.alloc (au #[af ae t.kind,ah t.text,ag al t.leads.length J,ag G t.kids.length ck] 26)).heap.size=w.heap.size+1:=by simp
  have aM:=aa hz;clear hz;generalize aS:w.alloc (au #[af ae t.kind,ah t.text,ag al t.leads.length J,ag G t.kids.length ck] 26)=w0 at*;have aL:=aa aS;clear aS;have co:w.heap.size<w0.heap.size:=by rw[aM.out];omega
  go_loopw[3,4] (fun v i wr=>∃(j:Nat) (hj:Hp) (vs:List Value),j<=t.kids.length/\i=af ae j/\St w0.heap.size h w0 hj wr/\Ow wr hj w0.heap.size 26 4 v (1+ax (t.kids.take j)) vs/\aJ (bg hj) (t::kL (t.kids.take j)) vs) (fun _ i _=>t.kids.length-(intOf i).toNat)
  case atStart=>
   refine⟨0,h,[af ae t.kind,ah t.text,ag al t.leads.length J,ag G t.kids.length ck],Nat.zero_le _,rfl,(St.refl aN.out).alloc _,?_,?_⟩;·rw[<-aM.out];exact oP (w:=w0) aN.out (Nat.le_refl _) _ 1 4 26 (by simp[maxLen]) rfl
   ·exact⟨_,[],by simp,a4.out,rfl⟩
  case round=>
   obtain⟨j,hj,vs,ce,rfl,S,O,E⟩:=hrel;obtain⟨bN,bT,rfl⟩:=O.shape;have S':=aa S;have bd:=aa O;have aZ:=aa E;have cc:wr.cell? ⟨w.heap.size,3,none⟩=some (ag G t.kids.length ck):=(fS aL.out S.below 3).1;have cq:w.heap.size<wr.heap.size:=by have:=S.below.size;omega
   by_cases am:j<t.kids.length
   ·obtain⟨b,off,bL,bS,bJ,bR,rfl,b9,bV,bX,bY,bZ,aQ⟩:=j9 (bq.out.mono S.le) (a2.out.mono fun _ _ q=>q.mono S.le) S.I j am;have bB:=aa aQ;have cj:=eY t.kids j am;have cl:=jK t.kids (j+1);have bG:t.kids[j].size<=m:=by omega
    have a8:=aa (Mv t.kids j am);have a5:=aa (r3 t.kids[j]);generalize t.kids[j]=ab at*;clear S O E aQ;go_wp2_with fail;refine(ba.out ab bG hj _ S'.out.I _ bB.out (by omega)).mono ?_;rintro e w2 ⟨aY,rfl,h2,Y,ak,aO,aj⟩;have bz:=aa (S'.out.call Y);have bp:=aa (bd.out.call Y);have a1:Hid (aJ (bg h2) (t::kL (t.kids.take j)) vs):=aZ.out.mono fun _ _ q=>q.mono Y.le;have bv:Hid (Sl h2 aY ab.size 4 ak):=by unfold Hid;rw[<-a5.out];exact aO
    have a3:=aa aj;have bm:=aa (L8 aj);clear Y aO aj;go_wp2_with(at_builtin;refine s9 iJ rfl _ _ rfl bz.out _ (1+ax (t.kids.take j)) vs rfl bp.out aY ab.size ak rfl bv.out bm.out (by omega) ?_;intro ct w3 bI bH b0 bO);go_roundw
    case rel=>
     refine⟨j+1,h2,vs++ak,by omega,by go_num,bI,?_,?_⟩;·rw[show 1+ax (t.kids.take (j+1))=1+ax (t.kids.take j)+ab.size by omega];exact bH
     ·rw[a8.out,<-List.cons_append];exact a1.out.append a3.out
    case measure=>simp[intOf];omega
   ·obtain rfl:j=t.kids.length:=by omega
    go_wp2_with fail;go_ret;rw[List.take_length]at O E⊢;have bA:St w.heap.size h w hj wr:=by have h1:=(St.refl aG.out).alloc (au #[af ae t.kind,ah t.text,ag al t.leads.length J,ag G t.kids.length ck] 26);rw[aL.out]at h1;exact h1.call S
    refine⟨_,rfl,_,bA.fr,vs,?_,?_⟩
    ·have bC:(fO t).length=1+ax t.kids:=by rw[r3];omega
     rw[bC];exact(O.base (B':=w.heap.size) (by omega)).sl (by omega)
    ·rw[Mu];exact E.mono fun _ _ q=>q.mono (Hp.gQ S.I)
end Go.Proofs.YtdplggpbgommnaaGreatDoor
