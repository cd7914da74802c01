/- semvcsref03.Replace at a kid. -/
import Derived.Test.YtdplggpbgommnaaGreatDoorG30
open Go.Lib renaming hid->aa
open Go.Value renaming int->af,slice->ag
open List renaming map_append->gO,mem_append->xm,mem_map->b6,mem_of_mem_take->My
open Nat renaming le_refl->kI
open Option.some renaming injEq->aC
set_option maxRecDepth 100000
set_option maxHeartbeats 2000000
namespace Go.Proofs.YtdplggpbgommnaaGreatDoor
open Go.RowKit
theorem Ow.LK{h:Hp}{w:World}{B k:Nat}{T:TypeId}(G:B<=w.heap.size)(J:ao h w):Ow (w.alloc (.cells #[] T)) h B T k (ag (some ⟨w.heap.size,0,none⟩) 0 0) 0 []:=
 ⟨⟨by simp,.inr ⟨w.heap.size,0,#[],rfl,G,heap_alloc_new w _,kI _,by decide,by simp,by simp⟩⟩,fun g e=>by simp only[Value.ownBlock,aC]at e;subst e;exact bI J _ (kI _)⟩
theorem Mr(h:Hp)(w:World)(aM:ao h w)(vl vm:Value)(L M:List Int)(Y:Ints h vl L)(hm:Ints h vm M)(bN:L.length<=120)(bO:M.length<=120)(k:Int)(bI:aG k)(hc:∀a c,vl=ag a L.length c->L.length<=c):Calls Tryz.prog 14 #[vl,af .i64 k,vm] w fun e w'=>∃va vb h' ta tb,e= .returned (.tuple #[va,vb])/\St w.heap.size h w h' w'/\hQ h' va ta/\hQ h' vb tb/\MP ta/\MP tb:=by
 have ax:=aa aM;have J:=aa Y;have aB:=aa hm;obtain⟨al,aL,rfl,bS,-⟩:=Y.open;obtain⟨bq,bC,rfl,bT,-⟩:=hm.open;have bR:=hc _ _ rfl;have G:(n0:Nat)->n0<=L.length->(n0:Int)<=(aL:Int):=fun n0 h=>by omega
 have bv:=HJ k ((L.length:Int)+1) (by omega);obtain⟨n,hn,aN⟩:∃n:Nat,oc k ((L.length:Int)+1)=(n:Int)/\n<=L.length:=⟨(oc k ((L.length:Int)+1)).toNat,by omega,by omega⟩
 have bJ:=bA (n:=(L.length:Int)+1) (by omega);have bV:(0:Int)<=(n:Int):=by omega
 have a1:(n:Int)<=(L.length:Int):=by omega
 have bX:=G n aN;clear aM Y hm bv G hc;have a2:=aa hn;clear hn;go_in;go_wp2_with fail;refine(HK _ k ((L.length:Int)+1) bI (by omega) (by omega)).mono ?_;rintro e w1 ⟨rfl,rfl⟩;rw[a2.out];clear bJ;have a8:=aa (Ow.LK (k:=1) (T:=3) (kI w.heap.size) ax.out)
 go_wp2_with(first
  |(at_builtin;refine s9 fP rfl _ _ rfl ((St.refl ax.out).alloc _) (ag (some ⟨w.heap.size,0,none⟩) 0 0) 0 [] rfl a8.out (ag al n aL) n ((L.map (af .i64)).take (n*1)) rfl (J.out.1.take n aN) (fun u ab=>by obtain⟨x,-,rfl⟩:=b6.1 (My ab);rfl) (by omega) ?_;intro a1 w2 aT aj bE bz;simp only[Nat.zero_add,List.nil_append]at aj;have bg:=aa aT;have a9:=aa aj;clear aT aj bE bz)
  |(at_builtin;refine s9 fP rfl _ _ rfl bg.out a1 n _ rfl a9.out (ag bq M.length bC) M.length (M.map (af .i64)) rfl aB.out.1 (fun u ab=>by obtain⟨x,-,rfl⟩:=b6.1 ab;rfl) (by omega) ?_;intro G w3 aV aS bG bB;have bm:=aa aV;have ba:=aa aS;clear aV aS bG bB))
 have aX:=bm.out.fr
 have aO:Ints (h.fr w.heap.size w3) G (L.take n++M):=by
  refine⟨?_,fun x hx=> ?_⟩;·have s:=ba.out.sl (by omega);rw[Nat.mul_one,<-List.map_take,<-gO]at s;rw[show(L.take n++M).length=n+M.length by simp;omega];exact s
  ·rcases xm.1 hx with hx|hx;·exact J.out.2 x (My hx)
   ·exact aB.out.2 x hx
 have a3:=aa aO;have O:=aa aX;clear aO aX;go_wp2_with fail;refine(Jo _ _ O.out.I _ L (J.out.mono O.out.le) (by omega)).mono ?_;rintro e bY ⟨va,bL,ta,rfl,ak,aY,aP⟩;have aJ:=aa (O.out.call ak);have bp:=aa aY;have a5:=aa aP;have a4:=aa ak.le;clear ak aY aP;go_wp2_with fail;refine(Jo _ _ aJ.out.I _ (L.take n++M) (a3.out.mono a4.out) (by simp;omega)).mono ?_;rintro e bZ ⟨vb,bH,tb,rfl,am,aZ,aQ⟩;have bd:=aa (aJ.out.call am);have R:=aa (show _/\_/\_ from⟨bp.out.mono am.le,aZ,aQ⟩);clear am aZ aQ;go_wp2_with fail;go_ret2;exact⟨va,vb,bH,ta,tb,rfl,bd.out,R.out.1,R.out.2.1,a5.out,R.out.2.2⟩
mutual
theorem uC:∀(t:Tree),iZ t=(fO t).map Tree.kind
 | .node k s l G=>by rw[iZ,fO,List.map_cons,Ju G];rfl
theorem Ju:∀(ts:List Tree),ja ts=(kL ts).map Tree.kind
 |[]=>by rw[ja,kL];rfl
 |t::ts=>by rw[ja,kL,gO,uC t,Ju ts]
end
def kz(rs:List (List (Int×Int)))(sz:Nat->Nat)(i j:Nat)(seen:List (Int×Int)):Prop:=
 ∀q∈seen,0<=q.1/\∃m n,(m<i/\n<sz m\/m=i/\n<j)/\(rs.getD m []).getD n (-1,0)=q
section
variable {rs:List (List (Int×Int))} {sz:Nat->Nat} {i j:Nat} {seen:List (Int×Int)}
theorem kz.start:kz rs sz 0 0 []:=fun q h=>by cases h
theorem kz.skip(h:kz rs sz i j seen):kz rs sz i (j+1) seen:=fun q G=>by obtain⟨a,m,n,b,c⟩:=h q G;exact⟨a,m,n,by omega,c⟩
theorem kz.push(h:kz rs sz i j seen)(J:0<=((rs.getD i []).getD j (-1,0)).1):kz rs sz i (j+1) (seen++[(rs.getD i []).getD j (-1,0)]):=fun q G=>by
 rcases xm.1 G with G|G;·exact h.skip q G
 ·rw[List.mem_singleton.1 G];exact⟨J,i,j,.inr ⟨rfl,by omega⟩,rfl⟩
theorem kz.row(h:kz rs sz i (sz i) seen):kz rs sz (i+1) 0 seen:=fun q G=>by
 obtain⟨a,m,n,b,c⟩:=h q G;refine⟨a,m,n,.inl ?_,c⟩;rcases b with b|⟨rfl,b⟩;·exact⟨by omega,b.2⟩
 ·exact⟨by omega,b⟩
theorem kz.new{ot nt:List Tree}{U:Nat->Nat->Prop}{s:bp}(o:eF ot nt U s)(h:kz s.rs (fun m=>(nt.getD m default).size) i j seen)(G:i<nt.length)(hj:j<(nt.getD i default).size):∀q∈seen,q≠(s.rs.getD i []).getD j (-1,0):=fun q J e=>by
 obtain⟨a,m,n,b,c⟩:=h q J;have hm:m<nt.length:=by omega
 have hn:n<(nt.getD m default).size:=by
  rcases b with b|⟨rfl,b⟩;·exact b.2
  ·omega
 have:=o.inj m n i j hm hn G hj (by rw[c];exact a) (by rw[c,e]);omega
end
end Go.Proofs.YtdplggpbgommnaaGreatDoor
