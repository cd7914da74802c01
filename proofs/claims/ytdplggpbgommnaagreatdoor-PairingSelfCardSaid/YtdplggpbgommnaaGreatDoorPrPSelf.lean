/- PairingSelf: a program with different names is paired with itself, node by node, without cost; for every list of numbers. -/
import Derived.Test.YtdplggpbgommnaaGreatDoorG35
import Derived.Test.YtdplggpbgommnaaGreatDoorCards
import Derived.Test.YtdplggpbgommnaaGreatDoorTie
open Go renaming LaidIn→pC,laidMetH→wk,laidMet→oF
open Go.LaidIn renaming of_run→KM
open Go.Lib renaming goPrintTabs→fL,laidIn_slice→sV,sliceData→mz
open Go.Pinned renaming isGraphicZ→Ck
open Go.Proofs.Tryz renaming checked→Cl,f6→nA,func6→sU,params6→Cj,prog→ai,quoL_ren→dM
open Go.Value renaming slice→ag
open Option.some renaming inj→aU
set_option maxRecDepth 1000000
namespace Go.Proofs.YtdplggpbgommnaaGreatDoor.pairingSelf
open Go.ChangeShapes Go.WideShapes Go.ChangeAt Go.RowKit Go.Lib
theorem kI(H:Type)(enc:TypeId×Value→H)(W:World)(base:Nat)(args:Array Value)(ds gs:List (DataW H))(ac:List MemPlace)(ab:∀(j:Nat) t v,nA.params[j]? =some t→args[j]? =some v→Value.okWide ai W .any base t v)(Y:DataW.Whole enc ai nA.params.toList Rows.pairingSelfSpec.vars false W args.toList ds gs ac)(A:oF ai Rows.pairingSelfRow.laid W):Calls ai 6 args W fun e G=>∃v,e= .returned v∧Rows.pairingSelfSpec.post enc ai nA false true false false W args v G:=by
 have E:=F3 A;have ao:=Y;obtain⟨p,q,aj,am,rfl,aS,aV⟩:=Y;have O:DataW.TrodAll enc ai W 0 (fun _=>true) true nA.params.toList args.toList ds p:=aj;rw[Cj]at O ab;obtain⟨v0,aZ,aN,aO,aX,aY,aP,rfl,rfl,ad,r0⟩:=trodAll_cons O;obtain⟨rfl,rfl,rfl⟩:=trodAll_nil r0;obtain rfl:args= #[v0]:=by cases args;simp_all
 obtain⟨rfl,rfl⟩:=trodVars_none am;obtain⟨a,n,M,rfl,aT,aQ,ak⟩:=EL (ab 0 34 v0 rfl rfl) ad
 have aM:Calls ai 6 #[ag a n M] W fun e w'=>e= .returned (.bool true)∧Below W.heap.size W w':=by
  by_cases aG:n≤120;·obtain⟨L,rfl,A⟩:=ak (by omega);exact Ju _ _ (bi W) W (Ex W) E _ L A aG
  ·exact Jt _ _ W E a n M (by omega) (by omega)
 refine aM.mono fun e G ⟨aB,ax⟩=> ?_;subst aB;refine⟨_,rfl,EC (T:=4) EH ?_ rfl (by kernel_rfl) Tryz.underlying4 ao rfl ax⟩;rw[Cj];intro t aJ;have aL:t=34:=by simpa using aJ
 subst aL;exact⟨by kernel_rfl,of_decide_eq_true (by kernel_rfl)⟩
def jf:Nat→DataW Unit→List Value
 |0,_=>[]
 |_+1,DataW.lit (.int k z)=>[.int k z]
 |n+1,DataW.agg l=>l.flatMap (jf n)
 |n+1,DataW.slice l _=>l.flatMap (jf n)
 |_,_=>[]
noncomputable def gh (s:String):Nat:=(ai.globalNamed s).getD 0
noncomputable def l9 (os:Os):World:=
 let N:=(World.settled ai os).heap.size;let ρ:=dM
 let w0:=World.holding ai os ⟨#[
  .cells (jf 3 Rows.laid_strconv_isGraphic).toArray (ρ.t 49),.cells (jf 3 Rows.laid_strconv_isNotPrint16).toArray (ρ.t 49),.cells (jf 3 Rows.laid_strconv_isNotPrint32).toArray (ρ.t 49),
  .cells (jf 3 Rows.laid_strconv_isPrint16).toArray (ρ.t 49),.cells (jf 3 Rows.laid_strconv_isPrint32).toArray (ρ.t 51)],#[],[]⟩
 let put (h:Array Obj) (g:Nat) (cs:Array Value):Array Obj:=h.modify g fun
  | .cells _ t frozen=> .cells cs t frozen
  |o=>o
 let h0:=put w0.heap (gh "math/bits.deBruijn32tab") (jf 3 Rows.laid_math_bits_deBruijn32tab).toArray;let h1:=put h0 (gh "math/bits.deBruijn64tab") (jf 3 Rows.laid_math_bits_deBruijn64tab).toArray;let h2:=put h1 (gh "internal/strconv.uint64pow10") (jf 3 Rows.laid_internal_strconv_uint64pow10).toArray;let h3:=put h2 (gh "unicode/utf8.acceptRanges") (jf 4 Rows.laid_unicode_utf8_acceptRanges).toArray;let h4:=put h3 (gh "strconv.isGraphic") #[ag (some ⟨N,0,none⟩) (jf 3 Rows.laid_strconv_isGraphic).length (jf 3 Rows.laid_strconv_isGraphic).length];let h5:=put h4 (gh "strconv.isNotPrint16") #[ag (some ⟨N+1,0,none⟩) fL.n16.length fL.n16.length];let h6:=put h5 (gh "strconv.isNotPrint32") #[ag (some ⟨N+2,0,none⟩) fL.n32.length fL.n32.length];let h7:=put h6 (gh "strconv.isPrint16") #[ag (some ⟨N+3,0,none⟩) fL.p16.length fL.p16.length];let h8:=put h7 (gh "strconv.isPrint32") #[ag (some ⟨N+4,0,none⟩) fL.p32.length fL.p32.length];let h9:=put h8 (gh "unicode/utf8.first") (jf 3 Rows.laid_unicode_utf8_first).toArray
 {w0 with heap:=h9}
noncomputable abbrev N0:Nat:=(World.settled ai default).heap.size
theorem JO(os:Os)(args:Array Value):pC ai ((l9 os).forCall (fun _ _=>0) ⟨#[],args,[]⟩).memory (Rows.pairingSelfRow.laid.take 4) [gh "math/bits.deBruijn32tab",gh "math/bits.deBruijn64tab",gh "internal/strconv.uint64pow10",gh "unicode/utf8.acceptRanges"]:=
 KM _ 8 (by kernel_rfl) (by kernel_rfl) (by kernel_rfl) (by kernel_rfl)
theorem JP(os:Os)(args:Array Value):pC ai ((l9 os).forCall (fun _ _=>0) ⟨#[],args,[]⟩).memory (Rows.pairingSelfRow.laid.drop 9) [gh "unicode/utf8.first"]:=
 KM _ 8 (by kernel_rfl) (by kernel_rfl) (by kernel_rfl) (by kernel_rfl)
theorem JQ(os:Os)(args:Array Value):pC ai ((l9 os).forCall (fun _ _=>0) ⟨#[],args,[]⟩).memory [("strconv.isNotPrint16",mz .u16 fL.n16)] [gh "strconv.isNotPrint16",N0+1]:=
 sV (t:=dM.t 234) (e:=dM.t 49) (te:=dM.t 49) fL.n16 (N0+1) (by kernel_rfl) (by kernel_rfl) (by kernel_rfl) (by kernel_rfl) (by kernel_rfl) (by kernel_rfl) (by kernel_rfl) (by kernel_rfl) (of_decide_eq_true (by kernel_rfl)) (of_decide_eq_true (by kernel_rfl))
theorem JR(os:Os)(args:Array Value):pC ai ((l9 os).forCall (fun _ _=>0) ⟨#[],args,[]⟩).memory [("strconv.isNotPrint32",mz .u16 fL.n32)] [gh "strconv.isNotPrint32",N0+2]:=
 sV (t:=dM.t 234) (e:=dM.t 49) (te:=dM.t 49) fL.n32 (N0+2) (by kernel_rfl) (by kernel_rfl) (by kernel_rfl) (by kernel_rfl) (by kernel_rfl) (by kernel_rfl) (by kernel_rfl) (by kernel_rfl) (of_decide_eq_true (by kernel_rfl)) (of_decide_eq_true (by kernel_rfl))
theorem JS(os:Os)(args:Array Value):pC ai ((l9 os).forCall (fun _ _=>0) ⟨#[],args,[]⟩).memory [("strconv.isPrint16",mz .u16 fL.p16)] [gh "strconv.isPrint16",N0+3]:=
 sV (t:=dM.t 234) (e:=dM.t 49) (te:=dM.t 49) fL.p16 (N0+3) (by kernel_rfl) (by kernel_rfl) (by kernel_rfl) (by kernel_rfl) (by kernel_rfl) (by kernel_rfl) (by kernel_rfl) (by kernel_rfl) (of_decide_eq_true (by kernel_rfl)) (of_decide_eq_true (by kernel_rfl))
theorem JT(os:Os)(args:Array Value):pC ai ((l9 os).forCall (fun _ _=>0) ⟨#[],args,[]⟩).memory [("strconv.isPrint32",mz .u32 fL.p32)] [gh "strconv.isPrint32",N0+4]:=
 sV (t:=dM.t 236) (e:=dM.t 51) (te:=dM.t 51) fL.p32 (N0+4) (by kernel_rfl) (by kernel_rfl) (by kernel_rfl) (by kernel_rfl) (by kernel_rfl) (by kernel_rfl) (by kernel_rfl) (by kernel_rfl) (of_decide_eq_true (by kernel_rfl)) (of_decide_eq_true (by kernel_rfl))
theorem JU(os:Os)(args:Array Value):pC ai ((l9 os).forCall (fun _ _=>0) ⟨#[],args,[]⟩).memory [("strconv.isGraphic",mz .u16 Ck)] [gh "strconv.isGraphic",N0+0]:=
 sV (t:=dM.t 234) (e:=dM.t 49) (te:=dM.t 49) Ck (N0+0) (by kernel_rfl) (by kernel_rfl) (by kernel_rfl) (by kernel_rfl) (by kernel_rfl) (by kernel_rfl) (by kernel_rfl) (by kernel_rfl) (of_decide_eq_true (by kernel_rfl)) (of_decide_eq_true (by kernel_rfl))
theorem JV(os:Os)(args:Array Value):oF ai Rows.pairingSelfRow.laid ((l9 os).forCall (fun _ _=>0) ⟨#[],args,[]⟩).memory:=by
 have h:=(((((((JO os args).append (JU os args) (by kernel_rfl)).append (JQ os args) (by kernel_rfl)).append (JR os args) (by kernel_rfl)).append (JS os args) (by kernel_rfl)).append (JT os args) (by kernel_rfl)).append (JP os args) (by kernel_rfl)).met;have e:(Rows.pairingSelfRow.laid.take 4++[("strconv.isGraphic",mz .u16 Ck)]++[("strconv.isNotPrint16",mz .u16 fL.n16)]++[("strconv.isNotPrint32",mz .u16 fL.n32)]++[("strconv.isPrint16",mz .u16 fL.p16)]++[("strconv.isPrint32",mz .u32 fL.p32)]++Rows.pairingSelfRow.laid.drop 9)=Rows.pairingSelfRow.laid:=by kernel_rfl
 rw[e]at h;exact h
theorem Bn(w:World):wk ai Rows.pairingSelfRow.laid w=oF ai Rows.pairingSelfRow.laid w:=MakeChecks.laidMetH_plain _ _ _ (by kernel_rfl)
theorem lifted(os:Os)(ab:os.Started)(H:Type)(enc:TypeId×Value→H):
  ReturnsInHanded {} Cl os 6 .any (fun w args=>(Rows.pairingSelfSpec.pre enc ai nA Rows.pairingSelfRow.domain false w args∧wk ai Rows.pairingSelfRow.laid w)∧sizedMet enc ai nA (OpenSpec.ofChange Rows.pairingSelfSpec) false w args) (Rows.pairingSelfSpec.post enc ai nA false true false false):=by
 refine returnsInHanded_of_change_and (C:=Cl) (X:=fun w _=>wk ai Rows.pairingSelfRow.laid w) (fun _ _ _ O h=>h.of_heap O) EI ab (by kernel_rfl) sU (ChangeSpec.witness_shaped (enc:=enc) (C:=Cl) (os:=os) (X:=fun w _=>wk ai Rows.pairingSelfRow.laid w) false (l9 os) #[ag none 0 0] 8 rfl (World.shaped_of_RefB (by kernel_rfl) (by kernel_rfl)) (by kernel_rfl) (by kernel_rfl) (by kernel_rfl) (by rw[Bn];exact JV os _)) ?_
 intro W base args ds gs A Y M _ _ E _;have G:oF ai Rows.pairingSelfRow.laid W:=by rw[←Bn];exact E
 exact kI H enc W base args ds gs A Y M G
theorem said:Rows.PairingSelfSaid:=
 OpenClaim.holds_of_wide 6 nA rfl rfl rfl rfl rfl rfl rfl ⟨rfl,rfl,rfl,rfl,rfl⟩ rfl rfl rfl rfl rfl (by kernel_rfl) sU (by kernel_rfl)
  (of_decide_eq_true (by kernel_rfl)) (by unfold Func.isWrapper;first|(rw[if_pos (by decide+kernel)];kernel_rfl)|(rw[if_neg (by decide+kernel)];exact⟨rfl,rfl⟩))
  (fun os A H enc _=>lifted os A H enc)
theorem proved:Rows.PairingSelfCardSaid:=
 Claim7.holds_tied_plain_at .later [] [.data,.data,.data,.data,.pinned,.pinned,.pinned,.pinned,.pinned,.pinned] true (true,"1007eadc39c3b2980903ce8b276563a895ca10cdc9920775fee60c31771816f5") false
  said (fun _ h=>by cases h) (by kernel_rfl) (fun _ h=>by cases h) pairingSelf_row_tie rfl ⟨rfl,rfl⟩ (by kernel_rfl) rfl
  (fun f E M O=>by
   obtain rfl:f=6:=aU ((show ai.funcNamed "semvcs/semvcslaw20.PairingSelf" =some 6 by kernel_rfl).symm.trans M)|>.symm;obtain rfl:E=nA:=(aU (sU.symm.trans O)).symm
   exact⟨by kernel_rfl,fun j t A=>by
    rw[Cj]at A;have Y:t∈[34]:=by simpa using Array.mem_of_getElem? A
    have G:([34].all fun u=> !ai.wantsStandIn u)=true:=by kernel_rfl
    exact(show ai.wantsStandIn t=false by simpa using List.all_eq_true.1 G t Y)⟩)
  (by kernel_rfl)
#print axioms proved
end Go.Proofs.YtdplggpbgommnaaGreatDoor.pairingSelf
