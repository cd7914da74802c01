/- PairingNames: a definition that gets a name that occurs nowhere is paired with itself, node by node, at cost 1; for every list of numbers. -/
import Derived.Test.YtdplggpbgommnaaGreatDoorG33
import Derived.Test.YtdplggpbgommnaaGreatDoorCards
import Derived.Test.YtdplggpbgommnaaGreatDoorTie
open Go renaming LaidIn->pC,laidMetH->wk,laidMet->oF
open Go.LaidIn renaming of_run->KM
open Go.Lib renaming goPrintTabs->fL,laidIn_slice->sV,sliceData->mz
open Go.Pinned renaming isGraphicZ->Ck
open Go.Proofs.Tryz renaming checked->Cl,f7->K7,func7->LS,params7->LR,prog->ai,quoL_ren->dM
open Go.Value renaming int->af,slice->ag
open Option.some renaming inj->aU
set_option maxRecDepth 1000000
namespace Go.Proofs.YtdplggpbgommnaaGreatDoor.pairingNames
open Go.ChangeShapes Go.WideShapes Go.ChangeAt Go.RowKit Go.Lib
theorem contract(H:Type)(enc:TypeId×Value->H)(W:World)(base:Nat)(args:Array Value)(ds gs:List (DataW H))(before:List MemPlace)(hval:∀(j:Nat) t v,K7.params[j]? =some t->args[j]? =some v->Value.okWide ai W .any base t v)(aj:DataW.Whole enc ai K7.params.toList Rows.pairingNamesSpec.vars false W args.toList ds gs before)(J:oF ai Rows.pairingNamesRow.laid W):Calls ai 7 args W fun e Y=>∃v,e= .returned v/\Rows.pairingNamesSpec.post enc ai K7 false true false false W args v Y:=by
 have O:=F3 J;have aJ:=aj;obtain⟨p,q,ax,aG,rfl,aZ,a2⟩:=aj;have hA:DataW.TrodAll enc ai W 0 (fun _=>true) true K7.params.toList args.toList ds p:=ax;rw[LR]at hA hval;obtain⟨v0,bd,d0,aS,a3,a8,aX,rfl,rfl,ao,r0⟩:=trodAll_cons hA;obtain⟨ak,bg,aP,aT,a4,a9,rfl,rfl,rfl,h1,r1⟩:=trodAll_cons r0;obtain⟨am,bm,aQ,aV,a5,ba,rfl,rfl,rfl,h2,r2⟩:=trodAll_cons r1;obtain⟨rfl,rfl,rfl⟩:=trodAll_nil r2;obtain rfl:args= #[v0,ak,am]:=by cases args;simp_all
 obtain⟨rfl,rfl⟩:=trodVars_none aG;obtain⟨a,n,ab,rfl,a1,aY,aB⟩:=EL (hval 0 34 v0 rfl rfl) ao;obtain⟨md,rfl,aO⟩:=LC (hval 1 3 ak rfl rfl) h1;obtain⟨G,rfl,id⟩:=LC (hval 2 3 am rfl rfl) h2
 have key:Calls ai 7 #[ag a n ab,af .i64 md,af .i64 G] W fun e w'=>e= .returned (.bool true)/\Below W.heap.size W w':=by
  by_cases hn:n<=120;·obtain⟨L,rfl,J⟩:=aB (by omega);exact L3 _ _ (bi W) W (Ex W) O _ L J hn md G aO id
  ·exact L1 _ _ W O a n ab md G (by omega) (by omega)
 refine key.mono fun e Y ⟨he,aL⟩=> ?_;subst he;refine⟨_,rfl,EC (T:=4) EH ?_ rfl (by kernel_rfl) Tryz.underlying4 aJ rfl aL⟩;rw[LR];intro t aM;have aN:t=34\/t=3\/t=3:=by simpa using aM
 rcases aN with rfl|rfl|rfl<;>exact⟨by kernel_rfl,of_decide_eq_true (by kernel_rfl)⟩
def jf:Nat->DataW Unit->List Value
 |0,_=>[]
 |_+1,DataW.lit (.int k z)=>[af k z]
 |n+1,DataW.agg l=>l.flatMap (jf n)
 |n+1,DataW.slice l _=>l.flatMap (jf n)
 |_,_=>[]
noncomputable def gh (s:String):Nat:=(ai.globalNamed s).getD 0
noncomputable def l9 (os:Os):World:=
 let N:=(World.settled ai os).heap.size;let ρ:=dM
 let w0:=World.holding ai os ⟨#[
  .cells (jf 3 Rows.laid_strconv_isGraphic).toArray (ρ.t 49),.cells (jf 3 Rows.laid_strconv_isNotPrint16).toArray (ρ.t 49),.cells (jf 3 Rows.laid_strconv_isNotPrint32).toArray (ρ.t 49),
  .cells (jf 3 Rows.laid_strconv_isPrint16).toArray (ρ.t 49),.cells (jf 3 Rows.laid_strconv_isPrint32).toArray (ρ.t 51)],#[],[]⟩
 let put (h:Array Obj) (g:Nat) (cs:Array Value):Array Obj:=h.modify g fun
  | .cells _ t frozen=> .cells cs t frozen
  |o=>o
 let h0:=put w0.heap (gh "math/bits.deBruijn32tab") (jf 3 Rows.laid_math_bits_deBruijn32tab).toArray;let h1:=put h0 (gh "math/bits.deBruijn64tab") (jf 3 Rows.laid_math_bits_deBruijn64tab).toArray;let h2:=put h1 (gh "internal/strconv.uint64pow10") (jf 3 Rows.laid_internal_strconv_uint64pow10).toArray;let h3:=put h2 (gh "unicode/utf8.acceptRanges") (jf 4 Rows.laid_unicode_utf8_acceptRanges).toArray;let h4:=put h3 (gh "strconv.isGraphic") #[ag (some ⟨N,0,none⟩) (jf 3 Rows.laid_strconv_isGraphic).length (jf 3 Rows.laid_strconv_isGraphic).length];let h5:=put h4 (gh "strconv.isNotPrint16") #[ag (some ⟨N+1,0,none⟩) fL.n16.length fL.n16.length];let h6:=put h5 (gh "strconv.isNotPrint32") #[ag (some ⟨N+2,0,none⟩) fL.n32.length fL.n32.length];let h7:=put h6 (gh "strconv.isPrint16") #[ag (some ⟨N+3,0,none⟩) fL.p16.length fL.p16.length];let h8:=put h7 (gh "strconv.isPrint32") #[ag (some ⟨N+4,0,none⟩) fL.p32.length fL.p32.length];let h9:=put h8 (gh "unicode/utf8.first") (jf 3 Rows.laid_unicode_utf8_first).toArray
 {w0 with heap:=h9}
noncomputable abbrev N0:Nat:=(World.settled ai default).heap.size
theorem JO(os:Os)(args:Array Value):pC ai ((l9 os).forCall (fun _ _=>0) ⟨#[],args,[]⟩).memory (Rows.pairingNamesRow.laid.take 4) [gh "math/bits.deBruijn32tab",gh "math/bits.deBruijn64tab",gh "internal/strconv.uint64pow10",gh "unicode/utf8.acceptRanges"]:=
 KM _ 8 (by kernel_rfl) (by kernel_rfl) (by kernel_rfl) (by kernel_rfl)
theorem JP(os:Os)(args:Array Value):pC ai ((l9 os).forCall (fun _ _=>0) ⟨#[],args,[]⟩).memory (Rows.pairingNamesRow.laid.drop 9) [gh "unicode/utf8.first"]:=
 KM _ 8 (by kernel_rfl) (by kernel_rfl) (by kernel_rfl) (by kernel_rfl)
theorem JQ(os:Os)(args:Array Value):pC ai ((l9 os).forCall (fun _ _=>0) ⟨#[],args,[]⟩).memory [("strconv.isNotPrint16",mz .u16 fL.n16)] [gh "strconv.isNotPrint16",N0+1]:=
 sV (t:=dM.t 234) (e:=dM.t 49) (te:=dM.t 49) fL.n16 (N0+1) (by kernel_rfl) (by kernel_rfl) (by kernel_rfl) (by kernel_rfl) (by kernel_rfl) (by kernel_rfl) (by kernel_rfl) (by kernel_rfl) (of_decide_eq_true (by kernel_rfl)) (of_decide_eq_true (by kernel_rfl))
theorem JR(os:Os)(args:Array Value):pC ai ((l9 os).forCall (fun _ _=>0) ⟨#[],args,[]⟩).memory [("strconv.isNotPrint32",mz .u16 fL.n32)] [gh "strconv.isNotPrint32",N0+2]:=
 sV (t:=dM.t 234) (e:=dM.t 49) (te:=dM.t 49) fL.n32 (N0+2) (by kernel_rfl) (by kernel_rfl) (by kernel_rfl) (by kernel_rfl) (by kernel_rfl) (by kernel_rfl) (by kernel_rfl) (by kernel_rfl) (of_decide_eq_true (by kernel_rfl)) (of_decide_eq_true (by kernel_rfl))
theorem JS(os:Os)(args:Array Value):pC ai ((l9 os).forCall (fun _ _=>0) ⟨#[],args,[]⟩).memory [("strconv.isPrint16",mz .u16 fL.p16)] [gh "strconv.isPrint16",N0+3]:=
 sV (t:=dM.t 234) (e:=dM.t 49) (te:=dM.t 49) fL.p16 (N0+3) (by kernel_rfl) (by kernel_rfl) (by kernel_rfl) (by kernel_rfl) (by kernel_rfl) (by kernel_rfl) (by kernel_rfl) (by kernel_rfl) (of_decide_eq_true (by kernel_rfl)) (of_decide_eq_true (by kernel_rfl))
theorem JT(os:Os)(args:Array Value):pC ai ((l9 os).forCall (fun _ _=>0) ⟨#[],args,[]⟩).memory [("strconv.isPrint32",mz .u32 fL.p32)] [gh "strconv.isPrint32",N0+4]:=
 sV (t:=dM.t 236) (e:=dM.t 51) (te:=dM.t 51) fL.p32 (N0+4) (by kernel_rfl) (by kernel_rfl) (by kernel_rfl) (by kernel_rfl) (by kernel_rfl) (by kernel_rfl) (by kernel_rfl) (by kernel_rfl) (of_decide_eq_true (by kernel_rfl)) (of_decide_eq_true (by kernel_rfl))
theorem JU(os:Os)(args:Array Value):pC ai ((l9 os).forCall (fun _ _=>0) ⟨#[],args,[]⟩).memory [("strconv.isGraphic",mz .u16 Ck)] [gh "strconv.isGraphic",N0+0]:=
 sV (t:=dM.t 234) (e:=dM.t 49) (te:=dM.t 49) Ck (N0+0) (by kernel_rfl) (by kernel_rfl) (by kernel_rfl) (by kernel_rfl) (by kernel_rfl) (by kernel_rfl) (by kernel_rfl) (by kernel_rfl) (of_decide_eq_true (by kernel_rfl)) (of_decide_eq_true (by kernel_rfl))
theorem JV(os:Os)(args:Array Value):oF ai Rows.pairingNamesRow.laid ((l9 os).forCall (fun _ _=>0) ⟨#[],args,[]⟩).memory:=by
 have h:=(((((((JO os args).append (JU os args) (by kernel_rfl)).append (JQ os args) (by kernel_rfl)).append (JR os args) (by kernel_rfl)).append (JS os args) (by kernel_rfl)).append (JT os args) (by kernel_rfl)).append (JP os args) (by kernel_rfl)).met;have e:(Rows.pairingNamesRow.laid.take 4++[("strconv.isGraphic",mz .u16 Ck)]++[("strconv.isNotPrint16",mz .u16 fL.n16)]++[("strconv.isNotPrint32",mz .u16 fL.n32)]++[("strconv.isPrint16",mz .u16 fL.p16)]++[("strconv.isPrint32",mz .u32 fL.p32)]++Rows.pairingNamesRow.laid.drop 9)=Rows.pairingNamesRow.laid:=by kernel_rfl
 rw[e]at h;exact h
theorem Bn(w:World):wk ai Rows.pairingNamesRow.laid w=oF ai Rows.pairingNamesRow.laid w:=MakeChecks.laidMetH_plain _ _ _ (by kernel_rfl)
theorem lifted(os:Os)(ab:os.Started)(H:Type)(enc:TypeId×Value->H):
  ReturnsInHanded {} Cl os 7 .any (fun w args=>(Rows.pairingNamesSpec.pre enc ai K7 Rows.pairingNamesRow.domain false w args/\wk ai Rows.pairingNamesRow.laid w)/\sizedMet enc ai K7 (OpenSpec.ofChange Rows.pairingNamesSpec) false w args) (Rows.pairingNamesSpec.post enc ai K7 false true false false):=by
 refine returnsInHanded_of_change_and (C:=Cl) (X:=fun w _=>wk ai Rows.pairingNamesRow.laid w) (fun _ _ _ Y h=>h.of_heap Y) EI ab (by kernel_rfl) LS (ChangeSpec.witness_shaped (enc:=enc) (C:=Cl) (os:=os) (X:=fun w _=>wk ai Rows.pairingNamesRow.laid w) false (l9 os) #[ag none 0 0,af .i64 0,af .i64 0] 8 rfl (World.shaped_of_RefB (by kernel_rfl) (by kernel_rfl)) (by kernel_rfl) (by kernel_rfl) (by kernel_rfl) (by rw[Bn];exact JV os _)) ?_
 intro W base args ds gs before hval O _ _ G _;have J:oF ai Rows.pairingNamesRow.laid W:=by rw[<-Bn];exact G
 exact contract H enc W base args ds gs before hval O J
theorem said:Rows.PairingNamesSaid:=
 OpenClaim.holds_of_wide 7 K7 rfl rfl rfl rfl rfl rfl rfl ⟨rfl,rfl,rfl,rfl,rfl⟩ rfl rfl rfl rfl rfl (by kernel_rfl) LS (by kernel_rfl)
  (of_decide_eq_true (by kernel_rfl)) (by unfold Func.isWrapper;first|(rw[if_pos (by decide+kernel)];kernel_rfl)|(rw[if_neg (by decide+kernel)];exact⟨rfl,rfl⟩))
  (fun os G H enc _=>lifted os G H enc)
theorem proved:Rows.PairingNamesCardSaid:=
 Claim7.holds_tied_plain_at .later [] [.data,.data,.data,.data,.pinned,.pinned,.pinned,.pinned,.pinned,.pinned] true (true,"1007eadc39c3b2980903ce8b276563a895ca10cdc9920775fee60c31771816f5") false
  said (fun _ h=>by cases h) (by kernel_rfl) (fun _ h=>by cases h) pairingNames_row_tie rfl ⟨rfl,rfl⟩ (by kernel_rfl) rfl
  (fun f fn hf O=>by
   obtain rfl:f=7:=aU ((show ai.funcNamed "semvcs/semvcslaw20.PairingNames" =some 7 by kernel_rfl).symm.trans hf)|>.symm;obtain rfl:fn=K7:=(aU (LS.symm.trans O)).symm
   exact⟨by kernel_rfl,fun j t G=>by
    rw[LR]at G;have hm:t∈[34,3,3]:=by simpa using Array.mem_of_getElem? G
    have J:([34,3,3].all fun u=> !ai.wantsStandIn u)=true:=by kernel_rfl
    exact(show ai.wantsStandIn t=false by simpa using List.all_eq_true.1 J t hm)⟩)
  (by kernel_rfl)
#print axioms proved
end Go.Proofs.YtdplggpbgommnaaGreatDoor.pairingNames
