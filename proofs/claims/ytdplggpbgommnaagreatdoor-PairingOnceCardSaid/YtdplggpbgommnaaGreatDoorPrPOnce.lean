/- PairingOnce: nodes are paired at most once, with nodes of the same kind, and the bound is at most the cost; for every two lists of numbers. -/
import Derived.Test.YtdplggpbgommnaaGreatDoorVo
import Derived.Test.YtdplggpbgommnaaGreatDoorCards
import Derived.Test.YtdplggpbgommnaaGreatDoorTie
open Go renaming LaidIn->pC,laidMetH->wk,laidMet->oF
open Go.LaidIn renaming of_run->KM
open Go.Lib renaming goPrintTabs->fL,laidIn_slice->sV,sliceData->mz
open Go.Pinned renaming isGraphicZ->Ck
open Go.Proofs.Tryz renaming checked->Cl,f5->pd,func5->Mb,params5->Ma,prog->ai,quoL_ren->dM
open Go.Value renaming int->af,slice->ag
open Option.some renaming inj->aU
set_option maxRecDepth 1000000
namespace Go.Proofs.YtdplggpbgommnaaGreatDoor.pairingOnce
open Go.ChangeShapes Go.WideShapes Go.ChangeAt Go.RowKit Go.Lib
theorem contract(H:Type)(enc:TypeId×Value->H)(W:World)(base:Nat)(args:Array Value)(ds gs:List (DataW H))(before:List MemPlace)(hval:∀(j:Nat) t v,pd.params[j]? =some t->args[j]? =some v->Value.okWide ai W .any base t v)(ak:DataW.Whole enc ai pd.params.toList Rows.pairingOnceSpec.vars false W args.toList ds gs before)(G:oF ai Rows.pairingOnceRow.laid W):Calls ai 5 args W fun e Y=>∃v,e= .returned v/\Rows.pairingOnceSpec.post enc ai pd false true false false W args v Y:=by
 have O:=F3 G;have aP:=ak;obtain⟨p,q,aJ,aO,rfl,bm,bq⟩:=ak;have hA:DataW.TrodAll enc ai W 0 (fun _=>true) true pd.params.toList args.toList ds p:=aJ;rw[Ma]at hA hval;obtain⟨v0,bI,d0,a4,bv,bC,ba,rfl,rfl,aB,r0⟩:=trodAll_cons hA;obtain⟨am,bJ,a1,a5,bz,bE,rfl,rfl,rfl,h1,r1⟩:=trodAll_cons r0;obtain⟨ao,bL,a2,a8,bA,bG,rfl,rfl,rfl,h2,r2⟩:=trodAll_cons r1;obtain⟨ax,bN,a3,a9,bB,bH,rfl,rfl,rfl,aG,aZ⟩:=trodAll_cons r2;obtain⟨rfl,rfl,rfl⟩:=trodAll_nil aZ;obtain rfl:args= #[v0,am,ao,ax]:=by cases args;simp_all
 obtain⟨rfl,rfl⟩:=trodVars_none aO;obtain⟨a,n,ab,rfl,aS,bd,aL⟩:=EL (hval 0 34 v0 rfl rfl) aB;obtain⟨J,rfl,aY⟩:=LC (hval 1 3 am rfl rfl) h1;obtain⟨a',n',aj,rfl,bp,bg,aM⟩:=EL (hval 2 34 ao rfl rfl) h2;obtain⟨bu,rfl,aX⟩:=LC (hval 3 3 ax rfl rfl) aG
 have key:Calls ai 5 #[ag a n ab,af .i64 J,ag a' n' aj,af .i64 bu] W fun e w'=>e= .returned (.bool true)/\Below W.heap.size W w':=by
  by_cases hn:n<=120/\n'<=120;·obtain⟨L,rfl,G⟩:=aL (by omega);obtain⟨M,rfl,aN⟩:=aM (by omega);exact Ms _ _ (bi W) W (Ex W) O _ _ L M G aN hn.1 hn.2 (fun _ _ e=>by cases e;exact aS) J bu aY aX
  ·exact Mt _ _ W O a a' n n' ab aj J bu hn (by omega) (by omega)
 refine key.mono fun e Y ⟨he,aQ⟩=> ?_;subst he;refine⟨_,rfl,EC (T:=4) EH ?_ rfl (by kernel_rfl) Tryz.underlying4 aP rfl aQ⟩;rw[Ma];intro t aT;have aV:t=34\/t=3\/t=34\/t=3:=by simpa using aT
 rcases aV with rfl|rfl|rfl|rfl<;>exact⟨by kernel_rfl,of_decide_eq_true (by kernel_rfl)⟩
def jf:Nat->DataW Unit->List Value
 |0,_=>[]
 |_+1,DataW.lit (.int k z)=>[af k z]
 |n+1,DataW.agg l=>l.flatMap (jf n)
 |n+1,DataW.slice l _=>l.flatMap (jf n)
 |_,_=>[]
noncomputable def gh (s:String):Nat:=(ai.globalNamed s).getD 0
noncomputable def l9 (os:Os):World:=
 let N:=(World.settled ai os).heap.size;let ρ:=dM
 let w0:=World.holding ai os ⟨#[
  .cells (jf 3 Rows.laid_strconv_isGraphic).toArray (ρ.t 49),.cells (jf 3 Rows.laid_strconv_isNotPrint16).toArray (ρ.t 49),.cells (jf 3 Rows.laid_strconv_isNotPrint32).toArray (ρ.t 49),
  .cells (jf 3 Rows.laid_strconv_isPrint16).toArray (ρ.t 49),.cells (jf 3 Rows.laid_strconv_isPrint32).toArray (ρ.t 51)],#[],[]⟩
 let put (h:Array Obj) (g:Nat) (cs:Array Value):Array Obj:=h.modify g fun
  | .cells _ t frozen=> .cells cs t frozen
  |o=>o
 let h0:=put w0.heap (gh "math/bits.deBruijn32tab") (jf 3 Rows.laid_math_bits_deBruijn32tab).toArray;let h1:=put h0 (gh "math/bits.deBruijn64tab") (jf 3 Rows.laid_math_bits_deBruijn64tab).toArray;let h2:=put h1 (gh "internal/strconv.uint64pow10") (jf 3 Rows.laid_internal_strconv_uint64pow10).toArray;let h3:=put h2 (gh "unicode/utf8.acceptRanges") (jf 4 Rows.laid_unicode_utf8_acceptRanges).toArray;let h4:=put h3 (gh "strconv.isGraphic") #[ag (some ⟨N,0,none⟩) (jf 3 Rows.laid_strconv_isGraphic).length (jf 3 Rows.laid_strconv_isGraphic).length];let h5:=put h4 (gh "strconv.isNotPrint16") #[ag (some ⟨N+1,0,none⟩) fL.n16.length fL.n16.length];let h6:=put h5 (gh "strconv.isNotPrint32") #[ag (some ⟨N+2,0,none⟩) fL.n32.length fL.n32.length];let h7:=put h6 (gh "strconv.isPrint16") #[ag (some ⟨N+3,0,none⟩) fL.p16.length fL.p16.length];let h8:=put h7 (gh "strconv.isPrint32") #[ag (some ⟨N+4,0,none⟩) fL.p32.length fL.p32.length];let h9:=put h8 (gh "unicode/utf8.first") (jf 3 Rows.laid_unicode_utf8_first).toArray
 {w0 with heap:=h9}
noncomputable abbrev N0:Nat:=(World.settled ai default).heap.size
theorem JO(os:Os)(args:Array Value):pC ai ((l9 os).forCall (fun _ _=>0) ⟨#[],args,[]⟩).memory (Rows.pairingOnceRow.laid.take 4) [gh "math/bits.deBruijn32tab",gh "math/bits.deBruijn64tab",gh "internal/strconv.uint64pow10",gh "unicode/utf8.acceptRanges"]:=
 KM _ 8 (by kernel_rfl) (by kernel_rfl) (by kernel_rfl) (by kernel_rfl)
theorem JP(os:Os)(args:Array Value):pC ai ((l9 os).forCall (fun _ _=>0) ⟨#[],args,[]⟩).memory (Rows.pairingOnceRow.laid.drop 9) [gh "unicode/utf8.first"]:=
 KM _ 8 (by kernel_rfl) (by kernel_rfl) (by kernel_rfl) (by kernel_rfl)
theorem JQ(os:Os)(args:Array Value):pC ai ((l9 os).forCall (fun _ _=>0) ⟨#[],args,[]⟩).memory [("strconv.isNotPrint16",mz .u16 fL.n16)] [gh "strconv.isNotPrint16",N0+1]:=
 sV (t:=dM.t 234) (e:=dM.t 49) (te:=dM.t 49) fL.n16 (N0+1) (by kernel_rfl) (by kernel_rfl) (by kernel_rfl) (by kernel_rfl) (by kernel_rfl) (by kernel_rfl) (by kernel_rfl) (by kernel_rfl) (of_decide_eq_true (by kernel_rfl)) (of_decide_eq_true (by kernel_rfl))
theorem JR(os:Os)(args:Array Value):pC ai ((l9 os).forCall (fun _ _=>0) ⟨#[],args,[]⟩).memory [("strconv.isNotPrint32",mz .u16 fL.n32)] [gh "strconv.isNotPrint32",N0+2]:=
 sV (t:=dM.t 234) (e:=dM.t 49) (te:=dM.t 49) fL.n32 (N0+2) (by kernel_rfl) (by kernel_rfl) (by kernel_rfl) (by kernel_rfl) (by kernel_rfl) (by kernel_rfl) (by kernel_rfl) (by kernel_rfl) (of_decide_eq_true (by kernel_rfl)) (of_decide_eq_true (by kernel_rfl))
theorem JS(os:Os)(args:Array Value):pC ai ((l9 os).forCall (fun _ _=>0) ⟨#[],args,[]⟩).memory [("strconv.isPrint16",mz .u16 fL.p16)] [gh "strconv.isPrint16",N0+3]:=
 sV (t:=dM.t 234) (e:=dM.t 49) (te:=dM.t 49) fL.p16 (N0+3) (by kernel_rfl) (by kernel_rfl) (by kernel_rfl) (by kernel_rfl) (by kernel_rfl) (by kernel_rfl) (by kernel_rfl) (by kernel_rfl) (of_decide_eq_true (by kernel_rfl)) (of_decide_eq_true (by kernel_rfl))
theorem JT(os:Os)(args:Array Value):pC ai ((l9 os).forCall (fun _ _=>0) ⟨#[],args,[]⟩).memory [("strconv.isPrint32",mz .u32 fL.p32)] [gh "strconv.isPrint32",N0+4]:=
 sV (t:=dM.t 236) (e:=dM.t 51) (te:=dM.t 51) fL.p32 (N0+4) (by kernel_rfl) (by kernel_rfl) (by kernel_rfl) (by kernel_rfl) (by kernel_rfl) (by kernel_rfl) (by kernel_rfl) (by kernel_rfl) (of_decide_eq_true (by kernel_rfl)) (of_decide_eq_true (by kernel_rfl))
theorem JU(os:Os)(args:Array Value):pC ai ((l9 os).forCall (fun _ _=>0) ⟨#[],args,[]⟩).memory [("strconv.isGraphic",mz .u16 Ck)] [gh "strconv.isGraphic",N0+0]:=
 sV (t:=dM.t 234) (e:=dM.t 49) (te:=dM.t 49) Ck (N0+0) (by kernel_rfl) (by kernel_rfl) (by kernel_rfl) (by kernel_rfl) (by kernel_rfl) (by kernel_rfl) (by kernel_rfl) (by kernel_rfl) (of_decide_eq_true (by kernel_rfl)) (of_decide_eq_true (by kernel_rfl))
theorem JV(os:Os)(args:Array Value):oF ai Rows.pairingOnceRow.laid ((l9 os).forCall (fun _ _=>0) ⟨#[],args,[]⟩).memory:=by
 have h:=(((((((JO os args).append (JU os args) (by kernel_rfl)).append (JQ os args) (by kernel_rfl)).append (JR os args) (by kernel_rfl)).append (JS os args) (by kernel_rfl)).append (JT os args) (by kernel_rfl)).append (JP os args) (by kernel_rfl)).met;have e:(Rows.pairingOnceRow.laid.take 4++[("strconv.isGraphic",mz .u16 Ck)]++[("strconv.isNotPrint16",mz .u16 fL.n16)]++[("strconv.isNotPrint32",mz .u16 fL.n32)]++[("strconv.isPrint16",mz .u16 fL.p16)]++[("strconv.isPrint32",mz .u32 fL.p32)]++Rows.pairingOnceRow.laid.drop 9)=Rows.pairingOnceRow.laid:=by kernel_rfl
 rw[e]at h;exact h
theorem Bn(w:World):wk ai Rows.pairingOnceRow.laid w=oF ai Rows.pairingOnceRow.laid w:=MakeChecks.laidMetH_plain _ _ _ (by kernel_rfl)
theorem lifted(os:Os)(ab:os.Started)(H:Type)(enc:TypeId×Value->H):
  ReturnsInHanded {} Cl os 5 .any (fun w args=>(Rows.pairingOnceSpec.pre enc ai pd Rows.pairingOnceRow.domain false w args/\wk ai Rows.pairingOnceRow.laid w)/\sizedMet enc ai pd (OpenSpec.ofChange Rows.pairingOnceSpec) false w args) (Rows.pairingOnceSpec.post enc ai pd false true false false):=by
 refine returnsInHanded_of_change_and (C:=Cl) (X:=fun w _=>wk ai Rows.pairingOnceRow.laid w) (fun _ _ _ Y h=>h.of_heap Y) EI ab (by kernel_rfl) Mb (ChangeSpec.witness_shaped (enc:=enc) (C:=Cl) (os:=os) (X:=fun w _=>wk ai Rows.pairingOnceRow.laid w) false (l9 os) #[ag none 0 0,af .i64 0,ag none 0 0,af .i64 0] 8 rfl (World.shaped_of_RefB (by kernel_rfl) (by kernel_rfl)) (by kernel_rfl) (by kernel_rfl) (by kernel_rfl) (by rw[Bn];exact JV os _)) ?_
 intro W base args ds gs before hval O _ _ G _;have J:oF ai Rows.pairingOnceRow.laid W:=by rw[<-Bn];exact G
 exact contract H enc W base args ds gs before hval O J
theorem said:Rows.PairingOnceSaid:=
 OpenClaim.holds_of_wide 5 pd rfl rfl rfl rfl rfl rfl rfl ⟨rfl,rfl,rfl,rfl,rfl⟩ rfl rfl rfl rfl rfl (by kernel_rfl) Mb (by kernel_rfl)
  (of_decide_eq_true (by kernel_rfl)) (by unfold Func.isWrapper;first|(rw[if_pos (by decide+kernel)];kernel_rfl)|(rw[if_neg (by decide+kernel)];exact⟨rfl,rfl⟩))
  (fun os G H enc _=>lifted os G H enc)
theorem proved:Rows.PairingOnceCardSaid:=
 Claim7.holds_tied_plain_at .later [] [.data,.data,.data,.data,.pinned,.pinned,.pinned,.pinned,.pinned,.pinned] true (true,"1007eadc39c3b2980903ce8b276563a895ca10cdc9920775fee60c31771816f5") false
  said (fun _ h=>by cases h) (by kernel_rfl) (fun _ h=>by cases h) pairingOnce_row_tie rfl ⟨rfl,rfl⟩ (by kernel_rfl) rfl
  (fun f fn hf O=>by
   obtain rfl:f=5:=aU ((show ai.funcNamed "semvcs/semvcslaw20.PairingOnce" =some 5 by kernel_rfl).symm.trans hf)|>.symm;obtain rfl:fn=pd:=(aU (Mb.symm.trans O)).symm
   exact⟨by kernel_rfl,fun j t G=>by
    rw[Ma]at G;have hm:t∈[34,3,34,3]:=by simpa using Array.mem_of_getElem? G
    have J:([34,3,34,3].all fun u=> !ai.wantsStandIn u)=true:=by kernel_rfl
    exact(show ai.wantsStandIn t=false by simpa using List.all_eq_true.1 J t hm)⟩)
  (by kernel_rfl)
#print axioms proved
end Go.Proofs.YtdplggpbgommnaaGreatDoor.pairingOnce
