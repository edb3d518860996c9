/- Part. -/
import Derived.Test.YtmofclmogldnjaaGreatDoorCbv
import Derived.Test.YtmofclmogldnjaaGreatDoorCbq
import Derived.Test.YtmofclmogldnjaaGreatDoorProg
set_option maxRecDepth 999999
set_option maxHeartbeats 0
set_option linter.all false
section
namespace Go.Am.Fe
open Go.Proofs
set_option maxRecDepth 1000000
attribute [local instance] Go.Cm.wi0
def ZIl {rest:Nat->Option Fn} (hr:FnOK Tryz.prog rest): ∀{tab:List (Nat×SFunc)},(∀p∈tab,ZiH Tryz.prog p.1 p.2=true)->FnOK Tryz.prog (look tab rest)
 | [],_=>hr
 | (k,F)::l,h=>fun f=>by
   unfold look;by_cases hk:Nat.beq k f=true
   · rw [if_pos hk];have:=qE hk;subst this;exact h (k,F) Yr
   · rw [if_neg hk];exact ZIl hr (fun p hp=>h p (Yk _ hp)) f
def ZLL {S:Nat->Option Fn} (h:FnOK Tryz.prog S):FnOK Tryz.prog (ZBP S):=ZIl (ZIl (ZIl (ZIl (ZIl h (ZnL ZuV)) (ZnL Zud)) (ZnL Zu7)) (ZnL ZuQ)) (ZnL Zul)
def S0:Nat->Option Fn:=ZBP fun _=>none
def ZNW:FnOK Tryz.prog S0:=ZLL fun _=>trivial
def ZNC (n:Nat):Zcv Tryz.prog (call S0 n):=ZlN ZNW n
def ZNL (f:Nat) (p:List A->List (List C)->Option (List A×List (List C))) (S:Nat->Option Fn):Nat->Option Fn:=fun g=>match Nat.beq f g with
 | true=>some (.prim p)
 | false=>S g
def ZLg {f:Nat} {p:List A->List (List C)->Option (List A×List (List C))} {S:Nat->Option Fn} (h:Zf2 Tryz.prog f p) (hS:FnOK Tryz.prog S):FnOK Tryz.prog (ZNL f p S):=fun g=>by
 unfold ZNL;cases hb:Nat.beq f g with
 | true=>
   have:=qE hb;subst this;exact h
 | false=>exact hS g
noncomputable def Zz3 (tab:List (List Nat×List A)) (s:List Nat):Option (List A):=List.rec (motive:=fun _=>Option (List A)) none (fun p _ ih=>Bool.rec ih (some p.2) (Go.Cm.eqN p.1 s)) tab
def Zp8 {R:List Nat->List A->Prop} {s:List Nat} {r:List A}: ∀{tab:List (List Nat×List A)},(∀p∈tab,R p.1 p.2)->Zz3 tab s=some r->R s r
 | [],_,h=>by cases h
 | (t,x)::l,hR,h=>by
   have h:Bool.rec (motive:=fun _=>Option (List A)) (Zz3 l s) (some x) (Go.Cm.eqN t s)=some r:=h;cases he:Go.Cm.eqN t s with
   | true=>
     rw [he] at h;injection h with h;rw [<-h,<-Go.Cm.eqN_eq he];exact hR _ Yr
   | false=>
     rw [he] at h;exact Zp8 (fun p hp=>hR p (Yk _ hp)) h
noncomputable def ZA1 (tab:List (List Nat×List A)) (args:List A) (os:List (List C)):Option (List A×List (List C)):=match args,os with
 | [.one (.p (.str s))],[]=>(Zz3 tab s).map fun r=>(r,[])
 | _,_=>none
def Zw2 {S:Nat->Option Fn} (hS:FnOK Tryz.prog S) {f:Nat} {tab:List (List Nat×List A)} (h: ∀p∈tab,∃n,call S n f [ps p.1] []=some (p.2,[])):Zf2 Tryz.prog f (ZA1 tab):=fun args os rs os' hp=>by
 unfold ZA1 at hp;split at hp
 ·rw [YG] at hp;obtain ⟨x,hx,e⟩:=hp;cases e;obtain ⟨n,hn⟩:=Zp8 (R:=fun s r=> ∃n,call S n f [ps s] []=some (r,[])) h hx;exact ZlN hS n _ _ _ _ _ hn
 ·cases hp
def ZA2:List Nat×List A:=([112,114,111,116,111,99,111,108,32,83,104,97,112,101,32,123,32,125,32,115,116,114,117,99,116,32,67,105,114,99,108,101,32,123,32,125,32,115,116,114,117,99,116,32,80,97,105,114,60,65,44,32,66,62,32,123,32,125,32,101,120,116,101,110,100,32,67,105,114,99,108,101,32,58,32,83,104,97,112,101,32,123,32,125,32,101,120,116,101,110,100,32,80,97,105,114,60,65,44,32,66,62,32,58,32,83,104,97,112,101,32,119,104,101,114,101,32,65,32,58,32,83,104,97,112,101,44,32,66,32,58,32,83,104,97,112,101,32,123,32,125],[.one (.p (.sl 4 [[.int .i64 9,.str [112,114,111,116,111,99,111,108],.int .i64 0,.int .i64 8],[.int .i64 2,.str [83,104,97,112,101],.int .i64 9,.int .i64 5],[.int .i64 8,.str [123],.int .i64 15,.int .i64 1],[.int .i64 8,.str [125],.int .i64 17,.int .i64 1],[.int .i64 9,.str [115,116,114,117,99,116],.int .i64 19,.int .i64 6],[.int .i64 2,.str [67,105,114,99,108,101],.int .i64 26,.int .i64 6],[.int .i64 8,.str [123],.int .i64 33,.int .i64 1],[.int .i64 8,.str [125],.int .i64 35,.int .i64 1],[.int .i64 9,.str [115,116,114,117,99,116],.int .i64 37,.int .i64 6],[.int .i64 2,.str [80,97,105,114],.int .i64 44,.int .i64 4],[.int .i64 8,.str [60],.int .i64 48,.int .i64 1],[.int .i64 2,.str [65],.int .i64 49,.int .i64 1],[.int .i64 8,.str [44],.int .i64 50,.int .i64 1],[.int .i64 2,.str [66],.int .i64 52,.int .i64 1],[.int .i64 8,.str [62],.int .i64 53,.int .i64 1],[.int .i64 8,.str [123],.int .i64 55,.int .i64 1],[.int .i64 8,.str [125],.int .i64 57,.int .i64 1],[.int .i64 9,.str [101,120,116,101,110,100],.int .i64 59,.int .i64 6],[.int .i64 2,.str [67,105,114,99,108,101],.int .i64 66,.int .i64 6],[.int .i64 8,.str [58],.int .i64 73,.int .i64 1],[.int .i64 2,.str [83,104,97,112,101],.int .i64 75,.int .i64 5],[.int .i64 8,.str [123],.int .i64 81,.int .i64 1],[.int .i64 8,.str [125],.int .i64 83,.int .i64 1],[.int .i64 9,.str [101,120,116,101,110,100],.int .i64 85,.int .i64 6],[.int .i64 2,.str [80,97,105,114],.int .i64 92,.int .i64 4],[.int .i64 8,.str [60],.int .i64 96,.int .i64 1],[.int .i64 2,.str [65],.int .i64 97,.int .i64 1],[.int .i64 8,.str [44],.int .i64 98,.int .i64 1],[.int .i64 2,.str [66],.int .i64 100,.int .i64 1],[.int .i64 8,.str [62],.int .i64 101,.int .i64 1],[.int .i64 8,.str [58],.int .i64 103,.int .i64 1],[.int .i64 2,.str [83,104,97,112,101],.int .i64 105,.int .i64 5],[.int .i64 9,.str [119,104,101,114,101],.int .i64 111,.int .i64 5],[.int .i64 2,.str [65],.int .i64 117,.int .i64 1],[.int .i64 8,.str [58],.int .i64 119,.int .i64 1],[.int .i64 2,.str [83,104,97,112,101],.int .i64 121,.int .i64 5],[.int .i64 8,.str [44],.int .i64 126,.int .i64 1],[.int .i64 2,.str [66],.int .i64 128,.int .i64 1],[.int .i64 8,.str [58],.int .i64 130,.int .i64 1],[.int .i64 2,.str [83,104,97,112,101],.int .i64 132,.int .i64 5],[.int .i64 8,.str [123],.int .i64 138,.int .i64 1],[.int .i64 8,.str [125],.int .i64 140,.int .i64 1]])),.agg [.p (.int .i64 0),.p (.int .i64 0)]])
def ZBI:List Nat×List A:=([112,114,111,116,111,99,111,108,32,83,104,97,112,101,32,123,32,125,10,115,116,114,117,99,116,32,67,105,114,99,108,101,32,123,32,125,10,115,116,114,117,99,116,32,80,97,105,114,32,60,32,65,32,44,32,66,32,62,32,123,32,125,10,101,120,116,101,110,100,32,67,105,114,99,108,101,32,58,32,83,104,97,112,101,32,123,32,125,10,101,120,116,101,110,100,32,80,97,105,114,32,60,32,65,32,44,32,66,32,62,32,58,32,83,104,97,112,101,32,119,104,101,114,101,32,65,32,58,32,83,104,97,112,101,32,44,32,66,32,58,32,83,104,97,112,101,32,123,32,125,10],[.one (.p (.sl 4 [[.int .i64 9,.str [112,114,111,116,111,99,111,108],.int .i64 0,.int .i64 8],[.int .i64 2,.str [83,104,97,112,101],.int .i64 9,.int .i64 5],[.int .i64 8,.str [123],.int .i64 15,.int .i64 1],[.int .i64 8,.str [125],.int .i64 17,.int .i64 1],[.int .i64 9,.str [115,116,114,117,99,116],.int .i64 19,.int .i64 6],[.int .i64 2,.str [67,105,114,99,108,101],.int .i64 26,.int .i64 6],[.int .i64 8,.str [123],.int .i64 33,.int .i64 1],[.int .i64 8,.str [125],.int .i64 35,.int .i64 1],[.int .i64 9,.str [115,116,114,117,99,116],.int .i64 37,.int .i64 6],[.int .i64 2,.str [80,97,105,114],.int .i64 44,.int .i64 4],[.int .i64 8,.str [60],.int .i64 49,.int .i64 1],[.int .i64 2,.str [65],.int .i64 51,.int .i64 1],[.int .i64 8,.str [44],.int .i64 53,.int .i64 1],[.int .i64 2,.str [66],.int .i64 55,.int .i64 1],[.int .i64 8,.str [62],.int .i64 57,.int .i64 1],[.int .i64 8,.str [123],.int .i64 59,.int .i64 1],[.int .i64 8,.str [125],.int .i64 61,.int .i64 1],[.int .i64 9,.str [101,120,116,101,110,100],.int .i64 63,.int .i64 6],[.int .i64 2,.str [67,105,114,99,108,101],.int .i64 70,.int .i64 6],[.int .i64 8,.str [58],.int .i64 77,.int .i64 1],[.int .i64 2,.str [83,104,97,112,101],.int .i64 79,.int .i64 5],[.int .i64 8,.str [123],.int .i64 85,.int .i64 1],[.int .i64 8,.str [125],.int .i64 87,.int .i64 1],[.int .i64 9,.str [101,120,116,101,110,100],.int .i64 89,.int .i64 6],[.int .i64 2,.str [80,97,105,114],.int .i64 96,.int .i64 4],[.int .i64 8,.str [60],.int .i64 101,.int .i64 1],[.int .i64 2,.str [65],.int .i64 103,.int .i64 1],[.int .i64 8,.str [44],.int .i64 105,.int .i64 1],[.int .i64 2,.str [66],.int .i64 107,.int .i64 1],[.int .i64 8,.str [62],.int .i64 109,.int .i64 1],[.int .i64 8,.str [58],.int .i64 111,.int .i64 1],[.int .i64 2,.str [83,104,97,112,101],.int .i64 113,.int .i64 5],[.int .i64 9,.str [119,104,101,114,101],.int .i64 119,.int .i64 5],[.int .i64 2,.str [65],.int .i64 125,.int .i64 1],[.int .i64 8,.str [58],.int .i64 127,.int .i64 1],[.int .i64 2,.str [83,104,97,112,101],.int .i64 129,.int .i64 5],[.int .i64 8,.str [44],.int .i64 135,.int .i64 1],[.int .i64 2,.str [66],.int .i64 137,.int .i64 1],[.int .i64 8,.str [58],.int .i64 139,.int .i64 1],[.int .i64 2,.str [83,104,97,112,101],.int .i64 141,.int .i64 5],[.int .i64 8,.str [123],.int .i64 147,.int .i64 1],[.int .i64 8,.str [125],.int .i64 149,.int .i64 1]])),.agg [.p (.int .i64 0),.p (.int .i64 0)]])
def ZBh:List Nat×List A:=([112,114,111,116,111,99,111,108,32,83,104,97,112,101,32,123,32,125,32,115,116,114,117,99,116,32,67,105,114,99,108,101,32,123,32,125,32,115,116,114,117,99,116,32,80,97,105,114,60,65,44,32,66,62,32,123,32,125,32,101,120,116,101,110,100,32,67,105,114,99,108,101,32,58,32,83,104,97,112,101,32,123,32,125,32,101,120,116,101,110,100,32,80,97,105,114,60,65,44,32,66,62,32,58,32,83,104,97,112,101,32,119,104,101,114,101,32,65,32,58,32,83,104,97,112,101,44,32,66,32,58,32,83,104,97,112,101,32,123,32,125],[.agg [.p (.sl 17 [[.str [79,112,116],.int .i64 2,.sl 1 [[.str [86,97,108,117,101]]],.bool false,.bool true,.sl 6 [],.sl 3 [[.str [110,111,110,101],.sl 4 [],.bool false],[.str [115,111,109,101],.sl 4 [[.int .i64 7,.str [86,97,108,117,101],.int .i64 0,.sl 4 []]],.bool false]],.int .i64 0,.str [],.int .i64 0,.int .i64 0,.str [],.int .i64 0,.sl 4 [],.sl 4 [],.sl 10 [],.int .i64 0],[.str [67,105,114,99,108,101],.int .i64 1,.sl 1 [],.bool false,.bool false,.sl 6 [],.sl 3 [],.int .i64 0,.str [],.int .i64 0,.int .i64 0,.str [],.int .i64 0,.sl 4 [],.sl 4 [],.sl 10 [],.int .i64 0],[.str [80,97,105,114],.int .i64 1,.sl 1 [[.str [65]],[.str [66]]],.bool false,.bool false,.sl 6 [],.sl 3 [],.int .i64 0,.str [],.int .i64 0,.int .i64 0,.str [],.int .i64 0,.sl 4 [],.sl 4 [],.sl 10 [],.int .i64 0]]),.p (.sl 3 [[.str [70,114,111,109,73,110,116],.sl 2 [],.sl 10 [[.str [109,97,107,101],.sl 6 [[.str [110],.int .i64 0,.int .i64 1,.str [],.int .i64 0,.sl 4 []]],.int .i64 7,.str [83,101,108,102],.int .i64 0,.sl 4 [],.int .i64 0,.str [],.int .i64 0,.sl 4 []]]],[.str [83,104,97,112,101],.sl 2 [],.sl 10 []]]),.p (.sl 9 [[.str [83,104,97,112,101],.int .i64 6,.str [67,105,114,99,108,101],.int .i64 0,.sl 4 [],.sl 1 [],.sl 10 [],.sl 4 [],.sl 1 []],[.str [83,104,97,112,101],.int .i64 6,.str [80,97,105,114],.int .i64 0,.sl 4 [[.int .i64 7,.str [65],.int .i64 0,.sl 4 []],[.int .i64 7,.str [66],.int .i64 0,.sl 4 []]],.sl 1 [[.str [65]],[.str [66]]],.sl 10 [[.int .i64 1,.int .i64 7,.str [65],.int .i64 0,.sl 4 [],.str [83,104,97,112,101],.int .i64 0,.str [],.int .i64 0,.sl 4 []],[.int .i64 1,.int .i64 7,.str [66],.int .i64 0,.sl 4 [],.str [83,104,97,112,101],.int .i64 0,.str [],.int .i64 0,.sl 4 []]],.sl 4 [],.sl 1 []]]),.p (.sl 22 [])],.one (.p (.bool true))])
end Go.Am.Fe
end
section
namespace Go.Am.Fe
set_option maxRecDepth 1000000
attribute [local instance] Go.Cm.wi0
def ZC9:fast S0 1000000 63 [ps ZA2.1] []=some (ZA2.2,[]):=by kernel_rfl
def ZC2:fast S0 1000000 63 [ps ZBI.1] []=some (ZBI.2,[]):=by kernel_rfl
noncomputable def tokP:=ZA1 [ZA2,ZBI]
def Zzf:Zf2 Go.Proofs.Tryz.prog 63 tokP:=Zw2 ZNW (by
 simp only [List.forall_mem_cons,kL,false_implies,implies_true,and_true];exact ⟨Zcp ZC9,Zcp ZC2⟩)
noncomputable def SE0:=ZNL 63 tokP (ZNL 115 (ZpA (Zuf S0 1000000)) S0)
def ZN1:FnOK Go.Proofs.Tryz.prog SE0:=ZLg Zzf (ZLg (ZuB ZNC) ZNW)
end Go.Am.Fe
end
section
namespace Go.Am.Fe
set_option maxRecDepth 1000000
def ZCZ:fast SE0 1000000 12 [ps ZBh.1,pi 3000] []=some (ZBh.2,[]):=by kernel_rfl
end Go.Am.Fe
end
section
namespace Go.Cm
open Go.Proofs
set_option maxRecDepth 1000000
attribute [local instance] wi0
noncomputable def tabV:V:=(ZKy Go.Am.Fe.ZBh.2).getD (.tup [])
def ZM6:ZKy Go.Am.Fe.ZBh.2=some tabV:=by kernel_rfl
noncomputable def ZOn:Nat->Option Go.Cm.Fn:=tabX Tryz.prog [(294,ZKU),(327,ZM1)]
def ZMI:ZKg Tryz.prog ZOn:=ZNd fun x hx args h v e=>by
 simp only [Yv,kL,or_false] at hx;rcases hx with rfl|rfl
 ·exact ZLk Tryz.func294 (by kernel_rfl) (by kernel_rfl) (by kernel_rfl) (by kernel_rfl) args h v e
 ·exact ZLY Tryz.func327 (by kernel_rfl) (by kernel_rfl) (by kernel_rfl) (by kernel_rfl) args h v e
noncomputable def tabM:Nat->Option Go.Cm.Fn:=tabT 12 (amP Go.Am.Fe.ZBh.1 3000 tabV) ZOn
def tabM_ok:ZKg Tryz.prog tabM:=ZM8 (fun args h v h' hx=>by
 obtain ⟨n,hn⟩:=Go.Am.Zcp Go.Am.Fe.ZCZ;exact ZNl Go.Am.Fe.ZN1 hn ZM6 args h v h' hx) ZMI
def awM:gives Tryz.prog tabM 300 14 true=true:=by kernel_rfl
end Go.Cm
end
