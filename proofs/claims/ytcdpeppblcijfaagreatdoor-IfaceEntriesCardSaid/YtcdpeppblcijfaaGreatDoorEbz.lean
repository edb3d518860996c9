/- Part. -/
import Derived.Test.YtcdpeppblcijfaaGreatDoorEbv
import Derived.Test.YtcdpeppblcijfaaGreatDoorEbw
import Derived.Test.YtcdpeppblcijfaaGreatDoorEaz
import Derived.Test.YtcdpeppblcijfaaGreatDoorEbd
set_option maxRecDepth 999999
set_option maxHeartbeats 0
set_option linter.all false
section
namespace Go.Am.Fe
open Go.Proofs
set_option maxRecDepth 1000000
noncomputable def tabP:=ZpP [ZBh,ZA4,ZCk]
def ZzA:Zf2 Tryz.prog 11 tabP:=ZrH ZBH (by
 simp only [List.forall_mem_cons,List.not_mem_nil,false_implies,implies_true,and_true]
 exact ⟨Zcp ZCZ,Zcp ZDb,Zcp ZDg⟩)
def ZuK:fast (SE2 tabP) 1000000 13 [] []=some ([pb true],[]):=by kernel_rfl
def Zu4 (args:List A) (os:List (List C)):Option (List A×List (List C)):=match args,os with
 | [],[]=>some ([pb true],[])
 | _,_=>none
def Zuk:Zf2 Tryz.prog 13 Zu4:=ZsI (ZBg ZzA) fun args os r hp=>by
 unfold Zu4 at hp
 split at hp
 ·injection hp with hp
  subst hp
  exact Zcp ZuK
 ·cases hp
noncomputable def SL:Nat->Option Fn:=addP 13 Zu4 (addP 317 (ZBS cmpP) (addP 143 (ZBS cutP) (addP 133 (ZpA ZBA) (addP 75 (ZBS ZBM) (ZA8 S2)))))
def ZDd:FnOK Tryz.prog SL:=ZjQ Zuk (ZjQ ZxV (ZjQ Zzq (ZjQ Zwq (ZjQ ZwV (ZsX ZDk)))))
end Go.Am.Fe
end
set_option maxRecDepth 999999
set_option maxHeartbeats 0
set_option linter.all false
section
namespace Go.Am.Fe
open Go.Proofs
set_option maxRecDepth 1000000
def ZEQ {S:SF} {f:Nat} {p:List A->Option (List A)} {args r:List A} {Q:QF} (e:S f=some (.prim (ZBS p))) (hp:p args=some r) (h:Q r []):Gives S f args [] Q:=by
 refine ⟨1,r,[],?_,h⟩
 unfold call Zja
 rw [e]
 simp [ZBS,hp]
def ZGn {S:SF} {f:Nat} {p:List A->Option (List Nat)} {args:List A} {r:List Nat} {Q:QF} (e:S f=some (.prim (ZpA p))) (hp:p args=some r) (h:Q [ps r] []):Gives S f args [] Q:=by
 refine ⟨1,[ps r],[],?_,h⟩
 unfold call Zja
 rw [e]
 simp [ZpA,hp]
def ZFD: ∀{ns:List (List Nat)},ns.length<=2->(∀s∈ns,s.length<=300000)->([46].intercalate ns).length<=2147483648
 | [],_,_=>by simp [List.intercalate]
 | [a],_,h=>by have:=h a Zs;simp [List.intercalate];omega
 | [a,b],_,h=>by have:=h a Zs;have:=h b Zs;simp [List.intercalate];omega
 | _::_::_::_,h,_=>absurd h Zs
end Go.Am.Fe
end
set_option maxRecDepth 999999
set_option maxHeartbeats 0
set_option linter.all false
section
namespace Go.Am.Fe
open Go.Proofs
variable {S:Nat->Option Fn} {Q:List A->List (List C)->Prop}
set_option maxRecDepth 1000000
def ZKx:List (Nat×SFunc):=[(ZHX,ZHR),(ZHC,ZIz),(ZHn,ZHD),(ZHU,ZIp),(ZHW,ZIq),(ZHH,ZH4),(ZHS,ZIc),(ZHB,ZIe),(ZH5,ZIo),(ZJk,ZJN),(ZwD,ZBt),(ZEr,ZE2),(Ztg,Zwb)]
def ZGx:ZKx.all (fun p=>ZiH Tryz.prog p.1 p.2)=true:=by kernel_rfl
noncomputable def SN:Nat->Option Fn:=addP 63 (ZBS ixP) (look ZKx SL)
def ZKz:FnOK Tryz.prog SN:=ZjQ ZKj (ZhB ZDd (ZnL ZGx))
def ZGA:Has SN:=by constructor<;>kernel_rfl
def ZFx:HasPr SN:=ZvV ZAX ZxB (by kernel_rfl)
def ZGk (Q:List A->List (List C)->Prop) (h:Q [pb true] []):Gives SN Zd3 [] [] Q:=by
 refine ⟨1,[pb true],[],?_,h⟩
 have e:SN 13=some (.prim Zu4):=by kernel_rfl
 unfold call Zja
 rw [e]
 rfl
theorem ZKD:HG SN:=by
 constructor
 all_goals first
    | kernel_rfl
    | (intro Q a b h;exact ZEQ (S:=SN) (f:=317) (p:=cmpP) (by kernel_rfl) rfl h)
    | (intro Q l hl h;exact ZEQ (S:=SN) (f:=75) (p:=ZBM) (by kernel_rfl) (by show (match Zrq (strs l) with|some xs=>_|none=>_)=_;rw [ZEq];exact if_pos Zo) h)
    | (intro Q s hs h;exact ZEQ (S:=SN) (f:=143) (p:=cutP) (r:=[ps (s.takeWhile (· !=47)),ps ((Lib.cut (s.map UInt8.ofNat) [47]).2.1.map UInt8.toNat),pb (ZFI s)]) (by kernel_rfl) (if_pos Zo) (h _))
    | (intro Q ns h1 h2 h;exact ZGn (S:=SN) (f:=133) (p:=ZBA) (by kernel_rfl) (by show (match Zrq (strs ns) with|some xs=>_|none=>_)=_;rw [ZEq];exact if_pos ⟨by omega,ZFD h1 h2⟩) h)
def ZKA:HR SN:=by
 constructor
 all_goals first
    | kernel_rfl
    | skip
 intro Q s c hc hs h0 h1
 have e:ixP [ps s,A.one (.p (.int .u8 (c:Int)))]=some [pi (ixN s c)]:=by
  show (if 0<=(c:Int)/\(c:Int)<256 then some [A.one (.p (.int .i64 (ixN s (c:Int).toNat)))] else none)=_
  rw [if_pos ⟨by omega,by omega⟩,Int.toNat_natCast]
 refine ZEQ (S:=SN) (f:=63) (p:=ixP) (by kernel_rfl) e ?_
 unfold ixN
 by_cases hm:c∈s
 ·rw [List.elem_eq_mem,decide_eq_true hm,if_pos rfl]
  exact h1 hm
 ·rw [List.elem_eq_mem,decide_eq_false hm,if_neg Zd]
  exact h0 hm
def ZJD {S:Nat->Option Fn} (H:Has S) (HR:HasPr S) {src:List Nat} (hb:Byt src):TabW S src:=fun Q hQ=>
 ZuG H HR (by unfold ZeA;omega) hb fun noms pro cfs fns ok r1 r2 r3 r4 r5=>by
  obtain ⟨m,hm,rfl,rfl,rfl,rfl⟩:=ZFr r1 r2 r3 r4
  refine hQ m ok hm fun h=>?_
  obtain ⟨_,_,_,_,_,h5,_⟩:=r5 h
  exact fun c hc=>(h5 _ (List.mem_map_of_mem hc)).c58
def ZKB:HE SN:=by constructor<;>kernel_rfl
def ZFY {a b:List Nat} {ns:List (List Nat)} (h1:Byt a) (h2:Byt b):Gives SN Ztg [ps a,ps b,.one (.p (.sl 1 (strs ns)))] [] fun rs _=>rs=[pb true]:=
 ZEG ZGA ZKD ZKA ZKB (by kernel_rfl) ZGk (ZJD ZGA ZFx h1) (ZJD ZGA ZFx h2) rfl
end Go.Am.Fe
end
