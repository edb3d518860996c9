/- Part. -/
import Derived.Test.YtcdjoaepciegnaaGreatDoorUbk
import Derived.Test.YtcdjoaepciegnaaGreatDoorUbj
import Derived.Test.YtcdjoaepciegnaaGreatDoorUax
import Derived.Test.YtcdjoaepciegnaaGreatDoorUaj
import Derived.Test.YtcdjoaepciegnaaGreatDoorUbe
import Derived.Test.YtcdjoaepciegnaaGreatDoorUaw
set_option maxRecDepth 999999
set_option maxHeartbeats 0
set_option linter.all false
section
namespace Go.Am.Fe
open Go.Proofs
set_option maxRecDepth 1000000
attribute [local instance] wiB
def ZIG (f:Nat) (p:List A->List (List C)->Option (List A×List (List C))) (S:Nat->Option Fn):Nat->Option Fn:=fun g=>match Nat.beq f g with
 | true=>some (.prim p)
 | false=>S g
def ZEL {f:Nat} {p:List A->List (List C)->Option (List A×List (List C))} {S:Nat->Option Fn} (h:Zf2 Tryz.prog f p) (hS:FnOK Tryz.prog S):FnOK Tryz.prog (ZIG f p S):=fun g=>by
 unfold ZIG
 cases hb:Nat.beq f g with
 | true=>
   have:=Nat.eq_of_beq_eq_true hb
   subst this
   exact h
 | false=>exact hS g
def ZJ6:List (Nat×SFunc)->(Nat->Option Fn)->Nat->Option Fn
 | [],S=>S
 | (k,F)::l,S=>fun g=>match Nat.beq k g with
   | true=>some (.code F)
   | false=>ZJ6 l S g
def ZGE {S:Nat->Option Fn} (hS:FnOK Tryz.prog S): ∀{l:List (Nat×SFunc)},(∀p∈l,ZiH Tryz.prog p.1 p.2=true)->FnOK Tryz.prog (ZJ6 l S)
 | [],_=>hS
 | (k,F)::l,h=>fun g=>by
   unfold ZJ6
   cases hb:Nat.beq k g with
   | true=>
     have:=Nat.eq_of_beq_eq_true hb
     subst this
     exact h (k,F) Yr
   | false=>exact ZGE hS (fun p hp=>h p (Yk _ hp)) g
def awPu (args:List A) (os:List (List C)):Option (List A×List (List C)):=if args.isEmpty && os.isEmpty then some ([.one (.p (.bool true))],[]) else none
def ZJM:Zf2 Tryz.prog 8 awPu:=Go.Cm.closed_prim Go.Cm.tabM_ok (by kernel_rfl) Go.Cm.awM
def ZKP (args:List A) (os:List (List C)):Option (List A×List (List C)):=if os.isEmpty then (rowP args).map fun t=>(t,[]) else none
noncomputable def SU0:Nat->Option Fn:=ZIG 8 awPu (ZIG 39 oncP (ZIG 41 ZKP (ZJ6 ZKN fun _=>none)))
def ZJ9:FnOK Tryz.prog SU0:=ZEL ZJM (ZEL ZJN (ZEL ZJ4 (ZGE (fun _=>trivial) fun p hp=>List.all_eq_true.1 ZJC p hp)))
noncomputable def SUf (f:Nat) (a b:SFunc) (c:Bool):Nat->Option Fn:=ZJ6 [(f,match c with|true=>a|false=>b)] SU0
open Classical in
noncomputable def twoP (f:Nat) (a b:SFunc) (c:List A->Bool) (args:List A) (os:List (List C)):Option (List A×List (List C)):=if h: ∃r n,call (SUf f a b (c args)) n f args os=some r then some h.choose else none
def ZHy {f:Nat} {a b:SFunc} {c:List A->Bool} (ha:ZiH Tryz.prog f a=true) (hb:ZiH Tryz.prog f b=true):Zf2 Tryz.prog f (twoP f a b c):=by
 intro args os rs os' hp
 unfold twoP at hp
 split at hp
 ·rename_i h
  injection hp with hp
  obtain ⟨n,hn⟩:=h.choose_spec
  rw [hp] at hn
  refine ZlN (ZGE ZJ9 (fun p hp=>?_)) n f args os rs os' hn
  rw [List.mem_singleton] at hp
  subst hp
  cases c args
  ·exact hb
  ·exact ha
 ·cases hp
def ZKy:List A->Bool
 | [.agg (_::_:: .p (.sl 3 rows)::_)]=>rows.any fun r=>match r with| .int .i64 k::_=>decide (k=2)|_=>false
 | _=>false
def ZKF:List A->Bool
 | [.agg (_::_:: .p (.sl 3 rows)::_)]=> !rows.isEmpty
 | _=>false
def ZKB:List A->Bool
 | [.agg (.p (.int .i64 o)::_)]=>dstF o
 | _=>false
def ZH9 {S:Nat->Option Fn} {n m:Nat} {f:Nat} {a:List A} {o:List (List C)} {r r':List A×List (List C)} (h:call S n f a o=some r) (h':call S m f a o=some r'):r=r':=by
 have h1:=Zmt (Nat.le_max_left n m) f a o r h
 have h2:=Zmt (Nat.le_max_right n m) f a o r' h'
 rw [h1] at h2
 exact Option.some.inj h2
def ZFy {S:Nat->Option Fn} {f:Nat} {a b:SFunc} {c:List A->Bool} (e:S f=some (.prim (twoP f a b c))) {args:List A} {os:List (List C)} {Q:List A->List (List C)->Prop} (h:Gives (SUf f a b (c args)) f args os Q):Gives S f args os Q:=by
 obtain ⟨n,rs,os',h1,h2⟩:=h
 refine ⟨1,rs,os',?_,h2⟩
 unfold call Zja
 rw [e]
 show twoP f a b c args os=_
 have hx: ∃r n,call (SUf f a b (c args)) n f args os=some r:=⟨_,n,h1⟩
 unfold twoP
 rw [dif_pos hx]
 obtain ⟨m,hm⟩:=hx.choose_spec
 exact congrArg some (ZH9 hm h1)
def ZkA {S:Nat->Option Fn} {f:Nat} {p:List A->List (List C)->Option (List A×List (List C))} (e:S f=some (.prim p)) {args:List A} {os:List (List C)} {r:List A×List (List C)} {Q:List A->List (List C)->Prop} (h:p args os=some r) (hQ:Q r.1 r.2):Gives S f args os Q:=by
 refine ⟨1,r.1,r.2,?_,hQ⟩
 unfold call Zja
 rw [e]
 exact h
noncomputable def SU:Nat->Option Fn:=ZIG 14 (twoP 14 ZDB ZDD ZKy) (ZIG 16 (twoP 16 ZDM ZDP ZKF) (ZIG 18 (twoP 18 ZDG ZDK ZKB) SU0))
def mu2 {p:Nat×SFunc} (h:p∈[(ZDy,ZDD),(ZDy,ZDB),(ZDC,ZDP),(ZDC,ZDM),(ZDA,ZDK),(ZDA,ZDG)]):ZiH Tryz.prog p.1 p.2=true:=List.all_eq_true.1 ZKI p h
def ZKZ:FnOK Tryz.prog SU:=ZEL (ZHy (mu2 (p:=(14,ZDB)) Zs) (mu2 (p:=(14,ZDD)) Zs)) (ZEL (ZHy (mu2 (p:=(16,ZDM)) Zs) (mu2 (p:=(16,ZDP)) Zs)) (ZEL (ZHy (mu2 (p:=(18,ZDG)) Zs) (mu2 (p:=(18,ZDK)) Zs)) ZJ9))
theorem ZHO {S:Nat->Option Fn} (e:S 39=some (.prim oncP)) (l:List Int) (Q:List A->List (List C)->Prop) (hl:l.length<=2000) (hQ:Q [.one (.own ⟨false,0,0⟩ 1 (once l).length)] [ZmH (once l++List.replicate (l.length-(once l).length) 0)]):Gives S ZDz [.one (.own ⟨false,0,0⟩ 1 l.length)] [ZmH l] Q:=by
 refine ZkA e (r:=([.one (.own ⟨false,0,0⟩ 1 (once l).length)],[ZKr l])) ?_ hQ
 show (match ZGK (ZGB l) with|some zs=>_|none=>_)=_
 rw [ZH5]
 exact if_pos ⟨rfl,by omega⟩
def ZH4 {S:Nat->Option Fn} (e:S 39=some (.prim oncP)) (Q:List A->List (List C)->Prop) (hQ:Q [.one (.p (.sl 1 []))] []):Gives S ZDz [.one (.p (.sl 1 []))] [] Q:=ZkA e (r:=([.one (.p (.sl 1 []))],[])) rfl hQ
def ZKU {S:Nat->Option Fn} (e:S 41=some (.prim ZKP)) (o:Int) (Q:List A->List (List C)->Prop) (hQ:Q [.agg [.junk,.p (.int .i64 (ZIc o)),.junk]] []):Gives S ZDX [pi o] [] Q:=ZkA e (r:=([.agg [.junk,.p (.int .i64 (ZIc o)),.junk]],[])) rfl hQ
def ZK2:HU SU:=by constructor<;>kernel_rfl
def ZIV (c:Bool):HU (SUf 18 ZDG ZDK c):=by constructor<;>kernel_rfl
theorem ZJE {x:In}:ZKy [.agg (x.row.map .p)]= !(ZEK x.a).isEmpty:=by
 show ((x.a.map Op.row).any fun r=>match r with| .int .i64 k::_=>decide (k=2)|_=>false)=_
 unfold ZEK
 induction x.a with
 | nil=>rfl
 | cons o l ih=>
   rw [Yp,List.any_cons,ih]
   by_cases h:o.k=2<;>simp [h]
def ZGD:once []=[]:=ZII []
def ZKx {x:In} (hl:x.a.length<=1500) (Q:List A->List (List C)->Prop) (hQ:Q [.one (.p (.sl 1 (ZaX (once (ZEK x.a)))))] []):Gives SU ZDy [.agg (x.row.map .p)] [] Q:=by
 refine ZFy (a:=ZDB) (b:=ZDD) (c:=ZKy) (by kernel_rfl) ?_
 rw [ZJE]
 by_cases h:ZEK x.a=[]
 ·rw [h,ZGD] at hQ
  rw [h]
  exact ZE5 (by kernel_rfl) (fun Q=>ZH4 (by kernel_rfl) Q) h Zo hQ
 ·have e:(ZEK x.a).isEmpty=false:=by simpa using h
  rw [e]
  exact ZFa (by kernel_rfl) (fun l Q=>ZHO (by kernel_rfl) l Q) h Zo hQ
def ZKH {x:In} (hl:x.a.length<=1500) (Q:List A->List (List C)->Prop) (hQ:Q [.one (.p (.sl 1 (ZaX (once (ZFj x.a)))))] []):Gives SU ZDC [.agg (x.row.map .p)] [] Q:=by
 refine ZFy (a:=ZDM) (b:=ZDP) (c:=ZKF) (by kernel_rfl) ?_
 have hc:ZKF [.agg (x.row.map .p)]= !(x.a.map Op.row).isEmpty:=rfl
 rw [hc]
 by_cases h:x.a=[]
 ·have hu:ZFj x.a=[]:=by rw [h];rfl
  have hr:(x.a.map Op.row).isEmpty=true:=by rw [h];rfl
  rw [hu,ZGD] at hQ
  rw [hr]
  exact ZGJ (by kernel_rfl) (fun Q=>ZH4 (by kernel_rfl) Q) h hQ
 ·have e:(x.a.map Op.row).isEmpty=false:=by simpa using h
  rw [e]
  exact ZGu (by kernel_rfl) (fun l Q=>ZHO (by kernel_rfl) l Q) h Zo hQ
def ZKK {x:In} (Q:List A->List (List C)->Prop) (hQ:Q [.one (.p (.sl 1 (ZaX (once (ZHs x)))))] []):Gives SU ZDA [.agg (x.row.map .p)] [] Q:=by
 refine ZFy (a:=ZDG) (b:=ZDK) (c:=ZKB) (by kernel_rfl) ?_
 have hc:ZKB [.agg (x.row.map .p)]=dstF x.o:=rfl
 rw [hc]
 cases h:dstF x.o
 ·have ht:thr x=false:=by
   simp [dstF] at h
   simp [thr];omega
  have hf:ZHs x=[]:=by simp [ZHs,h,ht]
  rw [hf,ZGD] at hQ
  exact ZFV (ZIV _) (by kernel_rfl) (fun o Q=>ZKU (by kernel_rfl) o Q) (fun Q=>ZH4 (by kernel_rfl) Q) h ht hQ
 ·exact ZFW (ZIV _) (by kernel_rfl) (fun o Q=>ZKU (by kernel_rfl) o Q) (fun l Q=>ZHO (by kernel_rfl) l Q) h hQ
def ZKL {x:In} (hx:x.ok):Gives SU ZDO [.agg (x.row.map .p)] [] fun rs _=>rs=[pb true]:=
 ZES ZK2 (by kernel_rfl) (fun Q h=>ZI5 (by kernel_rfl) (by kernel_rfl) hx h) (fun Q h=>ZkA (p:=awPu) (by kernel_rfl) (r:=([.one (.p (.bool true))],[])) rfl h)
  (fun hl Q h=>ZKx hl Q h) (fun hl Q h=>ZKH hl Q h) (fun Q h=>ZKK Q h) rfl
end Go.Am.Fe
end
