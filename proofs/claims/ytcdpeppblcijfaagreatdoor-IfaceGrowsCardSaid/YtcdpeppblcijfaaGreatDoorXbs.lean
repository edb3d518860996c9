/- Part. -/
import Derived.Test.YtcdpeppblcijfaaGreatDoorXbr
import Derived.Test.YtcdpeppblcijfaaGreatDoorXax
set_option maxRecDepth 999999
set_option maxHeartbeats 0
set_option linter.all false
section
namespace Go.Am.Fe
open Go.Proofs
set_option maxRecDepth 1000000
theorem ZEQ {S:Nat->Option Fn} {f:Nat} {p:List A->Option (List A)} {args r:List A} {Q:List A->List (List C)->Prop} (e:S f=some (.prim (ZBS p))) (hp:p args=some r) (h:Q r []):Gives S f args [] Q:=by
 refine ⟨1,r,[],?_,h⟩
 unfold call Zja
 rw [e]
 simp [ZBS,hp]
theorem ZGn {S:Nat->Option Fn} {f:Nat} {p:List A->Option (List Nat)} {args:List A} {r:List Nat} {Q:List A->List (List C)->Prop} (e:S f=some (.prim (ZpA p))) (hp:p args=some r) (h:Q [ps r] []):Gives S f args [] Q:=by
 refine ⟨1,[ps r],[],?_,h⟩
 unfold call Zja
 rw [e]
 simp [ZpA,hp]
theorem ZFD: ∀{ns:List (List Nat)},ns.length<=2->(∀s∈ns,s.length<=300000)->([46].intercalate ns).length<=2147483648
 | [],_,_=>by simp [List.intercalate]
 | [a],_,h=>by have:=h a Zs;simp [List.intercalate];omega
 | [a,b],_,h=>by have:=h a Zs;have:=h b Zs;simp [List.intercalate];omega
 | _::_::_::_,h,_=>absurd h Zs
theorem ZGP:HG SL:=by
 constructor
 all_goals first
    | kernel_rfl
    | (intro Q a b h;exact ZEQ (S:=SL) (f:=317) (p:=cmpP) (by kernel_rfl) rfl h)
    | (intro Q l hl h;exact ZEQ (S:=SL) (f:=75) (p:=ZBM) (by kernel_rfl) (by show (match Zrq (strs l) with|some xs=>_|none=>_)=_;rw [ZEq];exact if_pos Zo) h)
    | (intro Q s hs h;exact ZEQ (S:=SL) (f:=143) (p:=cutP) (r:=[ps (s.takeWhile (· !=47)),ps ((Lib.cut (s.map UInt8.ofNat) [47]).2.1.map UInt8.toNat),pb (ZFI s)]) (by kernel_rfl) (if_pos Zo) (h _))
    | (intro Q ns h1 h2 h;exact ZGn (S:=SL) (f:=133) (p:=ZBA) (by kernel_rfl) (by show (match Zrq (strs ns) with|some xs=>_|none=>_)=_;rw [ZEq];exact if_pos ⟨by omega,ZFD h1 h2⟩) h)
theorem ZF8 {S:Nat->Option Fn} (H:Has S) (HR:HasPr S) {src:List Nat} (hb:Byt src) (Q:List A->List (List C)->Prop) (hQ: ∀(m:Mo) (ok:Bool),m.Good->(ok=true->m.ns≠[]/\m.fs.length<=50000)->Q [.agg m.cs',pb ok] []):Gives S Zgf [ps src,pi 4000] [] Q:=
 ZuG H HR (by unfold ZeA;omega) hb fun noms pro cfs fns ok r1 r2 r3 r4 r5=>by
  obtain ⟨m,hm,rfl,rfl,rfl,rfl⟩:=ZFr r1 r2 r3 r4
  exact hQ m ok hm fun h=>⟨fun h0=>(r5 h).1 (by rw [h0];rfl),by have:=(r5 h).2;rwa [List.length_map] at this⟩
theorem ZGk {src name:List Nat} {n:Int} (h1:Byt src) (h2:Byt name):Gives SL ZDL [ps src,pi n,ps name] [] fun rs _=>rs=[pb true]:=
 ZEr ZGP (by kernel_rfl) (by kernel_rfl) (by kernel_rfl) ZwD (fun Q hQ=>ZF8 ZBt Zwb h1 Q hQ) h2 rfl
end Go.Am.Fe
end
