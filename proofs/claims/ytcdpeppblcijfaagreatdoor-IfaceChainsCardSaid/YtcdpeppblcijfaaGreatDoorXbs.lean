/- Part. -/
import Derived.Test.YtcdpeppblcijfaaGreatDoorXbr
import Derived.Test.YtcdpeppblcijfaaGreatDoorXax
set_option maxRecDepth 999999
set_option maxHeartbeats 0
set_option linter.all false
section
namespace Go.Am.Fe
open Go.Proofs
set_option maxRecDepth 1000000
def ZEQ {S:SF} {f:Nat} {p:List A->Option (List A)} {args r:List A} {Q:QF} (e:S f=some (.prim (ZBS p))) (hp:p args=some r) (h:Q r []):Gives S f args [] Q:=by
 refine ⟨1,r,[],?_,h⟩
 unfold call Zja
 rw [e]
 simp [ZBS,hp]
def ZGn {S:SF} {f:Nat} {p:List A->Option (List Nat)} {args:List A} {r:List Nat} {Q:QF} (e:S f=some (.prim (ZpA p))) (hp:p args=some r) (h:Q [ps r] []):Gives S f args [] Q:=by
 refine ⟨1,[ps r],[],?_,h⟩
 unfold call Zja
 rw [e]
 simp [ZpA,hp]
def ZFD: ∀{ns:List (List Nat)},ns.length<=2->(∀s∈ns,s.length<=300000)->([46].intercalate ns).length<=2147483648
 | [],_,_=>by simp [List.intercalate]
 | [a],_,h=>by have:=h a Zs;simp [List.intercalate];omega
 | [a,b],_,h=>by have:=h a Zs;have:=h b Zs;simp [List.intercalate];omega
 | _::_::_::_,h,_=>absurd h Zs
theorem ZGP:HG SL:=by
 constructor
 all_goals first
    | kernel_rfl
    | (intro Q a b h;exact ZEQ (S:=SL) (f:=317) (p:=cmpP) (by kernel_rfl) rfl h)
    | (intro Q l hl h;exact ZEQ (S:=SL) (f:=75) (p:=ZBM) (by kernel_rfl) (by show (match Zrq (strs l) with|some xs=>_|none=>_)=_;rw [ZEq];exact if_pos Zo) h)
    | (intro Q s hs h;exact ZEQ (S:=SL) (f:=143) (p:=cutP) (r:=[ps (s.takeWhile (· !=47)),ps ((Lib.cut (s.map UInt8.ofNat) [47]).2.1.map UInt8.toNat),pb (ZFI s)]) (by kernel_rfl) (if_pos Zo) (h _))
    | (intro Q ns h1 h2 h;exact ZGn (S:=SL) (f:=133) (p:=ZBA) (by kernel_rfl) (by show (match Zrq (strs ns) with|some xs=>_|none=>_)=_;rw [ZEq];exact if_pos ⟨by omega,ZFD h1 h2⟩) h)
def ZHE {cs:List Co} {fs:List Fu} {ns:List No} {ps:List Pr} (h:FnsOK (cs.map Co.row) (fs.map Fu.row)):(Mo.mk ns ps cs fs).Syms where
 a f hf:=by
  rcases h.a _ (List.mem_map_of_mem hf) with h|⟨c,hc,h⟩
  ·exact .inl h
  ·obtain ⟨d,hd,rfl⟩:=List.mem_map.1 hc
   rw [Co.row,ZHw] at h
   exact .inr ⟨d,hd,h⟩
 b c hc s hs:=h.b _ (List.mem_map_of_mem hc) s (by rw [Co.row,ZHw];exact hs)
 c:=by
  have:=h.c
  rwa [YK] at this
def ZF8 {S:SF} (H:Has S) (HR:HasPr S) {src:List Nat} (hb:Byt src) (Q:QF) (hQ: ∀(m:Mo) (ok:Bool),m.Good->(ok=true->m.ns≠[]/\m.Dist/\m.Syms)->Q [.agg m.cs',pb ok] []):Gives S Zgf [ps src,pi 4000] [] Q:=
 ZuG H HR (by unfold ZeA;omega) hb fun noms pro cfs fns ok r1 r2 r3 r4 r5=>by
  obtain ⟨m,hm,rfl,rfl,rfl,rfl⟩:=ZFr r1 r2 r3 r4
  refine hQ m ok hm fun h=>?_
  obtain ⟨h1,_,h2,h3,h4,h5,h6⟩:=r5 h
  refine ⟨fun h0=>h1 (by rw [h0];rfl),⟨?_,?_,ZHr ?_ fun x hx=>(h5 _ (List.mem_map_of_mem hx)).c58⟩,ZHE h6⟩
  ·rwa [show nmL (m.ns.map No.row)=m.ns.map No.s by simp only [nmL,YK];rfl] at h2
  ·rwa [show nmL (m.ps.map Pr.row)=m.ps.map Pr.s by simp only [nmL,YK];rfl] at h3
  ·rwa [YK] at h4
def ZHv {a b c:List Nat} (h1:Byt a) (h2:Byt b) (h3:Byt c):Gives SL ZG4 [ps a,ps b,ps c] [] fun rs _=>rs=[pb true]:=
 ZHb ZGP (by kernel_rfl) ZwD (ZF8 ZBt Zwb h1) (ZF8 ZBt Zwb h2) (ZF8 ZBt Zwb h3) rfl
end Go.Am.Fe
end
