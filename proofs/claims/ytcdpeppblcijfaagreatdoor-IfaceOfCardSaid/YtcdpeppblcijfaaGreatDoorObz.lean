/- Part. -/
import Derived.Test.YtcdpeppblcijfaaGreatDoorOby
set_option maxRecDepth 999999
set_option maxHeartbeats 0
set_option linter.all false
section
namespace Go.Am.Fe
open Go.Proofs
set_option maxRecDepth 1000000
def ZLH:List (Nat×SFunc):=[(ZHz,ZH3),(ZHk,ZHB),(ZHG,ZIf),(ZHl,ZHA),(ZHu,ZHQ),(ZHC,ZH5),(ZHi,ZHy),(ZHx,ZHX),(ZHj,ZHs),(ZHq,ZHN),(ZHn,ZHP),(ZHH,ZIc),(ZHJ,ZH7),(ZHt,ZHO),(ZHr,ZHD),(ZIL,ZIW),(ZHF,ZJa),(ZJr,ZJu)]
def ZKV:ZLH.all (fun p=>ZiH Tryz.prog p.1 p.2)=true:=by kernel_rfl
def ZLq:[(27,ZIE),(27,ZIJ)].all (fun p=>ZiH Tryz.prog p.1 p.2)=true:=by kernel_rfl
noncomputable def SO0:Nat->Option Fn:=addP 82 (ZBS hasP) (look ZLH SL)
def ZK9:FnOK Tryz.prog SO0:=ZjQ ZLm (ZhB ZDd (ZnL ZKV))
noncomputable def SO1 (b:Bool):Nat->Option Fn:=look [(27,match b with|true=>ZIE|false=>ZIJ)] (addP 80 (delP SO0) SO0)
def ZLP (b:Bool):FnOK Tryz.prog (SO1 b):=ZhB (ZjQ (ZLD ZK9) ZK9) (by
 intro p hp
 rw [List.mem_singleton] at hp
 subst hp
 cases b
 ·exact ZnL ZLq (27,ZIJ) Zs
 ·exact ZnL ZLq (27,ZIE) Zs)
def ZLk:List A->Bool
 | [.agg [_,_,_,.p (.sl _ [])]]=>true
 | _=>false
def ZKH {S:Nat->Option Fn} {n m:Nat} {f:Nat} {a:List A} {o:List (List C)} {r r':List A×List (List C)} (h:call S n f a o=some r) (h':call S m f a o=some r'):r=r':=by
 have h1:=Zmt (Nat.le_max_left n m) f a o r h
 have h2:=Zmt (Nat.le_max_right n m) f a o r' h'
 rw [h1] at h2
 exact Option.some.inj h2
open Classical in
noncomputable def ofP (args:List A) (os:List (List C)):Option (List A×List (List C)):=if h: ∃r n,call (SO1 (ZLk args)) n 27 args os=some r then some h.choose else none
def ZL1:Zf2 Tryz.prog 27 ofP:=by
 intro args os rs os' hp
 unfold ofP at hp
 split at hp
 ·rename_i h
  injection hp with hp
  obtain ⟨n,hn⟩:=h.choose_spec
  rw [hp] at hn
  exact ZlN (ZLP _) n 27 args os rs os' hn
 ·cases hp
noncomputable def SO:Nat->Option Fn:=addP 27 ofP SO0
def ZMh:FnOK Tryz.prog SO:=ZjQ ZL1 ZK9
def ZLh {S:Nat->Option Fn} (e:S 27=some (.prim ofP)) {args:List A} {os:List (List C)} {Q:List A->List (List C)->Prop} (h:Gives (SO1 (ZLk args)) 27 args os Q):Gives S 27 args os Q:=by
 obtain ⟨n,rs,os',h1,h2⟩:=h
 refine ⟨1,rs,os',?_,h2⟩
 unfold call Zja
 rw [e]
 show ofP args os=_
 have hx: ∃r n,call (SO1 (ZLk args)) n 27 args os=some r:=⟨_,n,h1⟩
 unfold ofP
 rw [dif_pos hx]
 obtain ⟨m,hm⟩:=hx.choose_spec
 exact congrArg some (ZKH hm h1)
theorem ZKL {S:Nat->Option Fn} (hE: ∀f,f≠82->f≠80->f≠27->ZLH.all (fun p=> !Nat.beq p.1 f)=true->S f=SL f):HG S:=by
 constructor
 all_goals first
    | (rw [hE _ Zd Zd Zd Zd];kernel_rfl)
    | (intro Q a b h;exact ZEQ (S:=S) (f:=317) (p:=cmpP) ((hE _ Zd Zd Zd Zd).trans (by kernel_rfl)) rfl h)
    | (intro Q l hl h;exact ZEQ (S:=S) (f:=75) (p:=ZBM) ((hE _ Zd Zd Zd Zd).trans (by kernel_rfl)) (by show (match Zrq (strs l) with|some xs=>_|none=>_)=_;rw [ZEq];exact if_pos Zo) h)
    | (intro Q s hs h;exact ZEQ (S:=S) (f:=143) (p:=cutP) (r:=[ps (s.takeWhile (· !=47)),ps ((Lib.cut (s.map UInt8.ofNat) [47]).2.1.map UInt8.toNat),pb (ZFI s)]) ((hE _ Zd Zd Zd Zd).trans (by kernel_rfl)) (if_pos Zo) (h _))
    | (intro Q ns h1 h2 h;exact ZGn (S:=S) (f:=133) (p:=ZBA) ((hE _ Zd Zd Zd Zd).trans (by kernel_rfl)) (by show (match Zrq (strs ns) with|some xs=>_|none=>_)=_;rw [ZEq];exact if_pos ⟨by omega,ZFD h1 h2⟩) h)
def ZLK {a b:Nat} (h:a≠b):Nat.beq a b=false:=by
 cases hb:Nat.beq a b with
 | true=>exact absurd (Nat.eq_of_beq_eq_true hb) h
 | false=>rfl
def ZJB {f:Nat} {S:Nat->Option Fn}: ∀{tab:List (Nat×SFunc)},tab.all (fun p=> !Nat.beq p.1 f)=true->look tab S f=S f
 | [],_=>rfl
 | (k,F)::l,h=>by
   rw [List.all_cons,Yb] at h
   unfold look
   have h1:Nat.beq k f=false:=by simpa using h.1
   rw [h1]
   show look l S f=_
   exact ZJB h.2
def ZJ5 {f g:Nat} {p:List A->List (List C)->Option (List A×List (List C))} {S:Nat->Option Fn} (h:f≠g):addP f p S g=S g:=by
 unfold addP
 cases hb:Nat.beq f g with
 | true=>exact absurd (Nat.eq_of_beq_eq_true hb) h
 | false=>rfl
def ZL7 {f:Nat} (h:f≠82) (ht:ZLH.all (fun p=> !Nat.beq p.1 f)=true):SO0 f=SL f:=(ZJ5 h.symm).trans (ZJB ht)
def ZLR:HG SO0:=ZKL fun f h1 _ _ h4=>ZL7 h1 h4
def ZLv (b:Bool):HG (SO1 b):=ZKL fun f h1 h2 h3 h4=>(ZJB (by simp [ZLK (Ne.symm h3)])).trans ((ZJ5 h2.symm).trans (ZL7 h1 h4))
def ZLl (b:Bool):HC (SO1 b):=by constructor<;>kernel_rfl
def ZMl {s:List Nat} {Q:List A->List (List C)->Prop} (h:Q [pb (s.elem 123)] []):Gives SO0 82 [ps s,ps [123]] [] Q:=ZEQ (S:=SO0) (f:=82) (p:=hasP) (by kernel_rfl) (show (if (123:Nat)<256 then some [A.one (.p (.bool (s.elem 123)))] else none)=some [pb (s.elem 123)] from if_pos Zd) h
def ZLx {l:List Fu} (hl:l.length<=100000) (hb: ∀f∈l,123∉f.s):ZKo SO0 22 ZHF (l.map Fu.row):=by
 have hx:SO0 ZHF=some (.code ZJa):=by kernel_rfl
 obtain ⟨n,rs,os,h1,h2,h3⟩:=ZFW (Q:=fun rs os=>rs=[pi (-1)]/\os=[]) ZLR.slicesIndexFuncLApiFuncApiFunc (f:=ZHF) (first:=[]) (caps:=[]) (os:=[]) (l:=l) (w:=Fu.row) hl (fun _ _=>rfl) Pass.nil (by simp [PassR]) (by simp [PassR]) (p:=fun _=>false) (fun x hm Q hQ=>by
  refine .code hx rfl ?_
  simp(disch:=omega)[ZJa]
  refine ZMl ?_
  simp(disch:=omega)
  rw [decide_eq_false (hb x hm)]
  exact hQ) (fun _=>⟨rfl,rfl⟩) (fun _ _ h=>by cases h)
 subst h2 h3
 exact ⟨n,h1⟩
def ZJ4 {b:Bool} {args:List A} {os:List (List C)} {r:List A×List (List C)} {Q:List A->List (List C)->Prop} (h:delP SO0 args os=some r) (hQ:Q r.1 r.2):Gives (SO1 b) 80 args os Q:=by
 refine ⟨1,r.1,r.2,?_,hQ⟩
 have e:SO1 b 80=some (.prim (delP SO0)):=by kernel_rfl
 unfold call Zja
 rw [e]
 exact h
theorem ZLn {S:Nat->Option Fn} (e27:S 27=some (.prim ofP)) {m:Mo} (hm:m.Good) (Q:List A->List (List C)->Prop) (hQ:Q [.agg m.bare.cs'] []):Gives S ZIj [.agg m.cs'] [] Q:=by
 refine ZLh e27 ?_
 have h1:=fun x hx=>(hm.n.2 x hx).df
 have h2:=fun x hx=>(hm.f.2 x hx).2.2.2.2.1
 by_cases hf:m.fs=[]
 ·have e:ZLk [.agg m.cs']=true:=by
   unfold Mo.cs'
   rw [hf];rfl
  rw [e]
  refine ZMn (ZLv true) (ZLl true) (by kernel_rfl) hm.okn h1 hf (fun Q hQ=>ZJ4 (r:=([.one (.p (.sl 22 []))],[])) (if_pos (ZLx (l:=[]) Zs Zs)) hQ) hQ
 ·have e:ZLk [.agg m.cs']=false:=by
   unfold Mo.cs'
   cases hfs:m.fs with
   | nil=>exact absurd hfs hf
   | cons x l=>rfl
  rw [e]
  refine ZMc (ZLv false) (ZLl false) (by kernel_rfl) hm.okn h1 h2 hf (fun Q hQ=>ZJ4 (r:=([.one (.own ⟨false,0,0⟩ 22 m.fs.length)],[ZD7 (m.fs.map Fu.row)])) ?_ hQ) hQ
  have t:=ZEX (ZKy m.fs) (n:=m.fs.length) Zs
  rw [Yg (Nat.le_of_eq (by rw [ZD7,Yh,(ZKy _).flat,Yh]))] at t
  have c:=ZEz (ZKy m.fs)
  rw [Yh] at c
  show (match toPs (ZD7 (m.fs.map Fu.row)) with|some ps=>_|none=>_)=_
  rw [t]
  refine if_pos ⟨?_,?_⟩
  ·rw [(ZKy _).flat,Yh]
  ·rw [c]
   exact ZLx hm.f.1 hm.nobrace
def ZKW {S:Nat->Option Fn} (H:Has S) (HR:HasPr S) {src:List Nat} (hb:Byt src) (Q:List A->List (List C)->Prop) (hQ: ∀(m:Mo) (ok:Bool),m.Good->Q [.agg m.cs',pb ok] []):Gives S Zgf [ps src,pi 4000] [] Q:=
 ZuG H HR (by unfold ZeA;omega) hb fun noms pro cfs fns ok r1 r2 r3 r4 _=>by
  obtain ⟨m,hm,rfl,rfl,rfl,rfl⟩:=ZFr r1 r2 r3 r4
  exact hQ m ok hm
end Go.Am.Fe
end
