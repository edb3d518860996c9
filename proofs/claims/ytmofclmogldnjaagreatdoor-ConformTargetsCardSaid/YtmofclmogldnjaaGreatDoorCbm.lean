/- Part. -/
import Derived.Test.YtmofclmogldnjaaGreatDoorCbk
import Derived.WalkKit
import Derived.BigCall
import Derived.Shelf.Strings.BuilderK
set_option maxRecDepth 999999
set_option maxHeartbeats 0
set_option linter.all false
def y8:=@Go.Lib.cell_of_heap
section
namespace Go.Proofs
open Go.RowKit
set_option maxHeartbeats 4000000
set_option maxRecDepth 1000000
theorem Tryz.infoB: ∃j,Tryz.prog.info? 303=some j/\j.size≠0:=by
 have h:(Tryz.prog.info? 303).map (fun j=>decide (j.size≠0))=some true:=by kernel_rfl
 obtain ⟨j,hj,hs⟩:=Option.map_eq_some_iff.1 h;exact ⟨j,hj,of_decide_eq_true hs⟩
theorem Tryz.copyCheck_used (b:Nat) (w:World) (h0:w.cell? ⟨b,0,none⟩=some (.pointer (some ⟨b,0,none⟩))):
  Calls Tryz.prog 250 #[.pointer (some ⟨b,0,none⟩)] w fun e w'=>e= .returned (.tuple #[])/\w'=w:=by
 obtain ⟨j,hj,hjs⟩:=Tryz.infoB;have mixed:Tryz.prog.follows .mixedOrders=true:=by kernel_rfl
 go_enter Tryz.func250,Tryz.ntmps250
 go_wp2
 rw [Lib.run_neq_ptr_same w _ Tryz.underlying301 hj]
 go_wp2
 go_end0
 exact ⟨rfl,rfl⟩
theorem Tryz.copyCheck_fresh (b:Nat) (w:World) (h0:w.cell? ⟨b,0,none⟩=some (.pointer none)) (hsh:w.shape? b=some (303,2)) (hfz:w.frozen? ⟨b,0,none⟩=false):
  Calls Tryz.prog 250 #[.pointer (some ⟨b,0,none⟩)] w fun e w'=>e= .returned (.tuple #[])/\w'=w.setCell ⟨b,0,none⟩ (.pointer (some ⟨b,0,none⟩)):=by
 obtain ⟨j,hj,hjs⟩:=Tryz.infoB;have mixed:Tryz.prog.follows .mixedOrders=true:=by kernel_rfl
 go_enter Tryz.func250,Tryz.ntmps250
 go_wp2
 rw [Lib.run_to_unsafe (w:=w) ⟨b,0,none⟩ Tryz.underlying301 Tryz.underlying397 hj hjs hsh (Nat.zero_lt_succ 1)];simp only [Result.andThen];rw [Oper.upon_value]
 go_wp2
 rw [run_callFunc_extern Tryz.func294 (by kernel_rfl) (by kernel_rfl) (by kernel_rfl) (e:=Extern.AbiNoEscape.same) (by kernel_rfl)];rw [Lib.run_noEscape];simp only [Result.andThen];rw [Oper.upon_value]
 go_wp2
 rw [Lib.run_from_unsafe (w:=w) ⟨b,0,none⟩ Tryz.underlying397 Tryz.underlying301 hj hsh (by kernel_rfl)];simp only [Result.andThen];rw [Oper.upon_value]
 go_wp2
 go_end0
 exact ⟨rfl,rfl⟩
theorem Tryz.copyCheck_w (B b:Nat) (bs:List Value) (w:World) (h:Lib.IsBuilderF 303 5 B b bs w):
  Calls Tryz.prog 250 #[.pointer (some ⟨b,0,none⟩)] w fun e w'=>e= .returned (.tuple #[])/\Lib.BuilderAtF 303 5 B b (.pointer (some ⟨b,0,none⟩)) bs w'/\Below B w w':=by
 rcases h with h|h
 ·refine (Tryz.copyCheck_fresh b w h.cell0 h.shape h.frozen0).mono ?_;rintro e w' ⟨rfl,rfl⟩;exact ⟨rfl,h.used _,(Below.refl B w).setCell (p:=⟨b,0,none⟩) h.1 _⟩
 ·refine (Tryz.copyCheck_used b w h.cell0).mono ?_;rintro e w' ⟨rfl,rfl⟩;exact ⟨rfl,h,Below.refl B _⟩
theorem Tryz.infoU8:(Tryz.prog.info? 5).map (fun i=>(i.zero,i.size,i.bytes))=some (some (.int .u8 0),1,1):=by kernel_rfl
theorem Tryz.WriteString_w (B b:Nat) (bs:List Value) (s:ByteArray) (w:World) (h:Lib.IsBuilderF 303 5 B b bs w) (hlen:bs.length+s.size<=140737488355328) (hBw:B<=w.heap.size):
  Calls Tryz.prog 195 #[.pointer (some ⟨b,0,none⟩),.string s] w fun e w'=>e= .returned (.tuple #[.int .i64 s.size,.nilIface])/\Lib.BuilderAtF 303 5 B b (.pointer (some ⟨b,0,none⟩)) (bs++Lib.strCells s) w'/\Below B w w':=by
 obtain ⟨i0,hi,hz0,hz1,hz2⟩:=info_parts Tryz.infoU8;have mixed:Tryz.prog.follows .mixedOrders=true:=by kernel_rfl
 have e250: ∀args w,(callFunc 250 args).run Tryz.prog w= .ok (.enter 250 args) w:=enters_of Tryz.func250 (by kernel_rfl) rfl
 go_enter Tryz.func195,Tryz.ntmps195
 go_wp2_with (go_at_fn 250;refine (Tryz.copyCheck_w B b bs _ h).mono ?_)
 rintro e w1 ⟨rfl,h1,hb1⟩;obtain ⟨hB,v,hbk,hown,hne⟩:=h1;have c0:w1.cell? ⟨b,0,none⟩=some (.pointer (some ⟨b,0,none⟩)):=by rw [y8 hbk];rfl
 have c1:w1.cell? ⟨b,1,none⟩=some v:=by rw [y8 hbk];rfl
 go_wp2_with (at_builtin;refine Lib.wpList_append_own_stringF _ rfl _ _ 289 9 rfl B 5 i0 Tryz.underlying289 Tryz.underlying9 hi hz0 hz1 hz2 _ _ _ rfl hown s rfl ?c3 ?c4 ?c5 ?_)
 case c3=>unfold maxLen;omega
 case c4=>omega
 case c5=>have:=hb1.size;omega
 intro v' w2 hown' hgrow _;have hlt:b<w1.heap.size:=(Array.getElem?_eq_some_iff.1 hbk).1;have hb2:w2.heap[b]? =some (.cells #[.pointer (some ⟨b,0,none⟩),v] 303 (0,0)):=by
  rw [hgrow.block b hlt (fun e=>hne e.symm)];exact hbk
 have d0:w2.cell? ⟨b,0,none⟩=some (.pointer (some ⟨b,0,none⟩)):=by rw [y8 hb2];rfl
 have d1:w2.cell? ⟨b,1,none⟩=some v:=by rw [y8 hb2];rfl
 have f1:w2.frozen? ⟨b,1,none⟩=false:=Lib.frozen_of_heap hb2 1;obtain ⟨ao,n',cap,rfl⟩: ∃ao n' cap,v'= .slice ao n' cap:=by
  rcases hown'.2 with ⟨hv,_⟩|⟨g,cap,cur,fz,hv,_⟩
  ·exact ⟨_,_,_,hv⟩
  ·exact ⟨_,_,_,hv⟩
 go_wp2
 go_ret2
 refine ⟨rfl,?_,?_⟩
 ·exact Lib.BuilderAtF.put (T:=303) (e:=5) hB hb2 (bs':=bs++Lib.strCells s) (by simpa [Lib.strCells_length] using hown') (by decide)
 ·exact (hb1.grown hgrow (by have:=hb1.size;omega) (fun k hk=>(hown.lt k hk).1)).setCell (p:=⟨b,1,none⟩) hB _
end Go.Proofs
end
section
namespace Go.Proofs
open Go.RowKit
set_option maxHeartbeats 4000000
set_option maxRecDepth 1000000
def Tryz.esc (c:UInt8):List UInt8:=if c=10 then [92,110] else if c=9 then [92,116] else if c=92 then [92,92] else if c=34 then [92,34] else [c]
def Tryz.escL (l:List UInt8):List UInt8:=(l.map Tryz.esc).flatten
theorem Tryz.escL_snoc (l:List UInt8) (c:UInt8):Tryz.escL (l++[c])=Tryz.escL l++Tryz.esc c:=by simp [Tryz.escL]
theorem Tryz.esc_len (c:UInt8):(Tryz.esc c).length<=2:=by unfold Tryz.esc;split;simp;split;simp;split;simp;split<;>simp
theorem Tryz.escL_len: ∀(l:List UInt8),(Tryz.escL l).length<=2*l.length
 | []=>by simp [Tryz.escL]
 | c::l=>by have:=Tryz.escL_len l;have:=Tryz.esc_len c;simp [Tryz.escL] at*;omega
theorem Tryz.escaped_walk (s:ByteArray) (w:World) (hs:s.size<=35184372088832):
  Calls Tryz.prog 376 #[.string s] w fun e w'=>e= .returned (.string ⟨(Tryz.escL s.data.toList).toArray⟩)/\Below w.heap.size w w':=by
 have mixed:Tryz.prog.follows .mixedOrders=true:=by kernel_rfl
 go_enter Tryz.func376,Tryz.ntmps376
 go_wp2
 go_loopw [4] (fun i wr=> ∃(k:Nat),k<=s.size/\i= .int .i64 k/\Lib.IsBuilderF 303 5 w.heap.size w.heap.size (Lib.byteCells (Tryz.escL (s.data.toList.take k))) wr/\Below w.heap.size w wr) (fun i _=>s.size-(intOf i).toNat)
 case atStart=>
  exact ⟨0,by omega,rfl,by simpa [Tryz.escL,Lib.byteCells] using Lib.IsBuilderF.of (Lib.fresh_isBuilder 303 5 w),(Below.refl _ w).alloc (Nat.le_refl _) _⟩
 case round=>
  obtain ⟨k,hk,rfl,hI,hbw⟩:=hrel;have hsz:=hbw.size;by_cases hp:k<s.size
  ·have hgk:s.data.toList[k]? =some s[k]:=by simp [ByteArray.getElem_eq_getElem_data,hp]
   have hnext:Tryz.escL (s.data.toList.take (k+1))=Tryz.escL (s.data.toList.take k)++Tryz.esc s[k]:=by
    rw [List.take_add_one,hgk];exact Tryz.escL_snoc _ _
   have hlen:(Lib.byteCells (Tryz.escL (s.data.toList.take k))).length+2<=140737488355328:=by
    rw [Lib.byteCells_length];have:=Tryz.escL_len (s.data.toList.take k);have:=List.length_take_le k s.data.toList;omega
   have fin: ∀(p:ByteArray) (w1:World),Tryz.esc s[k]=p.data.toList->Lib.BuilderAtF 303 5 w.heap.size w.heap.size (.pointer (some ⟨w.heap.size,0,none⟩)) (Lib.byteCells (Tryz.escL (s.data.toList.take k))++Lib.strCells p) w1->Lib.IsBuilderF 303 5 w.heap.size w.heap.size (Lib.byteCells (Tryz.escL (s.data.toList.take (k+1)))) w1:=fun p w1 h1 h2=>by
    rw [hnext,Lib.byteCells_append,h1];exact Or.inr h2
   by_cases h0:((s[k].toNat:Int)==10)=true
   ·have e1:s[k]=10:=by
     have:s[k].toNat=10:=by have:=beq_iff_eq.1 h0;omega
     exact UInt8.toNat_inj.1 this
    go_wp2_with (go_at_call 195;refine (Tryz.WriteString_w _ _ _ ⟨#[92,110]⟩ _ hI hlen hsz).mono ?_)
    rintro e W1 ⟨rfl,b1,b2⟩
    go_wp2
    go_roundw
    case rel=>
     exact ⟨k+1,hp,rfl,fin _ _ (by rw [e1];rfl) b1,hbw.trans b2⟩
    case measure=>simp [intOf];omega
   by_cases h1:((s[k].toNat:Int)==9)=true
   ·have e1:s[k]=9:=by
     have:s[k].toNat=9:=by have:=beq_iff_eq.1 h1;omega
     exact UInt8.toNat_inj.1 this
    go_wp2_with (go_at_call 195;refine (Tryz.WriteString_w _ _ _ ⟨#[92,116]⟩ _ hI hlen hsz).mono ?_)
    rintro e W1 ⟨rfl,b1,b2⟩
    go_wp2
    go_roundw
    case rel=>
     exact ⟨k+1,hp,rfl,fin _ _ (by rw [e1];rfl) b1,hbw.trans b2⟩
    case measure=>simp [intOf];omega
   by_cases h2:((s[k].toNat:Int)==92)=true
   ·have e1:s[k]=92:=by
     have:s[k].toNat=92:=by have:=beq_iff_eq.1 h2;omega
     exact UInt8.toNat_inj.1 this
    go_wp2_with (go_at_call 195;refine (Tryz.WriteString_w _ _ _ ⟨#[92,92]⟩ _ hI hlen hsz).mono ?_)
    rintro e W1 ⟨rfl,b1,b2⟩
    go_wp2
    go_roundw
    case rel=>
     exact ⟨k+1,hp,rfl,fin _ _ (by rw [e1];rfl) b1,hbw.trans b2⟩
    case measure=>simp [intOf];omega
   by_cases h3:((s[k].toNat:Int)==34)=true
   ·have e1:s[k]=34:=by
     have:s[k].toNat=34:=by have:=beq_iff_eq.1 h3;omega
     exact UInt8.toNat_inj.1 this
    go_wp2_with (go_at_call 195;refine (Tryz.WriteString_w _ _ _ ⟨#[92,34]⟩ _ hI hlen hsz).mono ?_)
    rintro e W1 ⟨rfl,b1,b2⟩
    go_wp2
    go_roundw
    case rel=>
     exact ⟨k+1,hp,rfl,fin _ _ (by rw [e1];rfl) b1,hbw.trans b2⟩
    case measure=>simp [intOf];omega
   have e1:Tryz.esc s[k]=[s[k]]:=by
    have a0:s[k]≠10:=fun e=>h0 (by rw [e];rfl);have a1:s[k]≠9:=fun e=>h1 (by rw [e];rfl);have a2:s[k]≠92:=fun e=>h2 (by rw [e];rfl);have a3:s[k]≠34:=fun e=>h3 (by rw [e];rfl);simp [Tryz.esc,a0,a1,a2,a3]
   simp only [Bool.not_eq_true] at h0 h1 h2 h3;have hsl:(Instr.slice 9 (.string s) (some (.int .i64 (k:Int))) (some (.int .i64 ((k:Int)+1))) none).run Tryz.prog wr= .ok (.string (s.extract k (k+1))) wr:=by
    have h:=run_slice_string (P:=Tryz.prog) wr 9 s .i64 .i64 (k:Int) ((k:Int)+1) Tryz.underlying9 (by omega) (by omega) (by omega);have e2:((k:Int)+1).toNat=k+1:=by omega
    rwa [Int.toNat_natCast,e2] at h
   have hex:(s.extract k (k+1)).data.toList=[s[k]]:=by
    have hd:s.data.toList.drop k=s[k]::s.data.toList.drop (k+1):=by
     have hk2:k<s.data.toList.length:=by have:s.data.toList.length=s.size:=Array.length_toList;omega
     rw [List.drop_eq_getElem_cons hk2];rw [List.getElem?_eq_getElem hk2] at hgk;rw [Option.some.inj hgk]
    rw [ByteArray.data_extract,Array.toList_extract,List.extract_eq_take_drop,hd];simp
   have hes:(s.extract k (k+1)).size=1:=by rw [ByteArray.size_extract];omega
   go_wp2_with (go_at_call 195;refine (Tryz.WriteString_w _ _ _ (s.extract k (k+1)) _ hI (by omega) hsz).mono ?_)
   rintro e W1 ⟨rfl,b1,b2⟩
   go_wp2
   go_roundw
   case rel=>
    exact ⟨k+1,hp,rfl,fin _ _ (by rw [e1,hex]) b1,hbw.trans b2⟩
   case measure=>simp [intOf];omega
  ·go_wp2_with (go_at_call 198;refine (Tryz.Builder_String_any_k w.heap.size w.heap.size _ _ hI hsz).mono ?_)
   rintro e W1 ⟨rfl,b0,b1,_⟩
   go_wp2
   go_ret
   rw [List.take_of_length_le (by have:s.data.toList.length=s.size:=Array.length_toList;omega)];exact ⟨rfl,hbw.trans b1⟩
end Go.Proofs
end
section
namespace Go.Proofs
open Go.RowKit
set_option maxHeartbeats 4000000
set_option maxRecDepth 1000000
def Tryz.text (D:Nat->ByteArray):Nat->List UInt8
 | 0=>[]
 | k+1=>Tryz.text D k++(D k).data.toList++[10]
theorem Tryz.text_len {D:Nat->ByteArray} {m:Nat} (h: ∀k,(D k).size<=m): ∀k,(Tryz.text D k).length<=k*(m+1)
 | 0=>by simp [Tryz.text]
 | k+1=>by
   have h1:=Tryz.text_len h k;have h2:=h k;have h3:(D k).data.toList.length=(D k).size:=Array.length_toList;simp only [Tryz.text,List.length_append,List.length_cons,List.length_nil,Nat.succ_mul];omega
theorem Tryz.builder_below {B b:Nat} {bs:List Value} {w w':World} (h:Lib.IsBuilderF 303 5 B b bs w) (hB:Below w.heap.size w w'):Lib.IsBuilderF 303 5 B b bs w':=by
 have g:w.grownBy w' none:=⟨hB.os,hB.tape,hB.output,hB.size,fun k hk _=>hB.block k hk⟩
 rcases h with h|h
 ·have hl:=h.lt;obtain ⟨h1,v,hb,ho,hne⟩:=h;exact Or.inl ⟨h1,v,by rw [hB.block b hl];exact hb,ho.kept g (Classical.em _),hne⟩
 ·have hl:=h.lt;obtain ⟨h1,v,hb,ho,hne⟩:=h;exact Or.inr ⟨h1,v,by rw [hB.block b hl];exact hb,ho.kept g (Classical.em _),hne⟩
theorem Tryz.print_walk (D:Nat->ByteArray) (hD: ∀k,(D k).size<=2147483648) (v0 v1 v2 v3 v4 v5 v6 v7 v9:Value) (a:Option Addr) (b off len cap:Nat) (ha:0<len->a=some ⟨b,off,none⟩) (vs:Nat->Nat->Value) (hlen:len<=30000) (hcap:0<len->len<=cap) (w:World)
  (hc: ∀i j,i<len->j<10->w.cell? ⟨b,off+i*10+j,none⟩=some (vs i j))
  (hd: ∀k wr,k<len->Below w.heap.size w wr->Calls Tryz.prog 197 #[.slice none 0 0,.agg #[vs k 0,vs k 1,vs k 2,vs k 3,vs k 4,vs k 5,vs k 6,vs k 7,vs k 8,vs k 9]] wr fun e w1=>
   ∃v,e= .returned v/\Below wr.heap.size wr w1/\Calls Tryz.prog 196 #[v,.string ⟨#[32]⟩] w1 fun e2 w2=>e2= .returned (.string (D k))/\Below w1.heap.size w1 w2):
  Calls Tryz.prog 115 #[.agg #[v0,v1,v2,v3,v4,v5,v6,v7,.slice a len cap,v9]] w fun e w'=>e= .returned (.string ⟨(Tryz.text D len).toArray⟩)/\Below w.heap.size w w':=by
 have mixed:Tryz.prog.follows .mixedOrders=true:=by kernel_rfl
 go_enter Tryz.func115,Tryz.ntmps115
 go_wp2
 go_loopw [4] (fun i wr=> ∃(k:Nat),k<=len/\i= .int .i64 k/\wr.heap[w.heap.size]? =some (.cells #[v0,v1,v2,v3,v4,v5,v6,v7,.slice a len cap,v9] 68 (0,0))/\Lib.IsBuilderF 303 5 (w.heap.size+1) (w.heap.size+1) (Lib.byteCells (Tryz.text D k)) wr/\Below w.heap.size w wr/\w.heap.size+2<=wr.heap.size) (fun i _=>len-(intOf i).toNat)
 case atStart=>
  have hz:(w.alloc (.cells #[v0,v1,v2,v3,v4,v5,v6,v7,.slice a len cap,v9] 68)).heap.size=w.heap.size+1:=Array.size_push ..;have hI:=Lib.IsBuilderF.of (Lib.fresh_isBuilder 303 5 (w.alloc (.cells #[v0,v1,v2,v3,v4,v5,v6,v7,.slice a len cap,v9] 68)));rw [hz] at hI;refine ⟨0,by omega,rfl,?_,hI,((Below.refl _ w).alloc (Nat.le_refl _) _).alloc (by rw [hz];omega) _,by show w.heap.size+2<=((w.heap.push _).push _).size;rw [Array.size_push,Array.size_push];exact Nat.le_refl _⟩;rw [Lib.alloc_old _ _ _ (by rw [hz];omega)];exact heap_alloc_new w _
 case round=>
  obtain ⟨k,hk,rfl,hn,hI,hbw,hs2⟩:=hrel;have hsz:=hbw.size;have c8:wr.cell? ⟨w.heap.size,8,none⟩=some (.slice a len cap):=by rw [y8 hn];rfl
  by_cases hp:k<len
  ·have ha':=ha (by omega);subst ha';clear ha
   replace hcap:=hcap (by omega)
   have r: ∀j,j<10->wr.cell? ⟨b,off+k*10+j,none⟩=some (vs k j):=fun j hj=>by
    have h:=hc k j hp hj;have hlt:b<w.heap.size:=by
     rcases Nat.lt_or_ge b w.heap.size with h'|h'
     ·exact h'
     ·simp [World.cell?,Array.getElem?_eq_none h'] at h
    rw [<-h];simp only [World.cell?,hbw.block b hlt]
   have r0:wr.cell? ⟨b,off+k*10,none⟩=some (vs k 0):=r 0 (by decide);have r1:=r 1 (by decide);have r2:=r 2 (by decide);have r3:=r 3 (by decide);have r4:=r 4 (by decide);have r5:=r 5 (by decide);have r6:=r 6 (by decide);have r7:=r 7 (by decide);have r8:=r 8 (by decide);have r9:=r 9 (by decide);clear r
   go_wp2_with (go_at_call 197;refine (hd k _ hp hbw).mono ?_)
   rintro e W1 ⟨v,rfl,b1,hj⟩
   go_wp2_with (go_at_call 196;refine hj.mono ?_)
   rintro e W2 ⟨rfl,b2⟩;have hb12:Below wr.heap.size wr W2:=b1.trans (b2.mono b1.size);have hn2:W2.heap[w.heap.size]? =some (.cells #[v0,v1,v2,v3,v4,v5,v6,v7,.slice (some ⟨b,off,none⟩) len cap,v9] 68 (0,0)):=by
    rw [hb12.block _ (by omega)];exact hn
   have hI2:=Tryz.builder_below hI hb12;have hz2:=hb12.size;have hDk:=hD k;have htl:=Tryz.text_len hD k;have hkm:k*(2147483648+1)<=30000*(2147483648+1):=Nat.mul_le_mul_right _ (by omega)
   go_wp2_with (go_at_call 195;refine (Tryz.WriteString_w (w.heap.size+1) (w.heap.size+1) _ (D k) _ hI2 (by rw [Lib.byteCells_length];omega) (by omega)).mono ?_)
   rintro e W3 ⟨rfl,p1,q1⟩;have hI3:Lib.IsBuilderF 303 5 (w.heap.size+1) (w.heap.size+1) (Lib.byteCells (Tryz.text D k++(D k).data.toList)) W3:=by
    rw [Lib.byteCells_append];exact Or.inr p1
   have hz3:=q1.size
   go_wp2_with (go_at_call 195;refine (Tryz.WriteString_w (w.heap.size+1) (w.heap.size+1) _ ⟨#[10]⟩ _ hI3 (by rw [Lib.byteCells_length,List.length_append];have h3:(D k).data.toList.length=(D k).size:=Array.length_toList;have h4:(ByteArray.mk #[10]).size=1:=rfl;omega) (by omega)).mono ?_)
   rintro e W4 ⟨rfl,p2,q2⟩;have hz4:=q2.size
   go_wp2
   go_roundw
   case rel=>
    refine ⟨k+1,hp,rfl,?_,?_,(hbw.trans (hb12.mono hsz)).trans ((q1.trans q2).mono (by omega)),by omega⟩
    ·rw [(q1.trans q2).block _ (by omega)];exact hn2
    ·show Lib.IsBuilderF 303 5 _ _ (Lib.byteCells (Tryz.text D k++(D k).data.toList++[10])) W4;rw [Lib.byteCells_append];exact Or.inr p2
   case measure=>simp [intOf];omega
  ·go_wp2_with (go_at_call 198;refine (Tryz.Builder_String_any_k (w.heap.size+1) (w.heap.size+1) _ _ hI (by omega)).mono ?_)
   rintro e W1 ⟨rfl,b0,b1,_⟩
   go_wp2
   go_ret
   have:k=len:=by omega
   subst this;exact ⟨rfl,hbw.trans (b1.mono (by omega))⟩
end Go.Proofs
end
