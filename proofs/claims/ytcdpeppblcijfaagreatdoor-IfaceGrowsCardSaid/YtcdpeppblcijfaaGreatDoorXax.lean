/- Part. -/
import Derived.Test.YtcdpeppblcijfaaGreatDoorXaw
set_option maxRecDepth 999999
set_option maxHeartbeats 0
set_option linter.all false
section
namespace Go.Am.Fe
variable {S:Nat->Option Fn} {Q:List A->List (List C)->Prop}
attribute [local simp] ZbO if_pos if_neg decide_eq_true decide_eq_false Z1 Z2 ZgF
theorem ZEr (H:HG S) (HL:S ZDL=some (.code ZDU)) (HC:S ZDQ=some (.code ZDV)) (HW:S ZD8=some (.code ZEk))
  (HA: ∀Q:List A->List (List C)->Prop,Q [pb true] []->Gives S Zd3 [] [] Q) {src name:List Nat} {n:Int}
  (HT: ∀Q:List A->List (List C)->Prop,(∀(m:Mo) (ok:Bool),m.Good->(ok=true->m.ns≠[]/\m.fs.length<=50000)->Q [.agg m.cs',pb ok] [])->Gives S Zgf [ps src,pi 4000] [] Q)
  (hb:Byt name) (hQ:Q [pb true] []):Gives S ZDL [ps src,pi n,ps name] [] Q:=by
 refine .code HL rfl ?_
 simp (disch:=omega)[ZDU]
 refine HT _ fun m ok hm hok=>?_
 cases ok
 ·simp (disch:=omega)
  refine HA _ ?_
  simp (disch:=omega)
  exact hQ
 obtain ⟨hne,hfl⟩:=hok rfl
 have hn0:0<m.ns.length:=List.length_pos_iff.2 hne
 have hn1:=hm.n.1
 by_cases hlen:100<name.length
 ·simp (disch:=omega)[hlen]
  refine HA _ ?_
  simp (disch:=omega)
  exact hQ
 simp (disch:=omega)[hlen]
 refine ZGf HC hm.p (fun hme=>?_) ?_
 rotate_left
 ·simp (disch:=omega)
  refine HA _ ?_
  simp (disch:=omega)
  exact hQ
 simp (disch:=omega)
 refine Lp.rule (fun (j:Nat)=>[(1,.a (pi n)),(2,.a (ps name)),fR 7,(9,.a (pi j)),(9999,.objs []),(10007,.a (.agg m.cs'))]) (fun j=>j<=name.length/\ ∀c∈name.take j,c≠47/\c≠58) (fun j=>name.length-j) (a₀:=0) rfl ⟨Nat.zero_le _,by simp⟩ ?_
 rintro j ⟨k1,k2⟩
 by_cases hj:j<name.length
 ·have hc:=hb.get hj
  simp (disch:=omega)
  by_cases h1:name[j]=47
  ·simp (disch:=omega)[h1]
   refine HA _ ?_
   simp (disch:=omega)
   exact hQ
  have h1': ¬((name[j]:Nat):Int)=47:=by omega
  simp (disch:=omega)[h1']
  by_cases h2:name[j]=123
  ·simp (disch:=omega)[h2]
   refine HA _ ?_
   simp (disch:=omega)
   exact hQ
  have h2': ¬((name[j]:Nat):Int)=123:=by omega
  simp (disch:=omega)[h2']
  by_cases h3:name[j]=58
  ·simp (disch:=omega)[h3]
   refine HA _ ?_
   simp (disch:=omega)
   exact hQ
  have h3': ¬((name[j]:Nat):Int)=58:=by omega
  simp (disch:=omega)[h3']
  by_cases h4:name[j]=46
  ·simp (disch:=omega)[h4]
   refine HA _ ?_
   simp (disch:=omega)
   exact hQ
  have h4': ¬((name[j]:Nat):Int)=46:=by omega
  simp (disch:=omega)[h4']
  exact RdN.mk (j+1) rfl ⟨hj,ZEj hj k2 ⟨h1,h3⟩⟩ Zo
 rw [List.take_of_length_le Zo] at k2
 have q1:47∉name:=fun h=>(k2 _ h).1 rfl
 have q2:58∉name:=fun h=>(k2 _ h).2 rfl
 simp (disch:=omega)
 refine Lp.rule (fun (b:Bool×Nat)=>[(1,.a (pi n)),(2,.a (ps name)),fR 7,fR 10,(11,.a (pb b.1)),(12,.a (pi b.2)),(9999,.objs []),(10007,.a (.agg m.cs')),(10010,.a (.agg m.cs'))]) (fun b=>b.2<=m.fs.length/\(b.1=true-> ∀f∈m.fs.take b.2,frq f.s name)) (fun b=>m.fs.length-b.2) (a₀:=(true,0)) rfl ⟨Nat.zero_le _,by simp⟩ ?_
 rintro ⟨fr,j⟩ ⟨k1,k2⟩
 dsimp only at k1 k2
 by_cases hj:j<m.fs.length
 ·have hs:=(hm.f.get hj).1.1.1
  cases fr
  ·simp (disch:=omega)
   exact RdN.mk (false,j+1) rfl ⟨hj,by simp⟩ Zm
  ·have k3:=k2 rfl
   have hs1:=hs.1
   by_cases hl:name.length<m.fs[j].s.length
   ·by_cases h5:m.fs[j].s.take (name.length+1)=name++[47]
    ·simp (disch:=omega)[hl,h5]
     exact RdN.mk (false,j+1) rfl ⟨hj,by simp⟩ Zm
    ·simp (disch:=omega)[hl,h5]
     exact RdN.mk (_,j+1) rfl ⟨hj,fun _=>ZEj (p:=fun f=>frq f.s name) hj k3 fun h=>h5 h.2⟩ Zm
   ·simp (disch:=omega)[hl]
    exact RdN.mk (_,j+1) rfl ⟨hj,fun _=>ZEj (p:=fun f=>frq f.s name) hj k3 fun h=>hl h.1⟩ Zm
 rw [List.take_of_length_le Zo] at k2
 have hfr:=hm.f.1
 have eR:m.fs.map Fu.row++[[.str (name++[47,48]),.sl 1 [],.sl 10 [],.sl 6 [],.int .i64 4,.str [],.int .i64 0,.sl 4 [],.int .i64 0,.str [],.int .i64 0,.sl 4 [],.int .i64 0,.str [],.int .i64 0,.int .i64 0,.str [],.int .i64 0,.sl 4 [],.sl 4 [],.sl 10 [],.int .i64 0]]=(m.fs++[Fu.new name]).map Fu.row:=by rw [List.map_append];rfl
 have o4:(Ty.mk 4 [] 0 []).fit:=⟨Sn.nil,by simp,⟨by simp,by simp⟩,trivial⟩
 have o0:Ty.zero.fit:=⟨Sn.nil,by simp,⟨by simp,by simp⟩,trivial⟩
 have oF:(Fu.new name).okn:=⟨⟨⟨by simp;omega,hb.app (by simp [Byt])⟩,by simp,⟨by simp,by simp⟩,⟨by simp,by simp⟩,o4,o0⟩,⟨by simp,by simp⟩⟩
 have oM:(Mo.mk m.ns m.ps m.cs (m.fs++[Fu.new name])).okn:=⟨hm.okn.n,hm.p,hm.c,by simp;omega,fun x hx=>(List.mem_append.1 hx).elim (hm.okn.f.2 x) fun h=>by rw [List.mem_singleton.1 h];exact oF⟩
 simp (disch:=omega)
 cases fr
 rotate_left
 have er:ZD1 m (Mo.mk m.ns m.ps m.cs (m.fs++[Fu.new name]))=[]:=ZEG (ef:=[Fu.new name]) hm (fun x i hi e=>⟨hi,e ▸ No.Ext.rfl⟩) rfl rfl rfl fun f hf=>by rw [List.mem_singleton.1 hf];exact ZFS hm q1 q2 (k2 rfl)
 simp (disch:=omega)
 rw [eR]
 refine ZEh (m2:=Mo.mk m.ns m.ps m.cs (m.fs++[Fu.new name])) H hm.okn oM (by rw [er];simp) ?_
 rw [er,ZDz rfl]
 all_goals
  simp (disch:=omega)
  refine ZGl HW hn0 hn1 fun at_ hat=>?_
  simp (disch:=omega)
  have hg:=hm.n.get hat
  have hfs:=hg.fl
  have hcs:=hg.cl
  refine Lp.rule (fun (i:Nat)=>[(2,.a (ps name)),fR 7,(14,.a (pi at_)),fR 15,(16,.a (pi i)),(9999,.objs []),(10007,.a (.agg m.cs')),(10015,.a (.agg (m.ns[at_].row.map .p)))]) (fun i=>i<=m.ns[at_].fs.length) (fun i=>m.ns[at_].fs.length-i) (a₀:=0) rfl (Nat.zero_le _) ?_
  intro i k3
  by_cases hi:i<m.ns[at_].fs.length
  ·by_cases hs:m.ns[at_].fs[i].s=name
   ·simp (disch:=omega)[hs]
    refine HA _ ?_
    simp (disch:=omega)
    exact hQ
   ·simp (disch:=omega)[hs]
    exact RdN.mk (i+1) rfl hi Zo
  simp (disch:=omega)
  refine Lp.rule (fun (i:Nat)=>[(2,.a (ps name)),fR 7,(14,.a (pi at_)),fR 15,(17,.a (pi i)),(9999,.objs []),(10007,.a (.agg m.cs')),(10015,.a (.agg (m.ns[at_].row.map .p)))]) (fun i=>i<=m.ns[at_].cs.length) (fun i=>m.ns[at_].cs.length-i) (a₀:=0) rfl (Nat.zero_le _) ?_
  intro i k3
  by_cases hi:i<m.ns[at_].cs.length
  ·by_cases hs:m.ns[at_].cs[i].s=name
   ·simp (disch:=omega)[hs]
    refine HA _ ?_
    simp (disch:=omega)
    exact hQ
   ·simp (disch:=omega)[hs]
    exact RdN.mk (i+1) rfl hi Zo
  simp (disch:=omega)
  by_cases hf:m.ns[at_].f=true
  ·simp (disch:=omega)[hf]
   refine HA _ ?_
   simp (disch:=omega)
   exact hQ
  simp (disch:=omega)[hf]
  have g0:0<(m.ns.map No.row).length:=by rw [List.length_map];exact hn0
  have gf:(ZD7 (m.ns.map No.row)).length=m.ns.length*17:=by rw [ZD7,List.length_map,(ZGx _).flat,List.length_map]
  have hm17:(at_+1)*17<=m.ns.length*17:=Nat.mul_le_mul_right _ hat
  have hsn:Sn name:=⟨by omega,hb⟩
  by_cases hk:m.ns[at_].k=2
  ·obtain ⟨y,hy⟩: ∃y:No,y=⟨m.ns[at_].s,m.ns[at_].k,m.ns[at_].gs,m.ns[at_].m,m.ns[at_].f,m.ns[at_].fs,m.ns[at_].cs++[⟨name,[],false⟩],m.ns[at_].d⟩:=⟨_,rfl⟩
   have gp:=ZFn hat y
   have hex:m.ns[at_].Ext m y:=by subst hy;exact ⟨rfl,rfl,rfl,rfl,[],[⟨name,[],false⟩],by simp,rfl,fun h=>absurd h hf,by simp,fun z hz=>by rw [List.mem_singleton.1 hz];exact ⟨hsn,by simp,by simp⟩⟩
   have hyo:y.okn:=by subst hy;exact ⟨⟨hg.ok.1.1,hg.ok.1.2.1,hg.ok.1.2.2.1,by simp;omega,fun z hz=>(List.mem_append.1 hz).elim (hg.ok.1.2.2.2.2 z) fun h=>by rw [List.mem_singleton.1 h];exact ⟨hsn,by simp,by simp⟩⟩,hg.ok.2⟩
   have hys:y.s=m.ns[at_].s:=by rw [hy]
   have er:=ZFx hm hat hys hex
   obtain ⟨Z,hZ⟩: ∃Z,Z=(m.ns.set at_ y).map No.row:=⟨_,rfl⟩
   rw [<-hZ,hy] at gp
   have gZ:Wid 17 Z:=hZ ▸ ZGx _
   have gl:m.ns.length=Z.length:=by rw [hZ,List.length_map,List.length_set]
   simp [hk,hf,Ca.row,Ty.encs_nil] at gp
   simp (disch:=first|omega|exact g0|exact gZ|exact gl) [hk,ZFX,ZEl,ZEs,gp,ZFY,ZGq]
   rw [hZ]
   refine ZEh (m2:=⟨m.ns.set at_ y,m.ps,m.cs,m.fs⟩) H hm.okn (ZFu hm.okn hyo) (by rw [er];simp) ?_
   rw [er,ZDz rfl]
   simp (disch:=omega)
   refine HA _ ?_
   simp (disch:=omega)
   exact hQ
  ·obtain ⟨y,hy⟩: ∃y:No,y=⟨m.ns[at_].s,m.ns[at_].k,m.ns[at_].gs,m.ns[at_].m,m.ns[at_].f,m.ns[at_].fs++[⟨name,.mk 1 [] 0 [],false⟩],m.ns[at_].cs,m.ns[at_].d⟩:=⟨_,rfl⟩
   have gp:=ZFn hat y
   have o1:(Ty.mk 1 [] 0 []).fit:=⟨Sn.nil,by simp,⟨by simp,by simp⟩,trivial⟩
   have hex:m.ns[at_].Ext m y:=by subst hy;exact ⟨rfl,rfl,rfl,rfl,[⟨name,.mk 1 [] 0 [],false⟩],[],rfl,by simp,fun h=>absurd h hf,fun z hz=>by rw [List.mem_singleton.1 hz];exact ⟨⟨hsn,o1⟩,hme⟩,by simp⟩
   have hyo:y.okn:=by subst hy;exact ⟨⟨hg.ok.1.1,hg.ok.1.2.1,⟨by simp;omega,fun z hz=>(List.mem_append.1 hz).elim (hg.ok.1.2.2.1.2 z) fun h=>by rw [List.mem_singleton.1 h];exact ⟨hsn,o1⟩⟩,hg.ok.1.2.2.2⟩,hg.ok.2⟩
   have hys:y.s=m.ns[at_].s:=by rw [hy]
   have er:=ZFx hm hat hys hex
   obtain ⟨Z,hZ⟩: ∃Z,Z=(m.ns.set at_ y).map No.row:=⟨_,rfl⟩
   rw [<-hZ,hy] at gp
   have gZ:Wid 17 Z:=hZ ▸ ZGx _
   have gl:m.ns.length=Z.length:=by rw [hZ,List.length_map,List.length_set]
   simp [hf,Fi.row,Ty.prj,Ty.encs_nil] at gp
   simp (disch:=first|omega|exact g0|exact gZ|exact gl) [hk,ZFX,ZEl,ZEs,gp,ZFY,ZGq]
   rw [hZ]
   refine ZEh (m2:=⟨m.ns.set at_ y,m.ps,m.cs,m.fs⟩) H hm.okn (ZFu hm.okn hyo) (by rw [er];simp) ?_
   rw [er,ZDz rfl]
   simp (disch:=omega)
   refine HA _ ?_
   simp (disch:=omega)
   exact hQ
end Go.Am.Fe
end
