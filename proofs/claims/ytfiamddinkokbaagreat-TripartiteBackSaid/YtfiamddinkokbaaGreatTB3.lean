/- Texts joined into one file (wip/tools/pack.py): Repeat, Fn73, Fn85, Fn122, Fn86 -/
import Derived.Test.YtfiamddinkokbaaGreatTB2
import Derived.Test.YtfiamddinkokbaaGreatTB1
import Derived.Laws.CopyOwn
import Derived.Deep.RegionLaw
set_option linter.unusedVariables false
set_option linter.unusedSimpArgs false
section
namespace Go.Proofs.YtfiamddinkokbaaGreat.F
open Go.RowKit Go.Shelf Go.Proofs.YtfiamddinkokbaaGreatW.PrintWords Go.Proofs.YtfiamddinkokbaaGreatW.PrintLast Go.Proofs.YtfiamddinkokbaaGreatW.PrintMore
def rowI (l : List Int) : List Value := l.map fun x => .int .i64 x
def repRow (N n : Nat) (c : Int) : List Int := List.replicate n c++List.replicate (N-n) 0
theorem repRow_length (N n : Nat) (c : Int) (h : n≤N) : (repRow N n c).length=N := by simp [repRow];omega
theorem rep_splice (N n m : Nat) (c : Int) (h : n+m≤N) : splice (rowI (repRow N n c)) n (rowI (List.replicate m c))=rowI (repRow N (n+m) c) := by
 unfold splice rowI repRow
 have e1:(List.replicate n c++List.replicate (N-n) (0:Int)).take n=List.replicate n c:=by rw [List.take_append_of_le_length (by simp),List.take_of_length_le (by simp)]
 have e2:(List.replicate n c++List.replicate (N-n) (0:Int)).drop (n+m)=List.replicate (N-(n+m)) 0:=by
  rw [List.drop_append,List.drop_of_length_le (by simp),List.nil_append,List.drop_replicate,List.length_replicate]
  congr 1;omega
 rw [←List.map_take,←List.map_drop,List.length_map,List.length_replicate,e1,e2,←List.map_append,←List.map_append,←List.append_assoc,List.replicate_append_replicate]
theorem rowI_rep (n : Nat) (c : Int) : rowI (List.replicate n c)=List.replicate n (.int .i64 c) := by simp [rowI]
theorem rowI_at {n : Nat} {c : Int} {j : Nat} {v : Value} (h : (rowI (List.replicate n c))[j]? = some v) : j<n∧v = .int .i64 c := by
 rw [rowI_rep,List.getElem?_replicate] at h
 split at h
 ·exact⟨by assumption,(Option.some.inj h).symm⟩
 ·cases h
theorem rowI_one {n : Nat} {c : Int} : ∀ v∈rowI (List.replicate n c),v.oneCell'=true := by
 intro v hv
 rw [rowI_rep] at hv
 rw [List.eq_of_mem_replicate hv];rfl
theorem rowI_len (n : Nat) (c : Int) : (rowI (List.replicate n c)).length=n := by simp [rowI]
theorem row_of_block {w : World} {B g N : Nat} {l : List Int} (hl : l.length=N) (hN : N≤9000000000) (hB : B≤g) (h : w.heap[g]? = some (.cells (rowI l).toArray 3 (0,0))) : Kd.R (Kd.int .i64) 3 w B (fun _=>True) (.slice (some ⟨g,0,none⟩) N N) l := by
 subst hl
 refine Kd.R_of_own (h1:=fun _=>rfl) (enc:=fun x:Int=>Value.int .i64 x) ⟨by simp [encs],.inr ⟨g,l.length,_,rfl,hB,h,Nat.le_refl _,by unfold maxLen;omega,by simp [rowI],?_⟩⟩ (fun _ _=>trivial)
 simp only [rowI,encs,Nat.mul_one]
 rw [List.take_of_length_le (by simp)]
def Repd (N : Nat) (c : Int) (w : World) (e : Ending) (w' : World) : Prop := ∃ v0_ : Value,e = .returned v0_∧Kd.R (Kd.int .i64) 3 w' w.heap.size (fun _=>True) v0_ (List.replicate N c)∧Below w.heap.size w w'
set_option maxHeartbeats 800000 in
set_option maxRecDepth 100000 in
theorem repeat_calls (A : Option Addr) (ca N : Nat) (c : Int) (w : World) (hA : Kd.C (Kd.int .i64) w A 1 [c]) (hca : 1≤ca) (hN : N≤4000000000) :
  Calls Tryz.prog 73 #[.slice A 1 ca,.int .i64 N] w (Repd N c w):=by
 have hmk:=print_make (P:=Tryz.prog) 48 3 .i64 8 Tryz.underlying48 (by kernel_rfl) (by omega) N (by omega)
 have hmul:∀ W:World,Calls Tryz.prog 111 #[.int .u64 1,.int .u64 (N:Int)] W fun e w'=>e = .returned (.tuple #[.int .u64 0,.int .u64 (N:Int)])∧W=w':=by
  intro W
  have:=Tryz.bits_Mul 1 N (by omega) (by omega) W
  rw [Nat.one_mul,Nat.div_eq_of_lt (by omega),Nat.mod_eq_of_lt (by omega)] at this
  exact this.mono fun _ _ h=>⟨h.1,h.2.symm⟩
 have HMUL:=Zd hmul
 have HA:=Zd hA
 have hb0:=below_alloc (Below.refl w.heap.size w) (.cells (madeCells #[.int .i64 0] N) 3)
 have hg0:(w.alloc (.cells (madeCells #[.int .i64 0] N) 3)).heap[w.heap.size]? = some (.cells (rowI (repRow N 0 c)).toArray 3 (0,0)):=by
  have e:madeCells #[.int .i64 0] N=(rowI (repRow N 0 c)).toArray:=by
   apply Array.ext'
   apply List.ext_getElem
   ·simp [madeCells,rowI,repRow]
   ·intro i h1 h2
    simp [madeCells,rowI,repRow,Nat.mod_one]
  rw [e];exact World.alloc_heap_new w _
 have hlen:(rowI (List.replicate (min 1 N) c)).length=Nat.min 1 N:=rowI_len _ _
 have hpos:0<(rowI (List.replicate (min 1 N) c)).length→∃ ad,A=some ad∧∀ j v,(rowI (List.replicate (min 1 N) c))[j]? = some v→(w.alloc (.cells (madeCells #[.int .i64 0] N) 3)).cell? (ad.add j)=some v:=by
  intro hp
  obtain⟨ad,e,hc⟩:=C_int_at (Kd.C_below HA.out hb0) 0 (by omega) (by omega)
  refine⟨ad,e,fun j v hj=>?_⟩
  obtain⟨hj1,rfl⟩:=rowI_at hj
  have:j=0:=by omega
  subst this
  exact hc
 have hfit:0+(rowI (List.replicate (min 1 N) c)).length≤(rowI (repRow N 0 c)).length:=by rw [rowI_len];simp [rowI,repRow];omega
 have hsp:splice (rowI (repRow N 0 c)) 0 (rowI (List.replicate (min 1 N) c))=rowI (repRow N (min 1 N) c):=by
  have:=rep_splice N 0 (min 1 N) c (by omega)
  rwa [Nat.zero_add] at this
 have HB0:=Zd hb0
 have HG0:=Zd hg0
 have HLEN:=Zd hlen
 have HPOS:=Zd hpos
 have HFIT:=Zd hfit
 have HSP:=Zd hsp
 clear hb0 hg0 hlen hpos hfit hsp
 have h1:(((1:Nat):Int)<0)=False:=by simp
 have h2:decide ((N:Int)<0)=false:=by simp
 clear hmul hA
 go_enter Tryz.func73,Tryz.ntmps73
 have hbig:decide (9223372036854775807<(N:Int))=false:=decide_eq_false (by omega)
 go_wp2_with (first
  | (go_at_call 111;(with_reducible refine (HMUL.out _).mono ?_);rintro e w1 ⟨rfl,rfl⟩)
  | ((with_reducible refine wpList_copy_splice rfl (.tmp 31) (.tmp 32) 48 48 rfl 3 Tryz.underlying48 (by kernel_rfl) (some ⟨w.heap.size,0,none⟩) A N N 1 ca rfl rfl w.heap.size 0 (rowI (repRow N 0 c)) 3 HG0.out (rowI (List.replicate (min 1 N) c)) HLEN.out (fun hp=>⟨rfl,HPOS.out hp⟩) HFIT.out rowI_one w.heap.size w HB0.out (Nat.le_refl _) ?_);intro w2 hg2 hb2;have HG2:=Zd (HSP.out▸hg2.out);have HB2:=Zd hb2;clear hg2 hb2))
 go_loopg [8] N (fun gg s8 wr=>∃ n:Nat,n≤N∧N-n≤gg∧s8 = .int .i64 n∧Aside0 (min 1 N≤n)∧Aside0 (wr.heap[w.heap.size]? = some (.cells (rowI (repRow N n c)).toArray 3 (0,0)))∧Aside0 (Below w.heap.size w wr))
 case atStart=>exact⟨min 1 N,by omega,by omega,by rw [rowI_len],⟨Nat.le_refl _⟩,HG2,HB2⟩
 case round =>
  clear HG2 HB2 HG0 HB0 HPOS HFIT HSP
  obtain⟨n,hn,hg,rfl,HM,HG,HB⟩:=hrel
  by_cases hlt:n<N
  ·have hltb:decide (n<N)=true:=decide_eq_true hlt
   have p0:(0:Int)≤(n:Int):=by omega
   have p1:(n:Int)≤(N:Int):=by omega
   have hn1:(rowI (List.replicate (min n (N-n)) c)).length=Nat.min n (N-n):=rowI_len _ _
   have hfit:n+(rowI (List.replicate (min n (N-n)) c)).length≤(rowI (repRow N n c)).length:=by rw [rowI_len];simp [rowI,repRow];omega
   have hsp:=rep_splice N n (min n (N-n)) c (by omega)
   have hg':wr.drew.heap[w.heap.size]? = some (.cells (rowI (repRow N n c)).toArray 3 (0,0)):=HG.out
   have hpos:∃ ad,(some (⟨w.heap.size,0,none⟩:Addr))=some ad∧∀ j v,(rowI (List.replicate (min n (N-n)) c))[j]? = some v→wr.drew.cell? (ad.add j)=some v:=by
    refine⟨_,rfl,fun j v hj=>?_⟩
    obtain⟨hj1,rfl⟩:=rowI_at hj
    rw [add_plain,blk_cell hg' j]
    simp only [rowI,repRow,List.getElem?_toArray,List.map_append,List.map_replicate]
    rw [List.getElem?_append_left (by simp;omega),List.getElem?_replicate,if_pos (by omega)]
   have HN:=Zd hn1
   have HFIT:=Zd hfit
   have HSP:=Zd hsp
   have HPOS:=Zd hpos
   have HG':=Zd hg'
   have HB':=Zd (Below.drew HB.out)
   clear hn1 hfit hsp hpos hg'
   have hNn:¬ N=n:=by omega
   have HWR:Aside0 (IntKind.i64.wrap ((n:Int)+((rowI (List.replicate (min n (N-n)) c)).length:Int))=((n+min n (N-n):Nat):Int)):=⟨by rw [rowI_len,i64_w];unfold wrap64;omega⟩
   go_wp2
   go_region_law (refine step_copy_splice rfl (.tmp 41) (.tmp 44) 48 48 rfl 3 Tryz.underlying48 (by kernel_rfl) (some ⟨w.heap.size,n,none⟩) (some ⟨w.heap.size,0,none⟩) (N-n) (N-n) n N (by go_simp) (by go_simp) w.heap.size n (rowI (repRow N n c)) 3 HG'.out (rowI (List.replicate (min n (N-n)) c)) HN.out (fun _=>⟨rfl,HPOS.out⟩) HFIT.out rowI_one w.heap.size w HB'.out (Nat.le_refl _) ?_;intro w4 hg4 hb4;have HG4:=Zd (HSP.out▸hg4.out);have HB4:=Zd hb4;clear hg4 hb4)
   all_goals simp only [HWR.out]
   all_goals go_wp2
   all_goals go_roundg (N-(n+min n (N-n)))
   case measure=>have:=HM.out;omega
   case rel=>exact⟨n+min n (N-n),by omega,Nat.le_refl _,rfl,⟨by have:=HM.out;omega⟩,HG4,HB4⟩
  ·obtain rfl:n=N:=by omega
   have q1:((n:Int)<(n:Int))=False:=by simp
   go_wp2
   go_ret
   refine⟨_,rfl,?_,HB.out⟩
   have:=row_of_block (N:=n) (l:=repRow n n c) (repRow_length n n c (Nat.le_refl _)) (by omega) (Nat.le_refl _) HG.out
   rwa [show repRow n n c=List.replicate n c by simp [repRow]] at this
end Go.Proofs.YtfiamddinkokbaaGreat.F
namespace Go.Proofs.YtfiamddinkokbaaGreat.F
open Go.RowKit Go.Shelf Go.Proofs.YtfiamddinkokbaaGreatW.PrintWords
theorem ext_repeat (A0 : Option Addr) (c0 : Nat) (l0 : List Int) (a1 : Int) (r : List Int) (w : World) (hr0 : Kd.C (Kd.int .i64) w A0 l0.length l0) (hc0 : l0.length≤c0)
  (h:(if l0.length=1∧0≤a1∧a1≤4000000000 then some (List.replicate a1.toNat (l0.headD 0)) else none)=some r) :
  Calls Tryz.prog 73 #[.slice A0 l0.length c0,.int .i64 a1] w fun e w'=>∃ v0_:Value,e = .returned (v0_)∧Kd.R (Kd.int .i64) 3 w' w.heap.size (fun _=>True) v0_ r∧Below w.heap.size w w':=by
 split at h
 case isFalse=>cases h
 case isTrue hl =>
 obtain rfl:=Option.some.inj h
 obtain⟨h1,h2,h3⟩:=hl
 obtain⟨c,rfl⟩:∃ c,l0=[c]:=List.length_eq_one_iff.1 h1
 have:=repeat_calls A0 c0 a1.toNat c w hr0 hc0 (by omega)
 rw [show ((a1.toNat:Nat):Int)=a1 by omega] at this
 exact this
end Go.Proofs.YtfiamddinkokbaaGreat.F
end

section
namespace Go.Proofs.YtfiamddinkokbaaGreat.F
open Go.RowKit Go.Proofs.YtfiamddinkokbaaGreatW.PrintWords Go.Proofs.YtfiamddinkokbaaGreatW.PrintLast Go.Proofs.YtfiamddinkokbaaGreatW.PrintMore
attribute [local go_sem] max2_int min2_int max_two min_two max_three min_three max_four min_four
def slices_Repeat_int_int.f (l0 : List Int) (a1 : Int) : Option (List Int) := if l0.length=1∧0≤a1∧a1≤4000000000 then some (List.replicate a1.toNat (l0.headD 0)) else none
theorem slices_Repeat_int_int.calls (A0 : Option Addr) (c0 : Nat) (l0 : List Int) (a1 : Int) (r : List Int) (w : World) (hr0 : Kd.C (Kd.int .i64) w A0 l0.length l0) (hc0 : l0.length≤c0) (h : slices_Repeat_int_int.f l0 a1=some r) :
  Calls Tryz.prog 73 #[.slice A0 l0.length c0,.int .i64 a1] w fun e w'=>∃ v0_:Value,e = .returned (v0_)∧Kd.R (Kd.int .i64) 3 w' w.heap.size (fun _=>True) v0_ r∧Below w.heap.size w w':=by
 exact ext_repeat A0 c0 l0 a1 r w hr0 hc0 h
mutual
def chunk_table.j0 : Nat→Int→Int→List (S94)→Bool→Option (List Int×Bool)
 | 0,_,_,_,_=>none
 | k+1,x0,x1,x2,x17=>if x17=true then (some (([]:List Int),false)) else ((slices_Repeat_int_int.f (([(-1)]:List Int)) x0).bind fun t184=>(chunk_table.l0 k x0 x1 t184 x2 (x2.length:Int) 0 (-1) (-1)))
def chunk_table.l0 : Nat→Int→Int→List Int→List (S94)→Int→Int→Int→Int→Option (List Int×Bool)
 | 0,_,_,_,_,_,_,_,_=>none
 | k+1,x0,x1,x8,x22,x23,x24,x188000,x188001=>if x24<x23 then (if 0≤x24 then (if x24<(x22.length:Int) then (if ((rd_T94 x22 x24).f0)≤x188000 then (some (([]:List Int),false)) else (if ((rd_T94 x22 x24).f1)≤x188001 then (some (([]:List Int),false)) else (if ((rd_T94 x22 x24).f0)≥x0 then (some (([]:List Int),false)) else (if ((rd_T94 x22 x24).f1)≥x1 then (some (([]:List Int),false)) else (if 0≤((rd_T94 x22 x24).f0) then (if ((rd_T94 x22 x24).f0)<(x8.length:Int) then (chunk_table.l0 k x0 x1 (x8.set (((rd_T94 x22 x24).f0):Int).toNat ((rd_T94 x22 x24).f1)) x22 x23 (wrap64 (x24+1)) ((rd_T94 x22 x24).f0) ((rd_T94 x22 x24).f1)) else (none)) else (none)))))) else (none)) else (none)) else (some (x8,true))
end
def chunk_table.f (k : Nat) (a0 : Int) (a1 : Int) (l2 : List (S94)) : Option (List Int×Bool) := if a0<0 then (chunk_table.j0 k a0 a1 l2 true) else (chunk_table.j0 k a0 a1 l2 (decide (a1<0)))
theorem chunk_table.mono_l : ∀ k,(∀ y0 y1 y2 y3,LeO (chunk_table.j0 k y0 y1 y2 y3) (chunk_table.j0 (k+1) y0 y1 y2 y3))∧(∀ y0 y1 y2 y3 y4 y5 y6 y7,LeO (chunk_table.l0 k y0 y1 y2 y3 y4 y5 y6 y7) (chunk_table.l0 (k+1) y0 y1 y2 y3 y4 y5 y6 y7))
 | 0=>⟨fun _ _ _ _ r h=>by simp [chunk_table.j0] at h,fun _ _ _ _ _ _ _ _ r h=>by simp [chunk_table.l0] at h⟩
 | k+1=>by
  obtain⟨ih0,ih1⟩:=chunk_table.mono_l k
  refine⟨?_,?_⟩
  ·intro y0 y1 y2 y3
   unfold chunk_table.j0
   repeat' first
   | (with_reducible exact ih0 _ _ _ _)
   | (with_reducible exact ih1 _ _ _ _ _ _ _ _)
   | (with_reducible exact LeO.refl _)
   | (with_reducible exact LeO.none _)
   | (with_reducible refine LeO.ite ?_ ?_)
   | (with_reducible refine LeO.bind ?_ (fun _=>?_))
   | exact ih0 _ _ _ _
   | exact ih1 _ _ _ _ _ _ _ _
   | exact LeO.none _
   | refine LeO.ite ?_ ?_
   | refine LeO.bind ?_ (fun _=>?_)
  ·intro y0 y1 y2 y3 y4 y5 y6 y7
   unfold chunk_table.l0
   repeat' first
   | (with_reducible exact ih0 _ _ _ _)
   | (with_reducible exact ih1 _ _ _ _ _ _ _ _)
   | (with_reducible exact LeO.refl _)
   | (with_reducible exact LeO.none _)
   | (with_reducible refine LeO.ite ?_ ?_)
   | (with_reducible refine LeO.bind ?_ (fun _=>?_))
   | exact ih0 _ _ _ _
   | exact ih1 _ _ _ _ _ _ _ _
   | exact LeO.none _
   | refine LeO.ite ?_ ?_
   | refine LeO.bind ?_ (fun _=>?_)
theorem chunk_table.mono : ∀ a0 a1 a2 k,LeO (chunk_table.f k a0 a1 a2) (chunk_table.f (k+1) a0 a1 a2) := by
 intro a0 a1 a2 k
 obtain⟨ih0,ih1⟩:=chunk_table.mono_l k
 unfold chunk_table.f
 repeat' first
   | (with_reducible exact ih0 _ _ _ _)
   | (with_reducible exact ih1 _ _ _ _ _ _ _ _)
   | (with_reducible exact LeO.refl _)
   | (with_reducible exact LeO.none _)
   | (with_reducible refine LeO.ite ?_ ?_)
   | (with_reducible refine LeO.bind ?_ (fun _=>?_))
   | exact ih0 _ _ _ _
   | exact ih1 _ _ _ _ _ _ _ _
   | exact LeO.none _
   | refine LeO.ite ?_ ?_
   | refine LeO.bind ?_ (fun _=>?_)
set_option maxHeartbeats 8000000 in
set_option maxRecDepth 100000 in
theorem chunk_table.calls (k : Nat) (a0 : Int) (a1 : Int) (A2 : Option Addr) (c2 : Nat) (l2 : List (S94)) (r1 : List Int) (r2 : Bool) (w : World) (hr2 : Kd.C k94 w A2 l2.length l2) (hc2 : l2.length≤c2) (h : chunk_table.f k a0 a1 l2=some (r1,r2)) :
  Calls Tryz.prog 85 #[.int .i64 a0,.int .i64 a1,.slice A2 l2.length c2] w fun e w'=>∃ v0_:Value,e = .returned (.tuple #[v0_,.bool r2])∧Kd.R (Kd.int .i64) 3 w' w.heap.size (fun _=>True) v0_ r1∧Below w.heap.size w w':=by
 have hu94:=Tryz.underlying94
 have HR2:=Zd hr2
 have HC2:=Zd hc2
 clear hr2 hc2
 have HB:=Zd (Below.refl w.heap.size w)
 have H:(if a0<0 then (chunk_table.j0 k a0 a1 l2 true) else (chunk_table.j0 k a0 a1 l2 (decide (a1<0))))=some (r1,r2):=h
 clear h
 have HC4:=Zd H
 clear H
 go_enter Tryz.func85,Tryz.ntmps85
 go_upto_region 1 with (fail)
 go_cut [17] (fun v17 wc=>∃ (kq:Nat) (x17_3:Bool),v17 = .bool x17_3∧Aside0 (chunk_table.j0 kq a0 a1 l2 x17_3=some (r1,r2))∧Aside0 (kq≤k)∧Aside0 (Below w.heap.size w wc))
 case first =>
  have H:=HC4.out
  clear HC4
  by_cases c5:a0<0
  ·rw [if_pos c5] at H
   have c5b0:decide (a0<0)=true:=decide_eq_true c5
   clear c5
   (first|rw [c5b0]|(simp only [i64_w,i32_w];rw [c5b0])|skip)
   have H':=Zd H
   clear H
   go_wp2
   go_meet
   case rel=>exact⟨_,(true),(by first|rfl|(simp;done)|(simp [*];done)),H',⟨by first|omega|exact Nat.le_refl _⟩,⟨by repeat (first|(with_reducible first|exact HB.out|apply below_alloc|apply pw_below_drewN|apply below_drew1)|exact HB.out)⟩⟩
  ·rw [if_neg c5] at H
   have c5b0:decide (a0<0)=false:=decide_eq_false c5
   clear c5
   (first|rw [c5b0]|(simp only [i64_w,i32_w];rw [c5b0])|skip)
   have H':=Zd H
   clear H
   go_wp2
   go_meet
   case rel=>exact⟨_,(decide (a1<0)),(by first|rfl|(simp;done)|(simp [*];done)),H',⟨by first|omega|exact Nat.le_refl _⟩,⟨by repeat (first|(with_reducible first|exact HB.out|apply below_alloc|apply pw_below_drewN|apply below_drew1)|exact HB.out)⟩⟩
 case rest =>
  clear HC4
  try clear c2
  try clear p2
  try clear c5
  try clear c5b0
  obtain⟨kq,x17_3,rfl,HA,HJ3,HB⟩:=hcut
  cases kq with
  | zero=>exact absurd HA.out (by simp [chunk_table.j0])
  | succ kj3 =>
   have H:=HA.out
   clear HA
   simp only [chunk_table.j0] at H
   by_cases c6:x17_3=true
   ·subst c6
    have H1:(some (([]:List Int),false))=some (r1,r2):=by rw [if_pos rfl] at H;exact H
    clear H
    have H:=H1
    clear H1
    simp only [Option.some.injEq,Prod.mk.injEq] at H
    obtain⟨rfl,rfl⟩:=H
    go_wp2
    go_ret2
    exact⟨_,by first|rfl|(simp [errW_none,errW_some]<;>rfl)|(simp [*,errW_none,errW_some]<;>rfl),by first|exact Kd.R_nil _ _ _ _ _|exact Kd.N_nil _ _ _ _ _|exact Kd.V_nil _ _ _ _ _|exact Kd.Q_nil _ _ _ _ _|exact Kd.S_nil _ _ _ _ _,by repeat (first|(with_reducible first|exact HB.out|apply below_alloc|apply pw_below_drewN|apply below_drew1)|exact HB.out)⟩
   ·replace c6:=Bool.eq_false_iff.mpr c6
    subst c6
    have H1:((slices_Repeat_int_int.f (([(-1)]:List Int)) a0).bind fun t184=>(chunk_table.l0 kj3 a0 a1 t184 l2 (l2.length:Int) 0 (-1) (-1)))=some (r1,r2):=by rw [if_neg (show ¬ (false=true) by decide)] at H;exact H
    clear H
    have H:=H1
    clear H1
    obtain⟨y181,hy181⟩:∃ y_:List Int,y_=(([(-1)]:List Int)):=⟨_,rfl⟩
    replace H:((slices_Repeat_int_int.f y181 a0).bind fun t184=>(chunk_table.l0 kj3 a0 a1 t184 l2 (l2.length:Int) 0 (-1) (-1)))=some (r1,r2):=by first|(rw [hy181];with_reducible exact H)|(have H2_:=(Option.bind_some _ _).symm.trans H;rw [hy181];with_reducible exact H2_)|(have H2_:=(Option.bind_some _ _).symm.trans H;with_reducible exact H2_)|with_reducible exact H|(rw [hy181];exact H)|exact H
    have Ny181:=Zd hy181
    clear hy181
    replace H:=Option.bind_eq_some_iff.mp H
    obtain⟨t184,A70,H⟩:=H
    replace H:(chunk_table.l0 kj3 a0 a1 t184 l2 (l2.length:Int) 0 (-1) (-1))=some (r1,r2):=H
    have A7:=Zd A70
    clear A70
    have H':=Zd H
    clear H
    go_wp2_with (first|((with_reducible refine gate_dst (N:=18) rfl ?_);refine Kd.R_lit (Kd.int .i64) _ 3 ?hg (N:=18) ?hd (xs:=([(-1)]:List Int)) (inner:=[.int .i64 (-1)]) (ok:=fun _=>True) (okp:=fun _=>True) ?hr ?hp (fun _ hk=>hk) trivial (Below.refl _ _) (Nat.le_refl _) (by simp) ?_;(case hd=>rfl);(case hg=>rfl);(case hr=>first|(go_simp;done)|(go_simp;rfl));(case hp=>exact (Reps.one (show Kd.M (Kd.int .i64) _ _ _ (-1) [.int .i64 (-1)] from rfl) (Reps.none _ _)));intro v182 w8 ho9 hb hg_ hnew_;clear hg_ hnew_;(first|rw [←Ny181.out] at ho9|(simp only [Int.reduceToNat] at ho9;rw [←Ny181.out] at ho9));have n0_:=Zd (Kd.R_lower ho9 (below_size Zb));have n1_:=Zd (below_step Zb hb);clear HB;have HO183:=n0_;have HB:=n1_;clear n0_ n1_;clear hb ho9;obtain⟨Ao10,co10,eo10⟩:=Kd.R_slice HO183.out;subst eo10)|((with_reducible refine gate_callee (f:=73) rfl ?_);refine goesL_ (some 20) rfl rfl Tryz.func73 (by kernel_rfl) rfl #[.slice Ao10 y181.length co10,.int .i64 a0] rfl Zl ?_;(with_reducible refine (slices_Repeat_int_int.calls _ _ y181 a0 t184 _ ?side1 ?side2 A7.out).mono ?_);(case side1=>repeat (first|exact (Kd.R_reads' HO183.out).2.2|(with_reducible refine Kd.C_alloc ?_ _)|(with_reducible refine Kd.C_drewN ?_ _)|(with_reducible refine Kd.C_drew ?_)));(case side2=>exact (Kd.R_reads' HO183.out).2.1);rintro e w11 ⟨v185,rfl,ho0,hb⟩;refine⟨_,rfl,?_⟩;have n0_:=Zd (Kd.R_elder' (Zr HO183.out) (Kd.R_base ho0) hb);have n1_:=Zd (Kd.R_lower (Kd.R_new' ho0 (Kd.R_lt (Zr HO183.out))) (below_size Zb));have n2_:=Zd (below_step Zb hb);clear HO183;clear HB;have HO183:=n0_;have HO186:=n1_;have HB:=n2_;clear n0_ n1_ n2_;(try clear hb);(try clear hb2);(try clear hk);(try clear hi);(try clear ho0))|((with_reducible refine gate_dst (N:=9) rfl ?_);refine box_event ?hg (N:=9) ?hd (cs:=#[.int .i64 0,.int .i64 0]) (t:=94) ?hr ?_;(case hd=>rfl);(case hg=>rfl);(case hr=>first|(go_simp;done)|(go_simp;rfl));intro gb187 hg w12 hbox hb;have n0_:=Zd (Kd.R_below (Zr HO183.out) hb);have n1_:=Zd (Kd.R_below (Zr HO186.out) hb);have n2_:=Zd (below_step Zb hb);have n3_:=Zd (hbox);have n4_:=Zd ((Zg hg:w.heap.size≤gb187));have n5_:=Zd ((Zg hg:w.heap.size≤gb187));clear HO183;clear HO186;clear HB;have HO183:=n0_;have HO186:=n1_;have HB:=n2_;have BK187:=n3_;have GW187:=n4_;have GE187:=n5_;clear n0_ n1_ n2_ n3_ n4_ n5_;clear hb hbox hg;obtain⟨hcz13_0,hcz13_1,hfz13_0,hfz13_1⟩:=Zc2 BK187.out))
    go_loopg [24] kj3 (fun kq v24 w'=>∃ (x8_2:List Int) (x24_2:Int) (x188000_2:Int) (x188001_2:Int),v24 = .int .i64 x24_2∧Aside0 (chunk_table.l0 kq a0 a1 x8_2 l2 (l2.length:Int) x24_2 x188000_2 x188001_2=some (r1,r2))∧Aside0 (kq≤kj3)∧Aside0 (Kd.R (Kd.int .i64) 3 w' w.heap.size (fun _=>True) v185 x8_2)∧Aside0 (w'.heap[gb187]? = some (.cells #[.int .i64 x188000_2,.int .i64 x188001_2] 94 (0,0)))∧Aside0 (Below w.heap.size w w'))
    case atStart=>exact⟨(t184),(0),((-1)),((-1)),(by first|rfl|(simp;done)|(simp [*];done)),H',⟨Nat.le_refl _⟩,⟨by refine Zr ?_;exact Kd.R_mono (Kd.R_far (p:=⟨gb187,1,none⟩) (Kd.R_far (p:=⟨gb187,0,none⟩) (Kd.R_types HO186.out BK187.out (by decide)) (fun _ hk=>hk.2) (.int .i64 (-1))) (fun _ hk=>hk.2) (.int .i64 (-1))) (fun _ hk=>trivial)⟩,⟨by refine Zk ?_;refine blk_put (cs:=#[.int .i64 (-1),.int .i64 0]) ?_ 1 _ rfl;refine Zk ?_;refine blk_put (cs:=#[.int .i64 0,.int .i64 0]) ?_ 0 _ rfl;refine Zk ?_;exact BK187.out⟩,⟨by repeat (first|(with_reducible first|exact HB.out|apply below_alloc|apply pw_below_drewN|apply below_drew1|refine below_set ?_ GE187.out)|exact HB.out)⟩⟩
    case round =>
     clear H'
     try clear c2
     try clear p2
     try clear c5
     try clear c5b0
     try clear c6
     try clear c7
     try clear c8
     try clear hcz13_0
     try clear hcz13_1
     try clear hfz13_0
     try clear hfz13_1
     try clear p2
     obtain⟨x8_2,x24_2,x188000_2,x188001_2,rfl,HA,HK2,HO_8,BK187,HB⟩:=hrel
     cases gk with
     | zero=>exact absurd HA.out (by simp [chunk_table.l0])
     | succ k2 =>
      have H:=HA.out
      clear HA
      simp only [chunk_table.l0] at H
      by_cases c14:x24_2<(l2.length:Int)
      ·rw [if_pos c14] at H
       have c14b0:decide (x24_2<(l2.length:Int))=true:=decide_eq_true c14
       clear c14
       by_cases c15:0≤x24_2
       ·rw [if_pos c15] at H
        have c15b0:decide (0≤x24_2)=true:=decide_eq_true c15
        clear c15
        by_cases c16:x24_2<(l2.length:Int)
        ·rw [if_pos c16] at H
         have c16b0:decide (x24_2<(l2.length:Int))=true:=decide_eq_true c16
         clear c16
         by_cases c17:((rd_T94 l2 x24_2).f0)≤x188000_2
         ·rw [if_pos c17] at H
          have c17b0:decide (((rd_T94 l2 x24_2).f0)≤x188000_2)=true:=decide_eq_true c17
          clear c17
          simp only [Option.some.injEq,Prod.mk.injEq] at H
          obtain⟨rfl,rfl⟩:=H
          have p188:0≤(x24_2:Int):=Zo
          have q188:x24_2<(l2.length:Int):=Zo
          obtain⟨ad188,e188,hx188_0,hx188_1⟩:=at_T94 HR2.out x24_2 p188 q188
          cases e188
          replace hx188_0:=Zx HB rfl hx188_0
          replace hx188_1:=Zx HB rfl hx188_1
          replace p188:=eq_true p188
          replace q188:=eq_true q188
          go_wp2_with (first|((with_reducible refine gate_dst (N:=11) rfl ?_);refine box_event ?hg (N:=11) ?hd (cs:=#[.int .i64 0,.int .i64 0]) (t:=94) ?hr ?_;(case hd=>rfl);(case hg=>rfl);(case hr=>first|(go_simp;done)|(go_simp;rfl));intro gb189 hg w18 hbox hb;have n0_:=Zd (Kd.R_below (Zr HO_8.out) hb);have n1_:=Zd (blk_below (g:=gb187) (o := .cells #[.int .i64 x188000_2,.int .i64 x188001_2] 94 (0,0)) (Zk BK187.out) hb);have n2_:=Zd (below_step Zb hb);have n3_:=Zd (hbox);have n4_:=Zd ((Zg hg:w.heap.size≤gb189));have n5_:=Zd ((Zg hg:w.heap.size≤gb189));have n6_:=Zd ((by rw [hg];exact Nat.ne_of_lt (blk_lt (g:=gb187) (o := .cells #[.int .i64 x188000_2,.int .i64 x188001_2] 94 (0,0)) (Zk BK187.out)):gb187≠gb189));have n7_:=Zd ((by rw [hg];exact Nat.ne_of_gt (blk_lt (g:=gb187) (o := .cells #[.int .i64 x188000_2,.int .i64 x188001_2] 94 (0,0)) (Zk BK187.out)):gb189≠gb187));clear HO_8;clear BK187;clear HB;have HO_8:=n0_;have BK187:=n1_;have HB:=n2_;have BK189:=n3_;have GW189:=n4_;have GE189:=n5_;have NB187_189:=n6_;have NB189_187:=n7_;clear n0_ n1_ n2_ n3_ n4_ n5_ n6_ n7_;clear hb hbox hg;have hnb19:=NB189_187.out;have hnc19:=NB187_189.out;obtain⟨hcz20_0,hcz20_1,hfz20_0,hfz20_1⟩:=Zc2 BK189.out;obtain⟨hcz21_0,hcz21_1,hfz21_0,hfz21_1⟩:=Zc2 BK187.out))
          go_ret2
          exact⟨_,by first|rfl|(simp [errW_none,errW_some]<;>rfl)|(simp [*,errW_none,errW_some]<;>rfl),by first|exact Kd.R_nil _ _ _ _ _|exact Kd.N_nil _ _ _ _ _|exact Kd.V_nil _ _ _ _ _|exact Kd.Q_nil _ _ _ _ _|exact Kd.S_nil _ _ _ _ _,by repeat (first|(with_reducible first|exact HB.out|apply below_alloc|apply pw_below_drewN|apply below_drew1|refine below_set ?_ GE187.out|refine below_set ?_ GE189.out)|exact HB.out)⟩
         ·rw [if_neg c17] at H
          have c17b0:decide (((rd_T94 l2 x24_2).f0)≤x188000_2)=false:=decide_eq_false c17
          clear c17
          by_cases c22:((rd_T94 l2 x24_2).f1)≤x188001_2
          ·rw [if_pos c22] at H
           have c22b0:decide (((rd_T94 l2 x24_2).f1)≤x188001_2)=true:=decide_eq_true c22
           clear c22
           simp only [Option.some.injEq,Prod.mk.injEq] at H
           obtain⟨rfl,rfl⟩:=H
           have p188:0≤(x24_2:Int):=Zo
           have q188:x24_2<(l2.length:Int):=Zo
           obtain⟨ad188,e188,hx188_0,hx188_1⟩:=at_T94 HR2.out x24_2 p188 q188
           cases e188
           replace hx188_0:=Zx HB rfl hx188_0
           replace hx188_1:=Zx HB rfl hx188_1
           replace p188:=eq_true p188
           replace q188:=eq_true q188
           go_wp2_with (first|((with_reducible refine gate_dst (N:=11) rfl ?_);refine box_event ?hg (N:=11) ?hd (cs:=#[.int .i64 0,.int .i64 0]) (t:=94) ?hr ?_;(case hd=>rfl);(case hg=>rfl);(case hr=>first|(go_simp;done)|(go_simp;rfl));intro gb189 hg w23 hbox hb;have n0_:=Zd (Kd.R_below (Zr HO_8.out) hb);have n1_:=Zd (blk_below (g:=gb187) (o := .cells #[.int .i64 x188000_2,.int .i64 x188001_2] 94 (0,0)) (Zk BK187.out) hb);have n2_:=Zd (below_step Zb hb);have n3_:=Zd (hbox);have n4_:=Zd ((Zg hg:w.heap.size≤gb189));have n5_:=Zd ((Zg hg:w.heap.size≤gb189));have n6_:=Zd ((by rw [hg];exact Nat.ne_of_lt (blk_lt (g:=gb187) (o := .cells #[.int .i64 x188000_2,.int .i64 x188001_2] 94 (0,0)) (Zk BK187.out)):gb187≠gb189));have n7_:=Zd ((by rw [hg];exact Nat.ne_of_gt (blk_lt (g:=gb187) (o := .cells #[.int .i64 x188000_2,.int .i64 x188001_2] 94 (0,0)) (Zk BK187.out)):gb189≠gb187));clear HO_8;clear BK187;clear HB;have HO_8:=n0_;have BK187:=n1_;have HB:=n2_;have BK189:=n3_;have GW189:=n4_;have GE189:=n5_;have NB187_189:=n6_;have NB189_187:=n7_;clear n0_ n1_ n2_ n3_ n4_ n5_ n6_ n7_;clear hb hbox hg;have hnb24:=NB189_187.out;have hnc24:=NB187_189.out;obtain⟨hcz25_0,hcz25_1,hfz25_0,hfz25_1⟩:=Zc2 BK189.out;obtain⟨hcz26_0,hcz26_1,hfz26_0,hfz26_1⟩:=Zc2 BK187.out))
           go_ret2
           exact⟨_,by first|rfl|(simp [errW_none,errW_some]<;>rfl)|(simp [*,errW_none,errW_some]<;>rfl),by first|exact Kd.R_nil _ _ _ _ _|exact Kd.N_nil _ _ _ _ _|exact Kd.V_nil _ _ _ _ _|exact Kd.Q_nil _ _ _ _ _|exact Kd.S_nil _ _ _ _ _,by repeat (first|(with_reducible first|exact HB.out|apply below_alloc|apply pw_below_drewN|apply below_drew1|refine below_set ?_ GE187.out|refine below_set ?_ GE189.out)|exact HB.out)⟩
          ·rw [if_neg c22] at H
           have c22b0:decide (((rd_T94 l2 x24_2).f1)≤x188001_2)=false:=decide_eq_false c22
           clear c22
           by_cases c27:((rd_T94 l2 x24_2).f0)≥a0
           ·rw [if_pos c27] at H
            have c27b0:decide (a0≤((rd_T94 l2 x24_2).f0))=true:=decide_eq_true c27
            clear c27
            simp only [Option.some.injEq,Prod.mk.injEq] at H
            obtain⟨rfl,rfl⟩:=H
            have p188:0≤(x24_2:Int):=Zo
            have q188:x24_2<(l2.length:Int):=Zo
            obtain⟨ad188,e188,hx188_0,hx188_1⟩:=at_T94 HR2.out x24_2 p188 q188
            cases e188
            replace hx188_0:=Zx HB rfl hx188_0
            replace hx188_1:=Zx HB rfl hx188_1
            replace p188:=eq_true p188
            replace q188:=eq_true q188
            go_wp2_with (first|((with_reducible refine gate_dst (N:=11) rfl ?_);refine box_event ?hg (N:=11) ?hd (cs:=#[.int .i64 0,.int .i64 0]) (t:=94) ?hr ?_;(case hd=>rfl);(case hg=>rfl);(case hr=>first|(go_simp;done)|(go_simp;rfl));intro gb189 hg w28 hbox hb;have n0_:=Zd (Kd.R_below (Zr HO_8.out) hb);have n1_:=Zd (blk_below (g:=gb187) (o := .cells #[.int .i64 x188000_2,.int .i64 x188001_2] 94 (0,0)) (Zk BK187.out) hb);have n2_:=Zd (below_step Zb hb);have n3_:=Zd (hbox);have n4_:=Zd ((Zg hg:w.heap.size≤gb189));have n5_:=Zd ((Zg hg:w.heap.size≤gb189));have n6_:=Zd ((by rw [hg];exact Nat.ne_of_lt (blk_lt (g:=gb187) (o := .cells #[.int .i64 x188000_2,.int .i64 x188001_2] 94 (0,0)) (Zk BK187.out)):gb187≠gb189));have n7_:=Zd ((by rw [hg];exact Nat.ne_of_gt (blk_lt (g:=gb187) (o := .cells #[.int .i64 x188000_2,.int .i64 x188001_2] 94 (0,0)) (Zk BK187.out)):gb189≠gb187));clear HO_8;clear BK187;clear HB;have HO_8:=n0_;have BK187:=n1_;have HB:=n2_;have BK189:=n3_;have GW189:=n4_;have GE189:=n5_;have NB187_189:=n6_;have NB189_187:=n7_;clear n0_ n1_ n2_ n3_ n4_ n5_ n6_ n7_;clear hb hbox hg;have hnb29:=NB189_187.out;have hnc29:=NB187_189.out;obtain⟨hcz30_0,hcz30_1,hfz30_0,hfz30_1⟩:=Zc2 BK189.out;obtain⟨hcz31_0,hcz31_1,hfz31_0,hfz31_1⟩:=Zc2 BK187.out))
            go_ret2
            exact⟨_,by first|rfl|(simp [errW_none,errW_some]<;>rfl)|(simp [*,errW_none,errW_some]<;>rfl),by first|exact Kd.R_nil _ _ _ _ _|exact Kd.N_nil _ _ _ _ _|exact Kd.V_nil _ _ _ _ _|exact Kd.Q_nil _ _ _ _ _|exact Kd.S_nil _ _ _ _ _,by repeat (first|(with_reducible first|exact HB.out|apply below_alloc|apply pw_below_drewN|apply below_drew1|refine below_set ?_ GE187.out|refine below_set ?_ GE189.out)|exact HB.out)⟩
           ·rw [if_neg c27] at H
            have c27b0:decide (a0≤((rd_T94 l2 x24_2).f0))=false:=decide_eq_false c27
            clear c27
            by_cases c32:((rd_T94 l2 x24_2).f1)≥a1
            ·rw [if_pos c32] at H
             have c32b0:decide (a1≤((rd_T94 l2 x24_2).f1))=true:=decide_eq_true c32
             clear c32
             simp only [Option.some.injEq,Prod.mk.injEq] at H
             obtain⟨rfl,rfl⟩:=H
             have p188:0≤(x24_2:Int):=Zo
             have q188:x24_2<(l2.length:Int):=Zo
             obtain⟨ad188,e188,hx188_0,hx188_1⟩:=at_T94 HR2.out x24_2 p188 q188
             cases e188
             replace hx188_0:=Zx HB rfl hx188_0
             replace hx188_1:=Zx HB rfl hx188_1
             replace p188:=eq_true p188
             replace q188:=eq_true q188
             go_wp2_with (first|((with_reducible refine gate_dst (N:=11) rfl ?_);refine box_event ?hg (N:=11) ?hd (cs:=#[.int .i64 0,.int .i64 0]) (t:=94) ?hr ?_;(case hd=>rfl);(case hg=>rfl);(case hr=>first|(go_simp;done)|(go_simp;rfl));intro gb189 hg w33 hbox hb;have n0_:=Zd (Kd.R_below (Zr HO_8.out) hb);have n1_:=Zd (blk_below (g:=gb187) (o := .cells #[.int .i64 x188000_2,.int .i64 x188001_2] 94 (0,0)) (Zk BK187.out) hb);have n2_:=Zd (below_step Zb hb);have n3_:=Zd (hbox);have n4_:=Zd ((Zg hg:w.heap.size≤gb189));have n5_:=Zd ((Zg hg:w.heap.size≤gb189));have n6_:=Zd ((by rw [hg];exact Nat.ne_of_lt (blk_lt (g:=gb187) (o := .cells #[.int .i64 x188000_2,.int .i64 x188001_2] 94 (0,0)) (Zk BK187.out)):gb187≠gb189));have n7_:=Zd ((by rw [hg];exact Nat.ne_of_gt (blk_lt (g:=gb187) (o := .cells #[.int .i64 x188000_2,.int .i64 x188001_2] 94 (0,0)) (Zk BK187.out)):gb189≠gb187));clear HO_8;clear BK187;clear HB;have HO_8:=n0_;have BK187:=n1_;have HB:=n2_;have BK189:=n3_;have GW189:=n4_;have GE189:=n5_;have NB187_189:=n6_;have NB189_187:=n7_;clear n0_ n1_ n2_ n3_ n4_ n5_ n6_ n7_;clear hb hbox hg;have hnb34:=NB189_187.out;have hnc34:=NB187_189.out;obtain⟨hcz35_0,hcz35_1,hfz35_0,hfz35_1⟩:=Zc2 BK189.out;obtain⟨hcz36_0,hcz36_1,hfz36_0,hfz36_1⟩:=Zc2 BK187.out))
             go_ret2
             exact⟨_,by first|rfl|(simp [errW_none,errW_some]<;>rfl)|(simp [*,errW_none,errW_some]<;>rfl),by first|exact Kd.R_nil _ _ _ _ _|exact Kd.N_nil _ _ _ _ _|exact Kd.V_nil _ _ _ _ _|exact Kd.Q_nil _ _ _ _ _|exact Kd.S_nil _ _ _ _ _,by repeat (first|(with_reducible first|exact HB.out|apply below_alloc|apply pw_below_drewN|apply below_drew1|refine below_set ?_ GE187.out|refine below_set ?_ GE189.out)|exact HB.out)⟩
            ·rw [if_neg c32] at H
             have c32b0:decide (a1≤((rd_T94 l2 x24_2).f1))=false:=decide_eq_false c32
             clear c32
             by_cases c37:0≤((rd_T94 l2 x24_2).f0)
             ·rw [if_pos c37] at H
              have c37b0:decide (0≤((rd_T94 l2 x24_2).f0))=true:=decide_eq_true c37
              clear c37
              by_cases c38:((rd_T94 l2 x24_2).f0)<(x8_2.length:Int)
              ·rw [if_pos c38] at H
               have c38b0:decide (((rd_T94 l2 x24_2).f0)<(x8_2.length:Int))=true:=decide_eq_true c38
               clear c38
               obtain⟨y190,hy190⟩:∃ y_:List Int,y_=(x8_2.set (((rd_T94 l2 x24_2).f0):Int).toNat ((rd_T94 l2 x24_2).f1)):=⟨_,rfl⟩
               replace H:(chunk_table.l0 k2 a0 a1 y190 l2 (l2.length:Int) (wrap64 (x24_2+1)) ((rd_T94 l2 x24_2).f0) ((rd_T94 l2 x24_2).f1))=some (r1,r2):=by first|(rw [hy190];with_reducible exact H)|(have H2_:=(Option.bind_some _ _).symm.trans H;rw [hy190];with_reducible exact H2_)|(have H2_:=(Option.bind_some _ _).symm.trans H;with_reducible exact H2_)|with_reducible exact H|(rw [hy190];exact H)|exact H
               have Ny190:=Zd hy190
               clear hy190
               have H':=Zd H
               clear H
               have p188:0≤(x24_2:Int):=Zo
               have q188:x24_2<(l2.length:Int):=Zo
               obtain⟨ad188,e188,hx188_0,hx188_1⟩:=at_T94 HR2.out x24_2 p188 q188
               cases e188
               replace hx188_0:=Zx HB rfl hx188_0
               replace hx188_1:=Zx HB rfl hx188_1
               replace p188:=eq_true p188
               replace q188:=eq_true q188
               go_wp2_with (first|((with_reducible refine gate_dst (N:=11) rfl ?_);refine box_event ?hg (N:=11) ?hd (cs:=#[.int .i64 0,.int .i64 0]) (t:=94) ?hr ?_;(case hd=>rfl);(case hg=>rfl);(case hr=>first|(go_simp;done)|(go_simp;rfl));intro gb189 hg w40 hbox hb;have n0_:=Zd (Kd.R_below (Zr HO_8.out) hb);have n1_:=Zd (blk_below (g:=gb187) (o := .cells #[.int .i64 x188000_2,.int .i64 x188001_2] 94 (0,0)) (Zk BK187.out) hb);have n2_:=Zd (below_step Zb hb);have n3_:=Zd (hbox);have n4_:=Zd ((Zg hg:w.heap.size≤gb189));have n5_:=Zd ((Zg hg:w.heap.size≤gb189));have n6_:=Zd ((by rw [hg];exact Nat.ne_of_lt (blk_lt (g:=gb187) (o := .cells #[.int .i64 x188000_2,.int .i64 x188001_2] 94 (0,0)) (Zk BK187.out)):gb187≠gb189));have n7_:=Zd ((by rw [hg];exact Nat.ne_of_gt (blk_lt (g:=gb187) (o := .cells #[.int .i64 x188000_2,.int .i64 x188001_2] 94 (0,0)) (Zk BK187.out)):gb189≠gb187));clear HO_8;clear BK187;clear HB;have HO_8:=n0_;have BK187:=n1_;have HB:=n2_;have BK189:=n3_;have GW189:=n4_;have GE189:=n5_;have NB187_189:=n6_;have NB189_187:=n7_;clear n0_ n1_ n2_ n3_ n4_ n5_ n6_ n7_;clear hb hbox hg;have hnb41:=NB189_187.out;have hnc41:=NB187_189.out;obtain⟨hcz42_0,hcz42_1,hfz42_0,hfz42_1⟩:=Zc2 BK189.out)|((with_reducible refine gate_store (t:=94) (p:=11) rfl ?_);refine store_event (t:=94) (p:=11) (v:=?vo_w43) (w1:=((w40.setCell ⟨gb189,0,none⟩ (.int .i64 ((rd_T94 l2 x24_2).f0))).setCell ⟨gb189,1,none⟩ (.int .i64 ((rd_T94 l2 x24_2).f1)))) ?hg ?ho ?hn ?hr ?_;(case ho=>rfl);(case hg=>rfl);(case hn=>rfl);(case hr=>first|(go_simp;done)|(go_simp;rfl));intro w43 hw;have n0_:Aside0 (Kd.R (Kd.int .i64) 3 w43 w.heap.size (fun _=>True) v185 x8_2):=⟨(by rw [hw];exact (by refine Zr ?_;exact Kd.R_mono (Kd.R_far (p:=⟨gb189,1,none⟩) (Kd.R_far (p:=⟨gb189,0,none⟩) (Kd.R_types HO_8.out BK189.out (by decide)) (fun _ hk=>hk.2) (.int .i64 ((rd_T94 l2 x24_2).f0))) (fun _ hk=>hk.2) (.int .i64 ((rd_T94 l2 x24_2).f1))) (fun _ hk=>trivial)))⟩;have n1_:Aside0 (w43.heap[gb187]? = some (.cells #[.int .i64 x188000_2,.int .i64 x188001_2] 94 (0,0))):=⟨(by rw [hw];exact (by refine Zk ?_;refine blk_far ?_ NB187_189.out _;refine Zk ?_;refine blk_far ?_ NB187_189.out _;refine Zk ?_;exact BK187.out))⟩;have n2_:Aside0 (w43.heap[gb189]? = some (.cells #[.int .i64 ((rd_T94 l2 x24_2).f0),.int .i64 ((rd_T94 l2 x24_2).f1)] 94 (0,0))):=⟨(by rw [hw];exact (by refine Zk ?_;refine blk_put (cs:=#[.int .i64 ((rd_T94 l2 x24_2).f0),.int .i64 0]) ?_ 1 _ rfl;refine Zk ?_;refine blk_put (cs:=#[.int .i64 0,.int .i64 0]) ?_ 0 _ rfl;refine Zk ?_;exact BK189.out))⟩;have n3_:Aside0 (Below w.heap.size w w43):=⟨(by rw [hw];exact Zb)⟩;clear hw;clear HO_8;clear BK187;clear BK189;clear HB;have HO_8:=n0_;have BK187:=n1_;have BK189:=n2_;have HB:=n3_;clear n0_ n1_ n2_ n3_;obtain⟨hcz44_0,hcz44_1,hfz44_0,hfz44_1⟩:=Zc2 BK189.out;obtain⟨hcz45_0,hcz45_1,hfz45_0,hfz45_1⟩:=Zc2 BK187.out;have p39:0≤(((rd_T94 l2 x24_2).f0):Int):=Zo;have q39:(((rd_T94 l2 x24_2).f0):Int)<((x8_2.length:Int):Int):=Zo;obtain⟨go39,co39,eo39,gb39,gl39,cl39,HG39⟩:=Kd.R_form HO_8.out (by omega);(first|cases eo39|(injection eo39 with ea_ en_ ec_;(first|subst ea_|(injection ea_ with ea_;subst ea_));subst ec_;clear en_));have GB39:=Zd gb39;have GG39:=Zd HG39;clear gb39 gl39 HG39;obtain⟨hx39_0,hf39_0⟩:=Kd.R_celln 0 HO_8.out (((rd_T94 l2 x24_2).f0):Int) p39 q39;replace p39:=eq_true p39;replace q39:=eq_true q39;obtain⟨hy46_,hz46_⟩:=Kd.R_celln 0 HO_8.out (((rd_T94 l2 x24_2).f0):Int) (Zo) (Zo);have HP46:=Kd.R_putg HO_8.out (((rd_T94 l2 x24_2).f0):Int) ((rd_T94 l2 x24_2).f1))|((with_reducible refine gate_store (t:=3) (p:=57) rfl ?_);refine store_event (t:=3) (p:=57) (v:=?vo_w47) (w1:=(w43.setCell ⟨go39,(((rd_T94 l2 x24_2).f0):Int).toNat,none⟩ (.int .i64 ((rd_T94 l2 x24_2).f1)))) ?hg ?ho ?hn ?hr ?_;(case ho=>rfl);(case hg=>rfl);(case hn=>rfl);(case hr=>first|(go_simp;done)|(go_simp;rfl));intro w47 hw;have hg:w43.grownBy w47 (some go39):=(by rw [hw];exact HP46.2);have hp_:Kd.R (Kd.int .i64) 3 w47 w.heap.size (fun _=>True) (.slice (some ⟨go39,0,none⟩) x8_2.length co39) y190:=(by rw [hw,Ny190.out];exact HP46.1);clear HP46;have n0_:=Zd (hp_);have n1_:=Zd (blk_grown (g:=gb187) (o := .cells #[.int .i64 x188000_2,.int .i64 x188001_2] 94 (0,0)) (Zk BK187.out) hg (Kd.R_ne HO_8.out BK187.out (by decide)));have n2_:=Zd (blk_grown (g:=gb189) (o := .cells #[.int .i64 ((rd_T94 l2 x24_2).f0),.int .i64 ((rd_T94 l2 x24_2).f1)] 94 (0,0)) (Zk BK189.out) hg (Kd.R_ne HO_8.out BK189.out (by decide)));have n3_:=Zd ((by rw [hw];exact below_set (HB.out) GB39.out:Below w.heap.size w w47));clear HO_8;clear BK187;clear BK189;clear HB;have HO_8:=n0_;have BK187:=n1_;have BK189:=n2_;have HB:=n3_;clear n0_ n1_ n2_ n3_;clear hg hw hp_;obtain⟨hcz48_0,hcz48_1,hfz48_0,hfz48_1⟩:=Zc2 BK189.out;obtain⟨hcz49_0,hcz49_1,hfz49_0,hfz49_1⟩:=Zc2 BK187.out))
               go_roundg k2
               case measure=>have:=HJ3.out;have:=HK2.out;omega
               case rel=>exact⟨(y190),(wrap64 (x24_2+1)),((rd_T94 l2 x24_2).f0),((rd_T94 l2 x24_2).f1),(by first|rfl|(simp;done)|(simp [*];done)),H',⟨by have:=HJ3.out;have:=HK2.out;omega⟩,⟨by refine Zr ?_;exact Kd.R_mono (Kd.R_far (p:=⟨gb187,1,none⟩) (Kd.R_far (p:=⟨gb187,0,none⟩) (Kd.R_types HO_8.out BK187.out (by decide)) (fun _ hk=>hk.2) (.int .i64 ((rd_T94 l2 x24_2).f0))) (fun _ hk=>hk.2) (.int .i64 ((rd_T94 l2 x24_2).f1))) (fun _ hk=>trivial)⟩,⟨by refine Zk ?_;refine blk_put (cs:=#[.int .i64 ((rd_T94 l2 x24_2).f0),.int .i64 x188001_2]) ?_ 1 _ rfl;refine Zk ?_;refine blk_put (cs:=#[.int .i64 x188000_2,.int .i64 x188001_2]) ?_ 0 _ rfl;refine Zk ?_;exact BK187.out⟩,⟨by repeat (first|(with_reducible first|exact HB.out|apply below_alloc|apply pw_below_drewN|apply below_drew1|refine below_set ?_ GE187.out|refine below_set ?_ GE189.out)|exact HB.out)⟩⟩
              ·rw [if_neg c38] at H
               exact absurd H (by simp)
             ·rw [if_neg c37] at H
              exact absurd H (by simp)
        ·rw [if_neg c16] at H
         exact absurd H (by simp)
       ·rw [if_neg c15] at H
        exact absurd H (by simp)
      ·rw [if_neg c14] at H
       have c14b0:decide (x24_2<(l2.length:Int))=false:=decide_eq_false c14
       clear c14
       simp only [Option.some.injEq,Prod.mk.injEq] at H
       obtain⟨rfl,rfl⟩:=H
       go_wp2
       go_ret2
       exact⟨_,by first|rfl|(simp [errW_none,errW_some]<;>rfl)|(simp [*,errW_none,errW_some]<;>rfl),by refine Zr ?_;exact HO_8.out,by repeat (first|(with_reducible first|exact HB.out|apply below_alloc|apply pw_below_drewN|apply below_drew1|refine below_set ?_ GE187.out)|exact HB.out)⟩
def IsS162 (w0 W : World) (g : Nat) (f0 : List Int) (f1 : List Int) (f2 : Int) (f3 : Int) (f4 : Int) : Prop := ∃ A0 c0,∃ A1 c1,W.heap[g]? = some (.cells #[.slice A0 f0.length c0,.slice A1 f1.length c1,.int .i64 f2,.int .i64 f3,.int .i64 f4] 162 (0,0))∧w0.heap.size≤g∧Kd.C (Kd.int .i64) w0 A0 f0.length f0∧Kd.C (Kd.int .i64) w0 A1 f1.length f1
theorem IsS162.grown {w0 W : World} {g : Nat} {f0 : List Int} {f1 : List Int} {f2 : Int} {f3 : Int} {f4 : Int} {W1 : World} {row : Option Nat} (h : IsS162 w0 W g f0 f1 f2 f3 f4) (hw : W.grownBy W1 row) (hne : some g≠row) : IsS162 w0 W1 g f0 f1 f2 f3 f4 := by
 obtain⟨A0,c0,A1,c1,hb,hg,hr0,hr1⟩:=h
 exact⟨A0,c0,A1,c1,blk_grown hb hw hne,hg,hr0,hr1⟩
theorem IsS162.fresh {w0 W : World} {g : Nat} {f0 : List Int} {f1 : List Int} {f2 : Int} {f3 : Int} {f4 : Int} (h : IsS162 w0 W g f0 f1 f2 f3 f4) : ∀ k,W.heap.size≤k→k≠g := by
 obtain⟨A0,c0,A1,c1,hb,hg,hr0,hr1⟩:=h
 exact Kd.freshB hb
theorem IsS162.kept {w0 W : World} {g : Nat} {f0 : List Int} {f1 : List Int} {f2 : Int} {f3 : Int} {f4 : Int} {W1 : World} {S : Nat→Prop} (h : IsS162 w0 W g f0 f1 f2 f3 f4) (hk : Kept W W1 S) (hne : ¬ S g) : IsS162 w0 W1 g f0 f1 f2 f3 f4 := by
 obtain⟨A0,c0,A1,c1,hb,hg,hr0,hr1⟩:=h
 exact⟨A0,c0,A1,c1,blk_kept hb hk hne,hg,hr0,hr1⟩
theorem IsS162.below {w0 W : World} {g : Nat} {f0 : List Int} {f1 : List Int} {f2 : Int} {f3 : Int} {f4 : Int} {W1 : World} (h : IsS162 w0 W g f0 f1 f2 f3 f4) (hw : Below W.heap.size W W1) : IsS162 w0 W1 g f0 f1 f2 f3 f4 := h.grown (grown_of_below hw none) (by simp)
theorem IsS162.alloc {w0 W : World} {g : Nat} {f0 : List Int} {f1 : List Int} {f2 : Int} {f3 : Int} {f4 : Int} (h : IsS162 w0 W g f0 f1 f2 f3 f4) (o : Obj) : IsS162 w0 (W.alloc o) g f0 f1 f2 f3 f4 := h.below (below_alloc (Below.refl _ _) o)
theorem IsS162.drewN {w0 W : World} {g : Nat} {f0 : List Int} {f1 : List Int} {f2 : Int} {f3 : Int} {f4 : Int} (h : IsS162 w0 W g f0 f1 f2 f3 f4) (m : Nat) : IsS162 w0 (W.drewN m) g f0 f1 f2 f3 f4 := h
theorem IsS162.drew {w0 W : World} {g : Nat} {f0 : List Int} {f1 : List Int} {f2 : Int} {f3 : Int} {f4 : Int} (h : IsS162 w0 W g f0 f1 f2 f3 f4) : IsS162 w0 W.drew g f0 f1 f2 f3 f4 := h
theorem IsS162.at_ {w0 W : World} {g : Nat} {f0 : List Int} {f1 : List Int} {f2 : Int} {f3 : Int} {f4 : Int} {w' : World} {m : Nat} (hq : W.drewN m=w') (h : IsS162 w0 W g f0 f1 f2 f3 f4) : IsS162 w0 w' g f0 f1 f2 f3 f4 := by subst hq;exact IsS162.drewN h m
theorem IsS162.apart {w0 W : World} {g : Nat} {f0 : List Int} {f1 : List Int} {f2 : Int} {f3 : Int} {f4 : Int} {α : Type} {d : Kd α} {e : Nat} {base : Nat} {ok : Nat→Prop} {v : Value} {xs : List α} (h : IsS162 w0 W g f0 f1 f2 f3 f4) (ho : d.R e W base ok v xs) (ht : ∀ q,q∈e::d.E→q≠162) : d.R e W base (fun k=>ok k∧k≠g) v xs := by
 obtain⟨A0,c0,A1,c1,hb,hg,hr0,hr1⟩:=h
 exact Kd.R_types ho hb ht
theorem IsS162.own_ne {w0 W : World} {g : Nat} {f0 : List Int} {f1 : List Int} {f2 : Int} {f3 : Int} {f4 : Int} {α : Type} {d : Kd α} {e : Nat} {base : Nat} {ok : Nat→Prop} {v : Value} {xs : List α} (h : IsS162 w0 W g f0 f1 f2 f3 f4) (ho : d.R e W base ok v xs) (ht : e≠162) : some g≠v.ownBlock := by
 obtain⟨A0,c0,A1,c1,hb,hg,hr0,hr1⟩:=h
 exact Kd.R_ne ho hb ht
theorem IsS162.lt {w0 W : World} {g : Nat} {f0 : List Int} {f1 : List Int} {f2 : Int} {f3 : Int} {f4 : Int} (h : IsS162 w0 W g f0 f1 f2 f3 f4) : g<W.heap.size := by
 obtain⟨A0,c0,A1,c1,hb,hg,hr0,hr1⟩:=h
 exact blk_lt hb
theorem IsS162.ge {w0 W : World} {g : Nat} {f0 : List Int} {f1 : List Int} {f2 : Int} {f3 : Int} {f4 : Int} (h : IsS162 w0 W g f0 f1 f2 f3 f4) : w0.heap.size≤g := by
 obtain⟨A0,c0,A1,c1,hb,hg,hr0,hr1⟩:=h
 exact hg
theorem IsS162.far {w0 W : World} {g : Nat} {f0 : List Int} {f1 : List Int} {f2 : Int} {f3 : Int} {f4 : Int} {p : Addr} (h : IsS162 w0 W g f0 f1 f2 f3 f4) (hne : g≠p.block) (u : Value) : IsS162 w0 (W.setCell p u) g f0 f1 f2 f3 f4 := by
 obtain⟨A0,c0,A1,c1,hb,hg,hr0,hr1⟩:=h
 exact⟨A0,c0,A1,c1,blk_far hb hne u,hg,hr0,hr1⟩
theorem cellS162_0 {W : World} {g : Nat} {A0 : Option Addr} {c0 : Nat} {A1 : Option Addr} {c1 : Nat} {f0 : List Int} {f1 : List Int} {f2 : Int} {f3 : Int} {f4 : Int} (h : W.heap[g]? = some (.cells #[.slice A0 f0.length c0,.slice A1 f1.length c1,.int .i64 f2,.int .i64 f3,.int .i64 f4] 162 (0,0))) : W.cell? ⟨g,0,none⟩=some (.slice A0 f0.length c0) := (blk_cell h 0).trans rfl
theorem cellS162_1 {W : World} {g : Nat} {A0 : Option Addr} {c0 : Nat} {A1 : Option Addr} {c1 : Nat} {f0 : List Int} {f1 : List Int} {f2 : Int} {f3 : Int} {f4 : Int} (h : W.heap[g]? = some (.cells #[.slice A0 f0.length c0,.slice A1 f1.length c1,.int .i64 f2,.int .i64 f3,.int .i64 f4] 162 (0,0))) : W.cell? ⟨g,1,none⟩=some (.slice A1 f1.length c1) := (blk_cell h 1).trans rfl
theorem cellS162_2 {W : World} {g : Nat} {A0 : Option Addr} {c0 : Nat} {A1 : Option Addr} {c1 : Nat} {f0 : List Int} {f1 : List Int} {f2 : Int} {f3 : Int} {f4 : Int} (h : W.heap[g]? = some (.cells #[.slice A0 f0.length c0,.slice A1 f1.length c1,.int .i64 f2,.int .i64 f3,.int .i64 f4] 162 (0,0))) : W.cell? ⟨g,2,none⟩=some (.int .i64 f2) := (blk_cell h 2).trans rfl
theorem IsS162.set_2 {w0 W : World} {g : Nat} {f0 : List Int} {f1 : List Int} {f2 : Int} {f3 : Int} {f4 : Int} (h : IsS162 w0 W g f0 f1 f2 f3 f4) (x : Int) : IsS162 w0 (W.setCell ⟨g,2,none⟩ (.int .i64 x)) g f0 f1 x f3 f4 := by
 obtain⟨A0,c0,A1,c1,hb,hg,hr0,hr1⟩:=h
 exact⟨A0,c0,A1,c1,by simpa using blk_set hb 2 (.int .i64 x),hg,hr0,hr1⟩
theorem cellS162_3 {W : World} {g : Nat} {A0 : Option Addr} {c0 : Nat} {A1 : Option Addr} {c1 : Nat} {f0 : List Int} {f1 : List Int} {f2 : Int} {f3 : Int} {f4 : Int} (h : W.heap[g]? = some (.cells #[.slice A0 f0.length c0,.slice A1 f1.length c1,.int .i64 f2,.int .i64 f3,.int .i64 f4] 162 (0,0))) : W.cell? ⟨g,3,none⟩=some (.int .i64 f3) := (blk_cell h 3).trans rfl
theorem IsS162.set_3 {w0 W : World} {g : Nat} {f0 : List Int} {f1 : List Int} {f2 : Int} {f3 : Int} {f4 : Int} (h : IsS162 w0 W g f0 f1 f2 f3 f4) (x : Int) : IsS162 w0 (W.setCell ⟨g,3,none⟩ (.int .i64 x)) g f0 f1 f2 x f4 := by
 obtain⟨A0,c0,A1,c1,hb,hg,hr0,hr1⟩:=h
 exact⟨A0,c0,A1,c1,by simpa using blk_set hb 3 (.int .i64 x),hg,hr0,hr1⟩
theorem cellS162_4 {W : World} {g : Nat} {A0 : Option Addr} {c0 : Nat} {A1 : Option Addr} {c1 : Nat} {f0 : List Int} {f1 : List Int} {f2 : Int} {f3 : Int} {f4 : Int} (h : W.heap[g]? = some (.cells #[.slice A0 f0.length c0,.slice A1 f1.length c1,.int .i64 f2,.int .i64 f3,.int .i64 f4] 162 (0,0))) : W.cell? ⟨g,4,none⟩=some (.int .i64 f4) := (blk_cell h 4).trans rfl
theorem IsS162.set_4 {w0 W : World} {g : Nat} {f0 : List Int} {f1 : List Int} {f2 : Int} {f3 : Int} {f4 : Int} (h : IsS162 w0 W g f0 f1 f2 f3 f4) (x : Int) : IsS162 w0 (W.setCell ⟨g,4,none⟩ (.int .i64 x)) g f0 f1 f2 f3 x := by
 obtain⟨A0,c0,A1,c1,hb,hg,hr0,hr1⟩:=h
 exact⟨A0,c0,A1,c1,by simpa using blk_set hb 4 (.int .i64 x),hg,hr0,hr1⟩
theorem IsS162.new (w0 W : World) (A0 : Option Addr) (c0 : Nat) (A1 : Option Addr) (c1 : Nat) (f0 : List Int) (f1 : List Int) (f2 : Int) (f3 : Int) (f4 : Int) (hB : Below w0.heap.size w0 W) (hr0 : Kd.C (Kd.int .i64) w0 A0 f0.length f0) (hr1 : Kd.C (Kd.int .i64) w0 A1 f1.length f1) : IsS162 w0 (W.alloc (.cells #[.slice A0 f0.length c0,.slice A1 f1.length c1,.int .i64 f2,.int .i64 f3,.int .i64 f4] 162)) W.heap.size f0 f1 f2 f3 f4 := ⟨A0,c0,A1,c1,by simpa using heap_alloc_new W _,hB.size,hr0,hr1⟩
def chunk_sweep_together.f (s0_0 : List Int) (s0_1 : List Int) (s0_2 : Int) (s0_3 : Int) (s0_4 : Int) (a1 : Int) : Option (Bool×Int×Int×Int) := if (wrap64 (s0_2+a1))<(s0_0.length : Int) then (if 0≤(wrap64 (s0_2+a1)) then (if (rd s0_0 (wrap64 (s0_2+a1)))=(wrap64 (s0_3+a1)) then (if (wrap64 (s0_2+a1))<(s0_1.length : Int) then (some (((rd s0_1 (wrap64 (s0_2+a1)))==(wrap64 (s0_4+a1))),s0_2,s0_3,s0_4)) else (none)) else (some (false,s0_2,s0_3,s0_4))) else (none)) else (some (false,s0_2,s0_3,s0_4))
set_option maxHeartbeats 8000000 in
set_option maxRecDepth 100000 in
theorem chunk_sweep_together.calls (g : Nat) (s0_0 : List Int) (s0_1 : List Int) (s0_2 : Int) (s0_3 : Int) (s0_4 : Int) (a1 : Int) (r1 : Bool) (r2 : Int) (r3 : Int) (r4 : Int) (w0 w : World) (hI : IsS162 w0 w g s0_0 s0_1 s0_2 s0_3 s0_4) (hB : Below w0.heap.size w0 w) (h : chunk_sweep_together.f s0_0 s0_1 s0_2 s0_3 s0_4 a1=some (r1,r2,r3,r4)) :
  Calls Tryz.prog 122 #[.pointer (some ⟨g,0,none⟩),.int .i64 a1] w fun e w'=>e = .returned (.bool r1)∧IsS162 w0 w' g s0_0 s0_1 r2 r3 r4∧Below w0.heap.size w0 w'∧KeepBut w w' g none:=by
 have HI0:=Zd hI
 have HK:=Zd (KeepBut.refl w g none)
 have HL:=Zd hB.size
 clear hI
 have HW0:=Zd hB.size
 have HB:=Zd hB
 clear hB
 have H:(if (wrap64 (s0_2+a1))<(s0_0.length:Int) then (if 0≤(wrap64 (s0_2+a1)) then (if (rd s0_0 (wrap64 (s0_2+a1)))=(wrap64 (s0_3+a1)) then (if (wrap64 (s0_2+a1))<(s0_1.length:Int) then (some (((rd s0_1 (wrap64 (s0_2+a1)))==(wrap64 (s0_4+a1))),s0_2,s0_3,s0_4)) else (none)) else (some (false,s0_2,s0_3,s0_4))) else (none)) else (some (false,s0_2,s0_3,s0_4)))=some (r1,r2,r3,r4):=h
 clear h
 by_cases c3:(wrap64 (s0_2+a1))<(s0_0.length:Int)
 ·rw [if_pos c3] at H
  have c3b0:decide ((wrap64 (s0_2+a1))<(s0_0.length:Int))=true:=decide_eq_true c3
  clear c3
  obtain⟨ji4,hji4⟩:∃ j_:Int,(wrap64 (s0_2+a1))=j_:=⟨_,rfl⟩
  replace H:(if 0≤(ji4) then (if (rd s0_0 (ji4))=(wrap64 (s0_3+a1)) then (if (ji4)<(s0_1.length:Int) then (some (((rd s0_1 (ji4))==(wrap64 (s0_4+a1))),s0_2,s0_3,s0_4)) else (none)) else (some (false,s0_2,s0_3,s0_4))) else (none))=some (r1,r2,r3,r4):=by first|(rw [hji4] at H;exact H)|(simp only [hji4] at H ⊢;exact H)
  (try rw [hji4] at c3b0)
  have hji4w:(IntKind.i64.wrap (s0_2+a1))=ji4:=(i64_w _).trans hji4
  by_cases c5:0≤(ji4)
  ·rw [if_pos c5] at H
   have c5b0:decide (0≤(ji4))=true:=decide_eq_true c5
   clear c5
   by_cases c6:(rd s0_0 (ji4))=(wrap64 (s0_3+a1))
   ·rw [if_pos c6] at H
    have c6b0:((rd s0_0 (ji4))==(wrap64 (s0_3+a1)))=true:=beq_iff_eq.mpr c6
    have c6b1:((rd s0_0 (ji4)) != (wrap64 (s0_3+a1)))=false:=bne_eq_false_iff_eq.mpr c6
    clear c6
    by_cases c7:(ji4)<(s0_1.length:Int)
    ·rw [if_pos c7] at H
     have c7b0:decide ((ji4)<(s0_1.length:Int))=true:=decide_eq_true c7
     clear c7
     simp only [Option.some.injEq,Prod.mk.injEq] at H
     obtain⟨rfl,rfl,rfl,rfl⟩:=H
     obtain⟨ASz8_0,cSz8_0,ASz8_1,cSz8_1,HGz8,hgz8,HSz8_0,HSz8_1⟩:=HI0.out
     have hcz8_0:=cellS162_0 HGz8
     have hcz8_1:=cellS162_1 HGz8
     have hcz8_2:=cellS162_2 HGz8
     have hcz8_3:=cellS162_3 HGz8
     have hcz8_4:=cellS162_4 HGz8
     have hfz8_2:=blk_frozen HGz8 2
     have hfz8_3:=blk_frozen HGz8 3
     have hfz8_4:=blk_frozen HGz8 4
     clear HGz8 hgz8
     have p191:0≤((ji4):Int):=Zo
     have q191:(ji4)<(s0_0.length:Int):=Zo
     obtain⟨ad191,e191,hx191_0⟩:=Kd.at_int HSz8_0 (ji4) p191 q191
     cases e191
     replace hx191_0:=pw_cell_below HB.out hx191_0
     replace p191:=eq_true p191
     replace q191:=eq_true q191
     have p192:0≤((ji4):Int):=Zo
     have q192:(ji4)<(s0_1.length:Int):=Zo
     obtain⟨ad192,e192,hx192_0⟩:=Kd.at_int HSz8_1 (ji4) p192 q192
     cases e192
     replace hx192_0:=pw_cell_below HB.out hx192_0
     replace p192:=eq_true p192
     replace q192:=eq_true q192
     go_enter Tryz.func122,Tryz.ntmps122
     go_wp2
     repeat (go_quiet (fail);try go_wp2)
     go_ret
     exact⟨by first|rfl|(simp [errW_none,errW_some]<;>rfl)|(simp only [←hji4];first|rfl|(simp [errW_none,errW_some]<;>rfl))|(simp [*,errW_none,errW_some]<;>rfl),by repeat (first|(with_reducible first|exact HI0.out|apply IsS162.alloc|apply IsS162.drewN|apply IsS162.drew|apply IsS162.set_2|apply IsS162.set_3|apply IsS162.set_4)|exact HI0.out),by repeat (first|(with_reducible first|exact HB.out|apply below_alloc|apply pw_below_drewN|apply below_drew1|refine below_set ?_ (IsS162.ge HI0.out))|exact HB.out),by repeat (first|(with_reducible first|exact HK.out|apply KeepBut.set_|apply keep_drewN|apply keep_drew|apply keep_alloc)|exact HK.out)⟩
    ·rw [if_neg c7] at H
     exact absurd H (by simp)
   ·rw [if_neg c6] at H
    have c6b0:((rd s0_0 (ji4))==(wrap64 (s0_3+a1)))=false:=beq_eq_false_iff_ne.mpr c6
    have c6b1:((rd s0_0 (ji4)) != (wrap64 (s0_3+a1)))=true:=bne_iff_ne.mpr c6
    simp only [Option.some.injEq,Prod.mk.injEq] at H
    obtain⟨rfl,rfl,rfl,rfl⟩:=H
    obtain⟨ASz9_0,cSz9_0,ASz9_1,cSz9_1,HGz9,hgz9,HSz9_0,HSz9_1⟩:=HI0.out
    have hcz9_0:=cellS162_0 HGz9
    have hcz9_1:=cellS162_1 HGz9
    have hcz9_2:=cellS162_2 HGz9
    have hcz9_3:=cellS162_3 HGz9
    have hcz9_4:=cellS162_4 HGz9
    have hfz9_2:=blk_frozen HGz9 2
    have hfz9_3:=blk_frozen HGz9 3
    have hfz9_4:=blk_frozen HGz9 4
    clear HGz9 hgz9
    have p191:0≤((ji4):Int):=Zo
    have q191:(ji4)<(s0_0.length:Int):=Zo
    obtain⟨ad191,e191,hx191_0⟩:=Kd.at_int HSz9_0 (ji4) p191 q191
    cases e191
    replace hx191_0:=pw_cell_below HB.out hx191_0
    replace p191:=eq_true p191
    replace q191:=eq_true q191
    go_enter Tryz.func122,Tryz.ntmps122
    go_wp2
    repeat (go_quiet (fail);try go_wp2)
    go_ret
    exact⟨by first|rfl|(simp [errW_none,errW_some]<;>rfl)|(simp only [←hji4];first|rfl|(simp [errW_none,errW_some]<;>rfl))|(simp [*,errW_none,errW_some]<;>rfl),by repeat (first|(with_reducible first|exact HI0.out|apply IsS162.alloc|apply IsS162.drewN|apply IsS162.drew|apply IsS162.set_2|apply IsS162.set_3|apply IsS162.set_4)|exact HI0.out),by repeat (first|(with_reducible first|exact HB.out|apply below_alloc|apply pw_below_drewN|apply below_drew1|refine below_set ?_ (IsS162.ge HI0.out))|exact HB.out),by repeat (first|(with_reducible first|exact HK.out|apply KeepBut.set_|apply keep_drewN|apply keep_drew|apply keep_alloc)|exact HK.out)⟩
  ·rw [if_neg c5] at H
   exact absurd H (by simp)
 ·rw [if_neg c3] at H
  have c3b0:decide ((wrap64 (s0_2+a1))<(s0_0.length:Int))=false:=decide_eq_false c3
  clear c3
  simp only [Option.some.injEq,Prod.mk.injEq] at H
  obtain⟨rfl,rfl,rfl,rfl⟩:=H
  obtain⟨ASz10_0,cSz10_0,ASz10_1,cSz10_1,HGz10,hgz10,HSz10_0,HSz10_1⟩:=HI0.out
  have hcz10_0:=cellS162_0 HGz10
  have hcz10_1:=cellS162_1 HGz10
  have hcz10_2:=cellS162_2 HGz10
  have hcz10_3:=cellS162_3 HGz10
  have hcz10_4:=cellS162_4 HGz10
  have hfz10_2:=blk_frozen HGz10 2
  have hfz10_3:=blk_frozen HGz10 3
  have hfz10_4:=blk_frozen HGz10 4
  clear HGz10 hgz10
  go_enter Tryz.func122,Tryz.ntmps122
  go_wp2
  repeat (go_quiet (fail);try go_wp2)
  go_ret
  exact⟨by first|rfl|(simp [errW_none,errW_some]<;>rfl)|(simp [*,errW_none,errW_some]<;>rfl),by repeat (first|(with_reducible first|exact HI0.out|apply IsS162.alloc|apply IsS162.drewN|apply IsS162.drew|apply IsS162.set_2|apply IsS162.set_3|apply IsS162.set_4)|exact HI0.out),by repeat (first|(with_reducible first|exact HB.out|apply below_alloc|apply pw_below_drewN|apply below_drew1|refine below_set ?_ (IsS162.ge HI0.out))|exact HB.out),by repeat (first|(with_reducible first|exact HK.out|apply KeepBut.set_|apply keep_drewN|apply keep_drew|apply keep_alloc)|exact HK.out)⟩
def chunk_sweep_stable.l0 : Nat→Int→List Int→List Int→Int→Int→Int→Option (Int×Int×Int×Int)
 | 0,_,_,_,_,_,_=>none
 | k+1,x3,x1000,x1001,x1002,x1003,x1004=>(chunk_sweep_together.f x1000 x1001 x1002 x1003 x1004 x3).bind fun bt193=>(if bt193.1=true then (chunk_sweep_stable.l0 k (wrap64 (x3+1)) x1000 x1001 bt193.2.1 bt193.2.2.1 bt193.2.2.2) else (some (x3,bt193.2.1,bt193.2.2.1,bt193.2.2.2)))
def chunk_sweep_stable.f (k : Nat) (s0_0 : List Int) (s0_1 : List Int) (s0_2 : Int) (s0_3 : Int) (s0_4 : Int) : Option (Int×Int×Int×Int) := chunk_sweep_stable.l0 k 0 s0_0 s0_1 s0_2 s0_3 s0_4
theorem chunk_sweep_stable.mono_l : ∀ k,(∀ y0 y1 y2 y3 y4 y5,LeO (chunk_sweep_stable.l0 k y0 y1 y2 y3 y4 y5) (chunk_sweep_stable.l0 (k+1) y0 y1 y2 y3 y4 y5))
 | 0=>fun _ _ _ _ _ _ r h=>by simp [chunk_sweep_stable.l0] at h
 | k+1=>by
  have ih0:=chunk_sweep_stable.mono_l k
  ·intro y0 y1 y2 y3 y4 y5
   unfold chunk_sweep_stable.l0
   repeat' first
   | (with_reducible exact ih0 _ _ _ _ _ _)
   | (with_reducible exact LeO.refl _)
   | (with_reducible exact LeO.none _)
   | (with_reducible refine LeO.ite ?_ ?_)
   | (with_reducible refine LeO.bind ?_ (fun _=>?_))
   | exact ih0 _ _ _ _ _ _
   | exact LeO.none _
   | refine LeO.ite ?_ ?_
   | refine LeO.bind ?_ (fun _=>?_)
theorem chunk_sweep_stable.mono : ∀ a0 a1 a2 a3 a4 k,LeO (chunk_sweep_stable.f k a0 a1 a2 a3 a4) (chunk_sweep_stable.f (k+1) a0 a1 a2 a3 a4) := by
 intro a0 a1 a2 a3 a4 k
 have ih0:=chunk_sweep_stable.mono_l k
 unfold chunk_sweep_stable.f
 repeat' first
   | (with_reducible exact ih0 _ _ _ _ _ _)
   | (with_reducible exact LeO.refl _)
   | (with_reducible exact LeO.none _)
   | (with_reducible refine LeO.ite ?_ ?_)
   | (with_reducible refine LeO.bind ?_ (fun _=>?_))
   | exact ih0 _ _ _ _ _ _
   | exact LeO.none _
   | refine LeO.ite ?_ ?_
   | refine LeO.bind ?_ (fun _=>?_)
set_option maxHeartbeats 8000000 in
set_option maxRecDepth 100000 in
theorem chunk_sweep_stable.calls (k : Nat) (g : Nat) (s0_0 : List Int) (s0_1 : List Int) (s0_2 : Int) (s0_3 : Int) (s0_4 : Int) (r1 : Int) (r2 : Int) (r3 : Int) (r4 : Int) (w0 w : World) (hI : IsS162 w0 w g s0_0 s0_1 s0_2 s0_3 s0_4) (hB : Below w0.heap.size w0 w) (h : chunk_sweep_stable.f k s0_0 s0_1 s0_2 s0_3 s0_4=some (r1,r2,r3,r4)) :
  Calls Tryz.prog 86 #[.pointer (some ⟨g,0,none⟩)] w fun e w'=>e = .returned (.int .i64 r1)∧IsS162 w0 w' g s0_0 s0_1 r2 r3 r4∧Below w0.heap.size w0 w'∧KeepBut w w' g none:=by
 have HI0:=Zd hI
 have HK:=Zd (KeepBut.refl w g none)
 have HL:=Zd hB.size
 clear hI
 have HW0:=Zd hB.size
 have HB:=Zd hB
 clear hB
 have H:(chunk_sweep_stable.l0 k 0 s0_0 s0_1 s0_2 s0_3 s0_4)=some (r1,r2,r3,r4):=h
 clear h
 have H':=Zd H
 clear H
 go_enter Tryz.func86,Tryz.ntmps86
 go_wp2
 go_loopg [3] k (fun kq v3 w'=>∃ (x3_1:Int) (x1002_1:Int) (x1003_1:Int) (x1004_1:Int),v3 = .int .i64 x3_1∧Aside0 (chunk_sweep_stable.l0 kq x3_1 s0_0 s0_1 x1002_1 x1003_1 x1004_1=some (r1,r2,r3,r4))∧Aside0 (kq≤k)∧Aside0 (IsS162 w0 w' g s0_0 s0_1 x1002_1 x1003_1 x1004_1)∧Aside0 (KeepBut w w' g none)∧Aside0 (Below w0.heap.size w0 w'))
 case atStart=>exact⟨(0),(s0_2),(s0_3),(s0_4),(by first|rfl|(simp;done)|(simp [*];done)),H',⟨Nat.le_refl _⟩,⟨by repeat (first|(with_reducible first|exact HI0.out|apply IsS162.alloc|apply IsS162.drewN|apply IsS162.drew|apply IsS162.set_2|apply IsS162.set_3|apply IsS162.set_4)|exact HI0.out)⟩,⟨by repeat (first|(with_reducible first|exact HK.out|apply KeepBut.set_|apply keep_drewN|apply keep_drew|apply keep_alloc)|exact HK.out)⟩,⟨by repeat (first|(with_reducible first|exact HB.out|apply below_alloc|apply pw_below_drewN|apply below_drew1|refine below_set ?_ (IsS162.ge HI0.out))|exact HB.out)⟩⟩
 case round =>
  clear H'
  obtain⟨x3_1,x1002_1,x1003_1,x1004_1,rfl,HA,HK1,HI0,HK,HB⟩:=hrel
  cases gk with
  | zero=>exact absurd HA.out (by simp [chunk_sweep_stable.l0])
  | succ k1 =>
   have H:=HA.out
   clear HA
   simp only [chunk_sweep_stable.l0] at H
   replace H:=Option.bind_eq_some_iff.mp H
   obtain⟨⟨t193,t194,t195,t196⟩,A20,H⟩:=H
   replace H:(if t193=true then (chunk_sweep_stable.l0 k1 (wrap64 (x3_1+1)) s0_0 s0_1 t194 t195 t196) else (some (x3_1,t194,t195,t196)))=some (r1,r2,r3,r4):=H
   have A2:=Zd A20
   clear A20
   by_cases c3:t193=true
   ·subst c3
    have H1:(chunk_sweep_stable.l0 k1 (wrap64 (x3_1+1)) s0_0 s0_1 t194 t195 t196)=some (r1,r2,r3,r4):=by rw [if_pos rfl] at H;exact H
    clear H
    have H:=H1
    clear H1
    have H':=Zd H
    clear H
    go_wp2_with (first|((with_reducible refine gate_callee (f:=122) rfl ?_);refine goesL_ (some 6) rfl rfl Tryz.func122 (by kernel_rfl) rfl #[.pointer (some ⟨g,0,none⟩),.int .i64 x3_1] rfl Zl ?_;(with_reducible refine (chunk_sweep_together.calls g s0_0 s0_1 x1002_1 x1003_1 x1004_1 x3_1 true t194 t195 t196 w0 _ ?side1 ?side2 A2.out).mono ?_);(case side1=>repeat (first|(with_reducible first|exact HI0.out|apply IsS162.alloc|apply IsS162.drewN|apply IsS162.drew|apply IsS162.set_2|apply IsS162.set_3|apply IsS162.set_4)|exact HI0.out));(case side2=>repeat (first|(with_reducible first|exact HB.out|apply below_alloc|apply pw_below_drewN|apply below_drew1|refine below_set ?_ (IsS162.ge HI0.out))|exact HB.out));rintro e w4 ⟨rfl,hi,hb,hk⟩;refine⟨_,rfl,?_⟩;have n0_:=Zd (KeepBut.trans (by repeat (first|(with_reducible first|exact HK.out|apply KeepBut.set_|apply keep_drewN|apply keep_drew|apply keep_alloc)|exact HK.out)) hk (.inl rfl));have n1_:=Zd (hb);have n2_:=Zd (hi);clear HK;clear HB;clear HI0;have HK:=n0_;have HB:=n1_;have HI0:=n2_;clear n0_ n1_ n2_;(try clear hb);(try clear hb2);(try clear hk);(try clear hi)))
    go_roundg k1
    case measure=>have:=HK1.out;omega
    case rel=>exact⟨(wrap64 (x3_1+1)),(t194),(t195),(t196),(by first|rfl|(simp;done)|(simp [*];done)),H',⟨by have:=HK1.out;omega⟩,⟨by repeat (first|(with_reducible first|exact HI0.out|apply IsS162.alloc|apply IsS162.drewN|apply IsS162.drew|apply IsS162.set_2|apply IsS162.set_3|apply IsS162.set_4)|exact HI0.out)⟩,⟨by repeat (first|(with_reducible first|exact HK.out|apply KeepBut.set_|apply keep_drewN|apply keep_drew|apply keep_alloc)|exact HK.out)⟩,⟨by repeat (first|(with_reducible first|exact HB.out|apply below_alloc|apply pw_below_drewN|apply below_drew1|refine below_set ?_ (IsS162.ge HI0.out))|exact HB.out)⟩⟩
   ·replace c3:=Bool.eq_false_iff.mpr c3
    subst c3
    have H1:(some (x3_1,t194,t195,t196))=some (r1,r2,r3,r4):=by rw [if_neg (show ¬ (false=true) by decide)] at H;exact H
    clear H
    have H:=H1
    clear H1
    simp only [Option.some.injEq,Prod.mk.injEq] at H
    obtain⟨rfl,rfl,rfl,rfl⟩:=H
    go_wp2_with (first|((with_reducible refine gate_callee (f:=122) rfl ?_);refine goesL_ (some 6) rfl rfl Tryz.func122 (by kernel_rfl) rfl #[.pointer (some ⟨g,0,none⟩),.int .i64 x3_1] rfl Zl ?_;(with_reducible refine (chunk_sweep_together.calls g s0_0 s0_1 x1002_1 x1003_1 x1004_1 x3_1 false t194 t195 t196 w0 _ ?side1 ?side2 A2.out).mono ?_);(case side1=>repeat (first|(with_reducible first|exact HI0.out|apply IsS162.alloc|apply IsS162.drewN|apply IsS162.drew|apply IsS162.set_2|apply IsS162.set_3|apply IsS162.set_4)|exact HI0.out));(case side2=>repeat (first|(with_reducible first|exact HB.out|apply below_alloc|apply pw_below_drewN|apply below_drew1|refine below_set ?_ (IsS162.ge HI0.out))|exact HB.out));rintro e w5 ⟨rfl,hi,hb,hk⟩;refine⟨_,rfl,?_⟩;have n0_:=Zd (KeepBut.trans (by repeat (first|(with_reducible first|exact HK.out|apply KeepBut.set_|apply keep_drewN|apply keep_drew|apply keep_alloc)|exact HK.out)) hk (.inl rfl));have n1_:=Zd (hb);have n2_:=Zd (hi);clear HK;clear HB;clear HI0;have HK:=n0_;have HB:=n1_;have HI0:=n2_;clear n0_ n1_ n2_;(try clear hb);(try clear hb2);(try clear hk);(try clear hi)))
    go_ret
    exact⟨by first|rfl|(simp [errW_none,errW_some]<;>rfl)|(simp [*,errW_none,errW_some]<;>rfl),by repeat (first|(with_reducible first|exact HI0.out|apply IsS162.alloc|apply IsS162.drewN|apply IsS162.drew|apply IsS162.set_2|apply IsS162.set_3|apply IsS162.set_4)|exact HI0.out),by repeat (first|(with_reducible first|exact HB.out|apply below_alloc|apply pw_below_drewN|apply below_drew1|refine below_set ?_ (IsS162.ge HI0.out))|exact HB.out),by repeat (first|(with_reducible first|exact HK.out|apply KeepBut.set_|apply keep_drewN|apply keep_drew|apply keep_alloc)|exact HK.out)⟩
end Go.Proofs.YtfiamddinkokbaaGreat.F
end
