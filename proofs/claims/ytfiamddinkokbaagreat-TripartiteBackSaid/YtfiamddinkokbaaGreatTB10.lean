/- Texts joined into one file (wip/tools/pack.py): Hunk, Fn108, Fn79, BuildText, EndsS, Hoist, BuildConf0 -/
import Derived.Test.YtfiamddinkokbaaGreatTB2
import Derived.Test.YtfiamddinkokbaaGreatTB9
import Derived.Test.YtfiamddinkokbaaGreatTB8
import Derived.Test.YtfiamddinkokbaaGreatTB1
import Derived.Deep.RegionHeld3
import Derived.Test.YtfiamddinkokbaaGreatTB5
set_option linter.unusedVariables false
set_option linter.unusedSimpArgs false
section
namespace Go.Proofs.YtfiamddinkokbaaGreat.F
open Go.RowKit Go.Shelf Go.Proofs.YtfiamddinkokbaaGreatW.PrintWords
theorem lineB_size (k : Int) (fl : Bool) (lb : ByteArray) (wd : Int) (h1 : wd≤1073741824) : (lineB k fl lb wd).size≤1073741824+lb.size+3 := by
 unfold lineB
 rw [ln_size_toB]
 simp only [List.length_append,List.length_replicate]
 have h2:wd.toNat≤1073741824:=by omega
 have h3:(if fl=true then ([33]:List UInt8) else []).length≤1:=by split<;>simp
 have h4:(if lb.toList.isEmpty=true then ([]:List UInt8) else 32::lb.data.toList).length≤lb.size+1:=by
  split
  ·simp
  ·simp only [List.length_cons,size_dataL];omega
 simp only [List.length_singleton]
 omega
theorem sideL_length (s : ByteArray) (q : Bool) : (sideL s q).length≤s.size+1 := by
 unfold sideL
 rw [List.length_append,size_dataL]
 split<;>simp
def lineL (k : Int) (fl : Bool) (lb : ByteArray) (wd : Int) : List UInt8 := (lineB k fl lb wd).data.toList
theorem lineL_length (k : Int) (fl : Bool) (lb : ByteArray) (wd : Int) (h1 : wd≤1073741824) : (lineL k fl lb wd).length≤1073741824+lb.size+3 := by
 unfold lineL;rw [size_dataL];exact lineB_size k fl lb wd h1
def hunkL (wd : Int) (lk : Bool) (x : S124) (qL qB qR : Bool) : List UInt8 :=
 lineL 60 lk x.f0.f0 wd++sideL x.f3 qL++(if x.f6=true then lineL 124 (lacksB x.f3 qL) x.f0.f1 wd++sideL x.f4 qB else []) ++
  lineL 61 (if x.f6=true then lacksB x.f4 qB else lacksB x.f3 qL) ⟨#[]⟩ wd++sideL x.f5 qR++lineL 62 (lacksB x.f5 qR) x.f0.f2 wd
set_option maxHeartbeats 8000000 in
set_option maxRecDepth 100000 in
theorem pr_hunk {B b : Nat} {wd : Int} {lk : Bool} {bs : List UInt8} {w : World} (x : S124) (qL qB qR : Bool) (h : Pr B b wd lk bs w) (w0 : 0≤wd) (w1 : wd≤1073741824)
  (t0:x.f0.f0.size≤4000000000) (t1:x.f0.f1.size≤4000000000) (t2:x.f0.f2.size≤4000000000) (t3:x.f3.size≤4000000000) (t4:x.f4.size≤4000000000) (t5:x.f5.size≤4000000000)
  (eL:strings_HasSuffix.f x.f3 ⟨#[10]⟩=some qL) (eB:strings_HasSuffix.f x.f4 ⟨#[10]⟩=some qB) (eR:strings_HasSuffix.f x.f5 ⟨#[10]⟩=some qR)
  (hlen:bs.length+40000000000≤140737488355328) (hBw:B≤w.heap.size) :
  Calls Tryz.prog 76 #[.pointer (some ⟨b,0,none⟩),.agg #[.string x.f0.f0,.string x.f0.f1,.string x.f0.f2,.bool x.f1,.string x.f2,.string x.f3,.string x.f4,.string x.f5,.bool x.f6]] w fun e w' =>
   e = .returned (.tuple #[])∧Pr B b wd false (bs++hunkL wd lk x qL qB qR) w'∧Below B w w'∧KeepT b w w':=by
 obtain⟨⟨l0,l1,l2⟩,hk,tx,s3,s4,s5,hb⟩:=x
 dsimp only at *
 have M:=fun (k:Int) (lb:ByteArray) (lk:Bool) (bs:List UInt8) (W:World) (h0:0≤k) (h1:k<128) (hl:lb.size≤4000000000) (hlen:bs.length+6000000000≤140737488355328) (hB:B≤W.heap.size) (h:Pr B b wd lk bs W) =>
  pr_marker k lb h h0 h1 w0 w1 hl (by have:=lineB_size k lk lb wd w1;omega) hB
 have SD:=fun (s:ByteArray) (q:Bool) (lk:Bool) (bs:List UInt8) (W:World) (hq:strings_HasSuffix.f s ⟨#[10]⟩=some q) (hs:s.size≤4000000000) (hlen:bs.length+6000000000≤140737488355328) (hB:B≤W.heap.size) (h:Pr B b wd lk bs W) =>
  pr_side s q h hq (by omega) hB
 have HP:=Zd (h.below (below_alloc (Below.refl w.heap.size w) (.cells #[.string l0,.string l1,.string l2,.bool hk,.string tx,.string s3,.string s4,.string s5,.bool hb] 124)))
 have HB:=Zd (Below.mono (below_alloc (Below.refl w.heap.size w) (.cells #[.string l0,.string l1,.string l2,.bool hk,.string tx,.string s3,.string s4,.string s5,.bool hb] 124)) hBw)
 have HK:=Zd (KeepT.below (b:=b) (below_alloc (Below.refl w.heap.size w) (.cells #[.string l0,.string l1,.string l2,.bool hk,.string tx,.string s3,.string s4,.string s5,.bool hb] 124)))
 have hblk:=World.alloc_heap_new w (.cells #[.string l0,.string l1,.string l2,.bool hk,.string tx,.string s3,.string s4,.string s5,.bool hb] 124)
 have hne:w.heap.size≠b:=by have:=h.lt;omega
 have hsz:=HB.out.size
 have HN:Aside0 (bs.length+40000000000≤140737488355328):=⟨hlen⟩
 have tE:(⟨#[]⟩:ByteArray).size≤4000000000:=by decide
 generalize hn0:w.heap.size=n0 at hblk hne
 generalize hW1:w.alloc (.cells #[.string l0,.string l1,.string l2,.bool hk,.string tx,.string s3,.string s4,.string s5,.bool hb] 124)=W1 at *
 cases hb with
 | false =>
  have k0:=(blk_cell hblk 0).trans (rfl:_=some (Value.string l0))
  have k1:=(blk_cell hblk 1).trans (rfl:_=some (Value.string l1))
  have k2:=(blk_cell hblk 2).trans (rfl:_=some (Value.string l2))
  have k5:=(blk_cell hblk 5).trans (rfl:_=some (Value.string s3))
  have k6:=(blk_cell hblk 6).trans (rfl:_=some (Value.string s4))
  have k7:=(blk_cell hblk 7).trans (rfl:_=some (Value.string s5))
  have k8:=(blk_cell hblk 8).trans (rfl:_=some (Value.bool false))
  go_enter Tryz.func76,Tryz.ntmps76
  go_wp2_with (first
   | (go_at_call_of 114 (Value.int .u8 60);refine (M 60 l0 _ _ _ (by omega) (by omega) t0 (by have:=HN.out;omega) (Nat.le_trans hBw hsz) HP.out).mono ?_;rintro e W ⟨rfl,hp_,hb_,hk_⟩;replace hblk:=hk_.cell hblk (by decide) hne;(try clear k0);(try clear k1);(try clear k2);(try clear k5);(try clear k6);(try clear k7);(try clear k8);have k0:=(blk_cell hblk 0).trans (rfl:_=some (Value.string l0));have k1:=(blk_cell hblk 1).trans (rfl:_=some (Value.string l1));have k2:=(blk_cell hblk 2).trans (rfl:_=some (Value.string l2));have k5:=(blk_cell hblk 5).trans (rfl:_=some (Value.string s3));have k6:=(blk_cell hblk 6).trans (rfl:_=some (Value.string s4));have k7:=(blk_cell hblk 7).trans (rfl:_=some (Value.string s5));have k8:=(blk_cell hblk 8).trans (rfl:_=some (Value.bool false));replace HP:=Zd hp_;replace hsz:=Nat.le_trans hsz hb_.size;replace HB:=Zd (Below.trans HB.out hb_);replace HK:=Zd (KeepT.trans HK.out hk_);clear hp_ hb_ hk_;replace HN:Aside0 ((bs++(lineB 60 lk l0 wd).data.toList).length+34926258173≤140737488355328):=⟨by rw [List.length_append,size_dataL];have:=lineB_size 60 lk l0 wd w1;have:=HN.out;omega⟩)
   | (go_at_call_of 115 (Value.string s3);refine (SD s3 qL _ _ _ eL t3 (by have:=HN.out;omega) (Nat.le_trans hBw hsz) HP.out).mono ?_;rintro e W ⟨rfl,hp_,hb_,hk_⟩;replace hblk:=hk_.cell hblk (by decide) hne;(try clear k0);(try clear k1);(try clear k2);(try clear k5);(try clear k6);(try clear k7);(try clear k8);have k0:=(blk_cell hblk 0).trans (rfl:_=some (Value.string l0));have k1:=(blk_cell hblk 1).trans (rfl:_=some (Value.string l1));have k2:=(blk_cell hblk 2).trans (rfl:_=some (Value.string l2));have k5:=(blk_cell hblk 5).trans (rfl:_=some (Value.string s3));have k6:=(blk_cell hblk 6).trans (rfl:_=some (Value.string s4));have k7:=(blk_cell hblk 7).trans (rfl:_=some (Value.string s5));have k8:=(blk_cell hblk 8).trans (rfl:_=some (Value.bool false));replace HP:=Zd hp_;replace hsz:=Nat.le_trans hsz hb_.size;replace HB:=Zd (Below.trans HB.out hb_);replace HK:=Zd (KeepT.trans HK.out hk_);clear hp_ hb_ hk_;replace HN:Aside0 (((bs++(lineB 60 lk l0 wd).data.toList)++sideL s3 qL).length+30926258172≤140737488355328):=⟨by rw [List.length_append];have:=sideL_length s3 qL;have:=HN.out;omega⟩)
   | (go_at_call_of 114 (Value.int .u8 61);refine (M 61 ⟨#[]⟩ _ _ _ (by omega) (by omega) tE (by have:=HN.out;omega) (Nat.le_trans hBw hsz) HP.out).mono ?_;rintro e W ⟨rfl,hp_,hb_,hk_⟩;replace hblk:=hk_.cell hblk (by decide) hne;(try clear k0);(try clear k1);(try clear k2);(try clear k5);(try clear k6);(try clear k7);(try clear k8);have k0:=(blk_cell hblk 0).trans (rfl:_=some (Value.string l0));have k1:=(blk_cell hblk 1).trans (rfl:_=some (Value.string l1));have k2:=(blk_cell hblk 2).trans (rfl:_=some (Value.string l2));have k5:=(blk_cell hblk 5).trans (rfl:_=some (Value.string s3));have k6:=(blk_cell hblk 6).trans (rfl:_=some (Value.string s4));have k7:=(blk_cell hblk 7).trans (rfl:_=some (Value.string s5));have k8:=(blk_cell hblk 8).trans (rfl:_=some (Value.bool false));replace HP:=Zd hp_;replace hsz:=Nat.le_trans hsz hb_.size;replace HB:=Zd (Below.trans HB.out hb_);replace HK:=Zd (KeepT.trans HK.out hk_);clear hp_ hb_ hk_;replace HN:Aside0 ((((bs++(lineB 60 lk l0 wd).data.toList)++sideL s3 qL)++(lineB 61 (lacksB s3 qL) ⟨#[]⟩ wd).data.toList).length+25852516345≤140737488355328):=⟨by rw [List.length_append,size_dataL];have:=lineB_size 61 (lacksB s3 qL) ⟨#[]⟩ wd w1;have:=HN.out;omega⟩)
   | (go_at_call_of 115 (Value.string s5);refine (SD s5 qR _ _ _ eR t5 (by have:=HN.out;omega) (Nat.le_trans hBw hsz) HP.out).mono ?_;rintro e W ⟨rfl,hp_,hb_,hk_⟩;replace hblk:=hk_.cell hblk (by decide) hne;(try clear k0);(try clear k1);(try clear k2);(try clear k5);(try clear k6);(try clear k7);(try clear k8);have k0:=(blk_cell hblk 0).trans (rfl:_=some (Value.string l0));have k1:=(blk_cell hblk 1).trans (rfl:_=some (Value.string l1));have k2:=(blk_cell hblk 2).trans (rfl:_=some (Value.string l2));have k5:=(blk_cell hblk 5).trans (rfl:_=some (Value.string s3));have k6:=(blk_cell hblk 6).trans (rfl:_=some (Value.string s4));have k7:=(blk_cell hblk 7).trans (rfl:_=some (Value.string s5));have k8:=(blk_cell hblk 8).trans (rfl:_=some (Value.bool false));replace HP:=Zd hp_;replace hsz:=Nat.le_trans hsz hb_.size;replace HB:=Zd (Below.trans HB.out hb_);replace HK:=Zd (KeepT.trans HK.out hk_);clear hp_ hb_ hk_;replace HN:Aside0 (((((bs++(lineB 60 lk l0 wd).data.toList)++sideL s3 qL)++(lineB 61 (lacksB s3 qL) ⟨#[]⟩ wd).data.toList)++sideL s5 qR).length+21852516344≤140737488355328):=⟨by rw [List.length_append];have:=sideL_length s5 qR;have:=HN.out;omega⟩)
   | (go_at_call_of 114 (Value.int .u8 62);refine (M 62 l2 _ _ _ (by omega) (by omega) t2 (by have:=HN.out;omega) (Nat.le_trans hBw hsz) HP.out).mono ?_;rintro e W ⟨rfl,hp_,hb_,hk_⟩;replace hblk:=hk_.cell hblk (by decide) hne;(try clear k0);(try clear k1);(try clear k2);(try clear k5);(try clear k6);(try clear k7);(try clear k8);have k0:=(blk_cell hblk 0).trans (rfl:_=some (Value.string l0));have k1:=(blk_cell hblk 1).trans (rfl:_=some (Value.string l1));have k2:=(blk_cell hblk 2).trans (rfl:_=some (Value.string l2));have k5:=(blk_cell hblk 5).trans (rfl:_=some (Value.string s3));have k6:=(blk_cell hblk 6).trans (rfl:_=some (Value.string s4));have k7:=(blk_cell hblk 7).trans (rfl:_=some (Value.string s5));have k8:=(blk_cell hblk 8).trans (rfl:_=some (Value.bool false));replace HP:=Zd hp_;replace hsz:=Nat.le_trans hsz hb_.size;replace HB:=Zd (Below.trans HB.out hb_);replace HK:=Zd (KeepT.trans HK.out hk_);clear hp_ hb_ hk_;replace HN:Aside0 ((((((bs++(lineB 60 lk l0 wd).data.toList)++sideL s3 qL)++(lineB 61 (lacksB s3 qL) ⟨#[]⟩ wd).data.toList)++sideL s5 qR)++(lineB 62 (lacksB s5 qR) l2 wd).data.toList).length+16778774517≤140737488355328):=⟨by rw [List.length_append,size_dataL];have:=lineB_size 62 (lacksB s5 qR) l2 wd w1;have:=HN.out;omega⟩))
  go_end0
  refine⟨rfl,?_,HB.out,HK.out⟩
  have hp:=HP.out
  simp only [List.append_assoc] at hp
  simp only [hunkL,lineL,List.append_assoc,if_true,if_false,List.nil_append,Bool.false_eq_true]
  exact hp
 | true =>
  have k0:=(blk_cell hblk 0).trans (rfl:_=some (Value.string l0))
  have k1:=(blk_cell hblk 1).trans (rfl:_=some (Value.string l1))
  have k2:=(blk_cell hblk 2).trans (rfl:_=some (Value.string l2))
  have k5:=(blk_cell hblk 5).trans (rfl:_=some (Value.string s3))
  have k6:=(blk_cell hblk 6).trans (rfl:_=some (Value.string s4))
  have k7:=(blk_cell hblk 7).trans (rfl:_=some (Value.string s5))
  have k8:=(blk_cell hblk 8).trans (rfl:_=some (Value.bool true))
  go_enter Tryz.func76,Tryz.ntmps76
  go_wp2_with (first
   | (go_at_call_of 114 (Value.int .u8 60);refine (M 60 l0 _ _ _ (by omega) (by omega) t0 (by have:=HN.out;omega) (Nat.le_trans hBw hsz) HP.out).mono ?_;rintro e W ⟨rfl,hp_,hb_,hk_⟩;replace hblk:=hk_.cell hblk (by decide) hne;(try clear k0);(try clear k1);(try clear k2);(try clear k5);(try clear k6);(try clear k7);(try clear k8);have k0:=(blk_cell hblk 0).trans (rfl:_=some (Value.string l0));have k1:=(blk_cell hblk 1).trans (rfl:_=some (Value.string l1));have k2:=(blk_cell hblk 2).trans (rfl:_=some (Value.string l2));have k5:=(blk_cell hblk 5).trans (rfl:_=some (Value.string s3));have k6:=(blk_cell hblk 6).trans (rfl:_=some (Value.string s4));have k7:=(blk_cell hblk 7).trans (rfl:_=some (Value.string s5));have k8:=(blk_cell hblk 8).trans (rfl:_=some (Value.bool true));replace HP:=Zd hp_;replace hsz:=Nat.le_trans hsz hb_.size;replace HB:=Zd (Below.trans HB.out hb_);replace HK:=Zd (KeepT.trans HK.out hk_);clear hp_ hb_ hk_;replace HN:Aside0 ((bs++(lineB 60 lk l0 wd).data.toList).length+34926258173≤140737488355328):=⟨by rw [List.length_append,size_dataL];have:=lineB_size 60 lk l0 wd w1;have:=HN.out;omega⟩)
   | (go_at_call_of 115 (Value.string s3);refine (SD s3 qL _ _ _ eL t3 (by have:=HN.out;omega) (Nat.le_trans hBw hsz) HP.out).mono ?_;rintro e W ⟨rfl,hp_,hb_,hk_⟩;replace hblk:=hk_.cell hblk (by decide) hne;(try clear k0);(try clear k1);(try clear k2);(try clear k5);(try clear k6);(try clear k7);(try clear k8);have k0:=(blk_cell hblk 0).trans (rfl:_=some (Value.string l0));have k1:=(blk_cell hblk 1).trans (rfl:_=some (Value.string l1));have k2:=(blk_cell hblk 2).trans (rfl:_=some (Value.string l2));have k5:=(blk_cell hblk 5).trans (rfl:_=some (Value.string s3));have k6:=(blk_cell hblk 6).trans (rfl:_=some (Value.string s4));have k7:=(blk_cell hblk 7).trans (rfl:_=some (Value.string s5));have k8:=(blk_cell hblk 8).trans (rfl:_=some (Value.bool true));replace HP:=Zd hp_;replace hsz:=Nat.le_trans hsz hb_.size;replace HB:=Zd (Below.trans HB.out hb_);replace HK:=Zd (KeepT.trans HK.out hk_);clear hp_ hb_ hk_;replace HN:Aside0 (((bs++(lineB 60 lk l0 wd).data.toList)++sideL s3 qL).length+30926258172≤140737488355328):=⟨by rw [List.length_append];have:=sideL_length s3 qL;have:=HN.out;omega⟩)
   | (go_at_call_of 114 (Value.int .u8 124);refine (M 124 l1 _ _ _ (by omega) (by omega) t1 (by have:=HN.out;omega) (Nat.le_trans hBw hsz) HP.out).mono ?_;rintro e W ⟨rfl,hp_,hb_,hk_⟩;replace hblk:=hk_.cell hblk (by decide) hne;(try clear k0);(try clear k1);(try clear k2);(try clear k5);(try clear k6);(try clear k7);(try clear k8);have k0:=(blk_cell hblk 0).trans (rfl:_=some (Value.string l0));have k1:=(blk_cell hblk 1).trans (rfl:_=some (Value.string l1));have k2:=(blk_cell hblk 2).trans (rfl:_=some (Value.string l2));have k5:=(blk_cell hblk 5).trans (rfl:_=some (Value.string s3));have k6:=(blk_cell hblk 6).trans (rfl:_=some (Value.string s4));have k7:=(blk_cell hblk 7).trans (rfl:_=some (Value.string s5));have k8:=(blk_cell hblk 8).trans (rfl:_=some (Value.bool true));replace HP:=Zd hp_;replace hsz:=Nat.le_trans hsz hb_.size;replace HB:=Zd (Below.trans HB.out hb_);replace HK:=Zd (KeepT.trans HK.out hk_);clear hp_ hb_ hk_;replace HN:Aside0 ((((bs++(lineB 60 lk l0 wd).data.toList)++sideL s3 qL)++(lineB 124 (lacksB s3 qL) l1 wd).data.toList).length+25852516345≤140737488355328):=⟨by rw [List.length_append,size_dataL];have:=lineB_size 124 (lacksB s3 qL) l1 wd w1;have:=HN.out;omega⟩)
   | (go_at_call_of 115 (Value.string s4);refine (SD s4 qB _ _ _ eB t4 (by have:=HN.out;omega) (Nat.le_trans hBw hsz) HP.out).mono ?_;rintro e W ⟨rfl,hp_,hb_,hk_⟩;replace hblk:=hk_.cell hblk (by decide) hne;(try clear k0);(try clear k1);(try clear k2);(try clear k5);(try clear k6);(try clear k7);(try clear k8);have k0:=(blk_cell hblk 0).trans (rfl:_=some (Value.string l0));have k1:=(blk_cell hblk 1).trans (rfl:_=some (Value.string l1));have k2:=(blk_cell hblk 2).trans (rfl:_=some (Value.string l2));have k5:=(blk_cell hblk 5).trans (rfl:_=some (Value.string s3));have k6:=(blk_cell hblk 6).trans (rfl:_=some (Value.string s4));have k7:=(blk_cell hblk 7).trans (rfl:_=some (Value.string s5));have k8:=(blk_cell hblk 8).trans (rfl:_=some (Value.bool true));replace HP:=Zd hp_;replace hsz:=Nat.le_trans hsz hb_.size;replace HB:=Zd (Below.trans HB.out hb_);replace HK:=Zd (KeepT.trans HK.out hk_);clear hp_ hb_ hk_;replace HN:Aside0 (((((bs++(lineB 60 lk l0 wd).data.toList)++sideL s3 qL)++(lineB 124 (lacksB s3 qL) l1 wd).data.toList)++sideL s4 qB).length+21852516344≤140737488355328):=⟨by rw [List.length_append];have:=sideL_length s4 qB;have:=HN.out;omega⟩)
   | (go_at_call_of 114 (Value.int .u8 61);refine (M 61 ⟨#[]⟩ _ _ _ (by omega) (by omega) tE (by have:=HN.out;omega) (Nat.le_trans hBw hsz) HP.out).mono ?_;rintro e W ⟨rfl,hp_,hb_,hk_⟩;replace hblk:=hk_.cell hblk (by decide) hne;(try clear k0);(try clear k1);(try clear k2);(try clear k5);(try clear k6);(try clear k7);(try clear k8);have k0:=(blk_cell hblk 0).trans (rfl:_=some (Value.string l0));have k1:=(blk_cell hblk 1).trans (rfl:_=some (Value.string l1));have k2:=(blk_cell hblk 2).trans (rfl:_=some (Value.string l2));have k5:=(blk_cell hblk 5).trans (rfl:_=some (Value.string s3));have k6:=(blk_cell hblk 6).trans (rfl:_=some (Value.string s4));have k7:=(blk_cell hblk 7).trans (rfl:_=some (Value.string s5));have k8:=(blk_cell hblk 8).trans (rfl:_=some (Value.bool true));replace HP:=Zd hp_;replace hsz:=Nat.le_trans hsz hb_.size;replace HB:=Zd (Below.trans HB.out hb_);replace HK:=Zd (KeepT.trans HK.out hk_);clear hp_ hb_ hk_;replace HN:Aside0 ((((((bs++(lineB 60 lk l0 wd).data.toList)++sideL s3 qL)++(lineB 124 (lacksB s3 qL) l1 wd).data.toList)++sideL s4 qB)++(lineB 61 (lacksB s4 qB) ⟨#[]⟩ wd).data.toList).length+16778774517≤140737488355328):=⟨by rw [List.length_append,size_dataL];have:=lineB_size 61 (lacksB s4 qB) ⟨#[]⟩ wd w1;have:=HN.out;omega⟩)
   | (go_at_call_of 115 (Value.string s5);refine (SD s5 qR _ _ _ eR t5 (by have:=HN.out;omega) (Nat.le_trans hBw hsz) HP.out).mono ?_;rintro e W ⟨rfl,hp_,hb_,hk_⟩;replace hblk:=hk_.cell hblk (by decide) hne;(try clear k0);(try clear k1);(try clear k2);(try clear k5);(try clear k6);(try clear k7);(try clear k8);have k0:=(blk_cell hblk 0).trans (rfl:_=some (Value.string l0));have k1:=(blk_cell hblk 1).trans (rfl:_=some (Value.string l1));have k2:=(blk_cell hblk 2).trans (rfl:_=some (Value.string l2));have k5:=(blk_cell hblk 5).trans (rfl:_=some (Value.string s3));have k6:=(blk_cell hblk 6).trans (rfl:_=some (Value.string s4));have k7:=(blk_cell hblk 7).trans (rfl:_=some (Value.string s5));have k8:=(blk_cell hblk 8).trans (rfl:_=some (Value.bool true));replace HP:=Zd hp_;replace hsz:=Nat.le_trans hsz hb_.size;replace HB:=Zd (Below.trans HB.out hb_);replace HK:=Zd (KeepT.trans HK.out hk_);clear hp_ hb_ hk_;replace HN:Aside0 (((((((bs++(lineB 60 lk l0 wd).data.toList)++sideL s3 qL)++(lineB 124 (lacksB s3 qL) l1 wd).data.toList)++sideL s4 qB)++(lineB 61 (lacksB s4 qB) ⟨#[]⟩ wd).data.toList)++sideL s5 qR).length+12778774516≤140737488355328):=⟨by rw [List.length_append];have:=sideL_length s5 qR;have:=HN.out;omega⟩)
   | (go_at_call_of 114 (Value.int .u8 62);refine (M 62 l2 _ _ _ (by omega) (by omega) t2 (by have:=HN.out;omega) (Nat.le_trans hBw hsz) HP.out).mono ?_;rintro e W ⟨rfl,hp_,hb_,hk_⟩;replace hblk:=hk_.cell hblk (by decide) hne;(try clear k0);(try clear k1);(try clear k2);(try clear k5);(try clear k6);(try clear k7);(try clear k8);have k0:=(blk_cell hblk 0).trans (rfl:_=some (Value.string l0));have k1:=(blk_cell hblk 1).trans (rfl:_=some (Value.string l1));have k2:=(blk_cell hblk 2).trans (rfl:_=some (Value.string l2));have k5:=(blk_cell hblk 5).trans (rfl:_=some (Value.string s3));have k6:=(blk_cell hblk 6).trans (rfl:_=some (Value.string s4));have k7:=(blk_cell hblk 7).trans (rfl:_=some (Value.string s5));have k8:=(blk_cell hblk 8).trans (rfl:_=some (Value.bool true));replace HP:=Zd hp_;replace hsz:=Nat.le_trans hsz hb_.size;replace HB:=Zd (Below.trans HB.out hb_);replace HK:=Zd (KeepT.trans HK.out hk_);clear hp_ hb_ hk_;replace HN:Aside0 ((((((((bs++(lineB 60 lk l0 wd).data.toList)++sideL s3 qL)++(lineB 124 (lacksB s3 qL) l1 wd).data.toList)++sideL s4 qB)++(lineB 61 (lacksB s4 qB) ⟨#[]⟩ wd).data.toList)++sideL s5 qR)++(lineB 62 (lacksB s5 qR) l2 wd).data.toList).length+7705032689≤140737488355328):=⟨by rw [List.length_append,size_dataL];have:=lineB_size 62 (lacksB s5 qR) l2 wd w1;have:=HN.out;omega⟩))
  go_end0
  refine⟨rfl,?_,HB.out,HK.out⟩
  have hp:=HP.out
  simp only [List.append_assoc] at hp
  simp only [hunkL,lineL,List.append_assoc,if_true,if_false,List.nil_append,Bool.false_eq_true]
  exact hp
end Go.Proofs.YtfiamddinkokbaaGreat.F
end

section
namespace Go.Proofs.YtfiamddinkokbaaGreat.F
open Go.RowKit Go.Proofs.YtfiamddinkokbaaGreatW.PrintWords Go.Proofs.YtfiamddinkokbaaGreatW.PrintLast Go.Proofs.YtfiamddinkokbaaGreatW.PrintMore
attribute [local go_sem] max2_int min2_int max_two min_two max_three min_three max_four min_four
def doc_Part_isConflict.f (a0_0 : ByteArray) (a0_1 : ByteArray) (a0_2 : ByteArray) (a0_3 : Bool) (a0_4 : ByteArray) (a0_5 : ByteArray) (a0_6 : ByteArray) (a0_7 : ByteArray) (a0_8 : Bool) : Option (Bool) := if a0_3=true then (if a0_4.toList=([] : List UInt8) then (if a0_8=true then (some true) else (if a0_6.size+a0_1.size≤9223372036854775807 then (some ((a0_6++a0_1).toList==([] : List UInt8))) else (none))) else (some false)) else (some false)
set_option maxHeartbeats 8000000 in
set_option maxRecDepth 100000 in
theorem doc_Part_isConflict.calls (a0_0 : ByteArray) (a0_1 : ByteArray) (a0_2 : ByteArray) (a0_3 : Bool) (a0_4 : ByteArray) (a0_5 : ByteArray) (a0_6 : ByteArray) (a0_7 : ByteArray) (a0_8 : Bool) (r : Bool) (w : World) (h : doc_Part_isConflict.f a0_0 a0_1 a0_2 a0_3 a0_4 a0_5 a0_6 a0_7 a0_8=some r) :
  Calls Tryz.prog 108 #[.agg #[.string a0_0,.string a0_1,.string a0_2,.bool a0_3,.string a0_4,.string a0_5,.string a0_6,.string a0_7,.bool a0_8]] w fun e w'=>e = .returned (.bool r)∧Below w.heap.size w w':=by
 have hu124:=Tryz.underlying124
 have HB:=Zd (Below.refl w.heap.size w)
 have H:(if a0_3=true then (if a0_4.toList=([]:List UInt8) then (if a0_8=true then (some true) else (if a0_6.size+a0_1.size≤9223372036854775807 then (some ((a0_6++a0_1).toList==([]:List UInt8))) else (none))) else (some false)) else (some false))=some r:=h
 clear h
 by_cases c2:a0_3=true
 ·subst c2
  have H1:(if a0_4.toList=([]:List UInt8) then (if a0_8=true then (some true) else (if a0_6.size+a0_1.size≤9223372036854775807 then (some ((a0_6++a0_1).toList==([]:List UInt8))) else (none))) else (some false))=some r:=by rw [if_pos rfl] at H;exact H
  clear H
  have H:=H1
  clear H1
  by_cases c3:a0_4.toList=([]:List UInt8)
  ·rw [if_pos c3] at H
   have c3b0:(a0_4.toList==([]:List UInt8))=true:=beq_iff_eq.mpr c3
   have c3b1:(a0_4.toList != ([]:List UInt8))=false:=bne_eq_false_iff_eq.mpr c3
   clear c3
   by_cases c4:a0_8=true
   ·subst c4
    have H1:(some true)=some r:=by rw [if_pos rfl] at H;exact H
    clear H
    have H:=H1
    clear H1
    obtain rfl:=Option.some.inj H
    go_enter Tryz.func108,Tryz.ntmps108
    go_wp2_with (first|((with_reducible refine gate_dst (N:=1) rfl ?_);refine box_event ?hg (N:=1) ?hd (cs:=#[.string a0_0,.string a0_1,.string a0_2,.bool true,.string a0_4,.string a0_5,.string a0_6,.string a0_7,.bool true]) (t:=124) ?hr ?_;(case hd=>rfl);(case hg=>rfl);(case hr=>first|(go_simp;done)|(go_simp;rfl));intro gb105 hg w5 hbox hb;have n0_:=Zd (below_step Zb hb);have n1_:=Zd (hbox);have n2_:=Zd ((Zg hg:w.heap.size≤gb105));have n3_:=Zd ((Zg hg:w.heap.size≤gb105));clear HB;have HB:=n0_;have BK105:=n1_;have GW105:=n2_;have GE105:=n3_;clear n0_ n1_ n2_ n3_;clear hb hbox hg;obtain⟨hcz6_0,hcz6_1,hcz6_2,hcz6_3,hcz6_4,hcz6_5,hcz6_6,hcz6_7,hcz6_8,hfz6_0,hfz6_1,hfz6_2,hfz6_3,hfz6_4,hfz6_5,hfz6_6,hfz6_7,hfz6_8⟩:=Zc9 BK105.out))
    go_ret
    exact⟨by first|rfl|(simp [errW_none,errW_some]<;>rfl)|(simp [*,errW_none,errW_some]<;>rfl),by repeat (first|(with_reducible first|exact HB.out|apply below_alloc|apply pw_below_drewN|apply below_drew1|refine below_set ?_ GE105.out)|exact HB.out)⟩
   ·replace c4:=Bool.eq_false_iff.mpr c4
    subst c4
    have H1:(if a0_6.size+a0_1.size≤9223372036854775807 then (some ((a0_6++a0_1).toList==([]:List UInt8))) else (none))=some r:=by rw [if_neg (show ¬ (false=true) by decide)] at H;exact H
    clear H
    have H:=H1
    clear H1
    by_cases c7:a0_6.size+a0_1.size≤9223372036854775807
    ·rw [if_pos c7] at H
     have c7b0:=eq_true c7
     have c7b1:decide (a0_6.size+a0_1.size≤9223372036854775807)=true:=decide_eq_true c7
     try have c7b2:(9223372036854775807<a0_6.size+a0_1.size)=False:=eq_false (Nat.not_lt.2 c7)
     obtain rfl:=Option.some.inj H
     go_enter Tryz.func108,Tryz.ntmps108
     go_wp2_with (first|((with_reducible refine gate_dst (N:=1) rfl ?_);refine box_event ?hg (N:=1) ?hd (cs:=#[.string a0_0,.string a0_1,.string a0_2,.bool true,.string a0_4,.string a0_5,.string a0_6,.string a0_7,.bool false]) (t:=124) ?hr ?_;(case hd=>rfl);(case hg=>rfl);(case hr=>first|(go_simp;done)|(go_simp;rfl));intro gb105 hg w8 hbox hb;have n0_:=Zd (below_step Zb hb);have n1_:=Zd (hbox);have n2_:=Zd ((Zg hg:w.heap.size≤gb105));have n3_:=Zd ((Zg hg:w.heap.size≤gb105));clear HB;have HB:=n0_;have BK105:=n1_;have GW105:=n2_;have GE105:=n3_;clear n0_ n1_ n2_ n3_;clear hb hbox hg;obtain⟨hcz9_0,hcz9_1,hcz9_2,hcz9_3,hcz9_4,hcz9_5,hcz9_6,hcz9_7,hcz9_8,hfz9_0,hfz9_1,hfz9_2,hfz9_3,hfz9_4,hfz9_5,hfz9_6,hfz9_7,hfz9_8⟩:=Zc9 BK105.out))
     go_ret
     exact⟨by first|rfl|(simp [errW_none,errW_some]<;>rfl)|(simp [*,errW_none,errW_some]<;>rfl),by repeat (first|(with_reducible first|exact HB.out|apply below_alloc|apply pw_below_drewN|apply below_drew1|refine below_set ?_ GE105.out)|exact HB.out)⟩
    ·rw [if_neg c7] at H
     exact absurd H (by simp)
  ·rw [if_neg c3] at H
   have c3b0:(a0_4.toList==([]:List UInt8))=false:=beq_eq_false_iff_ne.mpr c3
   have c3b1:(a0_4.toList != ([]:List UInt8))=true:=bne_iff_ne.mpr c3
   obtain rfl:=Option.some.inj H
   go_enter Tryz.func108,Tryz.ntmps108
   go_wp2_with (first|((with_reducible refine gate_dst (N:=1) rfl ?_);refine box_event ?hg (N:=1) ?hd (cs:=#[.string a0_0,.string a0_1,.string a0_2,.bool true,.string a0_4,.string a0_5,.string a0_6,.string a0_7,.bool a0_8]) (t:=124) ?hr ?_;(case hd=>rfl);(case hg=>rfl);(case hr=>first|(go_simp;done)|(go_simp;rfl));intro gb105 hg w10 hbox hb;have n0_:=Zd (below_step Zb hb);have n1_:=Zd (hbox);have n2_:=Zd ((Zg hg:w.heap.size≤gb105));have n3_:=Zd ((Zg hg:w.heap.size≤gb105));clear HB;have HB:=n0_;have BK105:=n1_;have GW105:=n2_;have GE105:=n3_;clear n0_ n1_ n2_ n3_;clear hb hbox hg;obtain⟨hcz11_0,hcz11_1,hcz11_2,hcz11_3,hcz11_4,hcz11_5,hcz11_6,hcz11_7,hcz11_8,hfz11_0,hfz11_1,hfz11_2,hfz11_3,hfz11_4,hfz11_5,hfz11_6,hfz11_7,hfz11_8⟩:=Zc9 BK105.out))
   go_ret
   exact⟨by first|rfl|(simp [errW_none,errW_some]<;>rfl)|(simp [*,errW_none,errW_some]<;>rfl),by repeat (first|(with_reducible first|exact HB.out|apply below_alloc|apply pw_below_drewN|apply below_drew1|refine below_set ?_ GE105.out)|exact HB.out)⟩
 ·replace c2:=Bool.eq_false_iff.mpr c2
  subst c2
  have H1:(some false)=some r:=by rw [if_neg (show ¬ (false=true) by decide)] at H;exact H
  clear H
  have H:=H1
  clear H1
  obtain rfl:=Option.some.inj H
  go_enter Tryz.func108,Tryz.ntmps108
  go_wp2_with (first|((with_reducible refine gate_dst (N:=1) rfl ?_);refine box_event ?hg (N:=1) ?hd (cs:=#[.string a0_0,.string a0_1,.string a0_2,.bool false,.string a0_4,.string a0_5,.string a0_6,.string a0_7,.bool a0_8]) (t:=124) ?hr ?_;(case hd=>rfl);(case hg=>rfl);(case hr=>first|(go_simp;done)|(go_simp;rfl));intro gb105 hg w12 hbox hb;have n0_:=Zd (below_step Zb hb);have n1_:=Zd (hbox);have n2_:=Zd ((Zg hg:w.heap.size≤gb105));have n3_:=Zd ((Zg hg:w.heap.size≤gb105));clear HB;have HB:=n0_;have BK105:=n1_;have GW105:=n2_;have GE105:=n3_;clear n0_ n1_ n2_ n3_;clear hb hbox hg;obtain⟨hcz13_0,hcz13_1,hcz13_2,hcz13_3,hcz13_4,hcz13_5,hcz13_6,hcz13_7,hcz13_8,hfz13_0,hfz13_1,hfz13_2,hfz13_3,hfz13_4,hfz13_5,hfz13_6,hfz13_7,hfz13_8⟩:=Zc9 BK105.out))
  go_ret
  exact⟨by first|rfl|(simp [errW_none,errW_some]<;>rfl)|(simp [*,errW_none,errW_some]<;>rfl),by repeat (first|(with_reducible first|exact HB.out|apply below_alloc|apply pw_below_drewN|apply below_drew1|refine below_set ?_ GE105.out)|exact HB.out)⟩
def doc_Labels_Plain.f (a0_0 : ByteArray) (a0_1 : ByteArray) (a0_2 : ByteArray) : Option (Bool) := if a0_0.size+a0_1.size≤9223372036854775807 then (if (a0_0++a0_1).size+a0_2.size≤9223372036854775807 then ((strings_Contains.f ((a0_0++a0_1)++a0_2) (⟨#[10]⟩ : ByteArray)).bind fun t103=>(some (!t103))) else (none)) else (none)
set_option maxHeartbeats 8000000 in
set_option maxRecDepth 100000 in
theorem doc_Labels_Plain.calls (a0_0 : ByteArray) (a0_1 : ByteArray) (a0_2 : ByteArray) (r : Bool) (w : World) (h : doc_Labels_Plain.f a0_0 a0_1 a0_2=some r) :
  Calls Tryz.prog 79 #[.agg #[.string a0_0,.string a0_1,.string a0_2]] w fun e w'=>e = .returned (.bool r)∧Below w.heap.size w w':=by
 have hu29:=Tryz.underlying29
 have HB:=Zd (Below.refl w.heap.size w)
 have H:(if a0_0.size+a0_1.size≤9223372036854775807 then (if (a0_0++a0_1).size+a0_2.size≤9223372036854775807 then ((strings_Contains.f ((a0_0++a0_1)++a0_2) (⟨#[10]⟩:ByteArray)).bind fun t103=>(some (!t103))) else (none)) else (none))=some r:=h
 clear h
 by_cases c2:a0_0.size+a0_1.size≤9223372036854775807
 ·rw [if_pos c2] at H
  have c2b0:=eq_true c2
  have c2b1:decide (a0_0.size+a0_1.size≤9223372036854775807)=true:=decide_eq_true c2
  try have c2b2:(9223372036854775807<a0_0.size+a0_1.size)=False:=eq_false (Nat.not_lt.2 c2)
  by_cases c3:(a0_0++a0_1).size+a0_2.size≤9223372036854775807
  ·rw [if_pos c3] at H
   have c3b0:=eq_true c3
   have c3b1:decide ((a0_0++a0_1).size+a0_2.size≤9223372036854775807)=true:=decide_eq_true c3
   try have c3b2:(9223372036854775807<(a0_0++a0_1).size+a0_2.size)=False:=eq_false (Nat.not_lt.2 c3)
   try have c3b3:(9223372036854775807<a0_0.size+a0_1.size+a0_2.size)=False:=eq_false (Nat.not_lt.2 (Nat.le_trans (Nat.le_of_eq (by first|rfl|(simp only [ByteArray.size_append];done)|(simp only [ByteArray.size_append];rfl))) c3))
   replace H:=Option.bind_eq_some_iff.mp H
   obtain⟨t103,A40,H⟩:=H
   replace H:(some (!t103))=some r:=H
   have A4:=Zd A40
   clear A40
   obtain rfl:=Option.some.inj H
   go_enter Tryz.func79,Tryz.ntmps79
   go_wp2_with (first|((with_reducible refine gate_dst (N:=1) rfl ?_);refine box_event ?hg (N:=1) ?hd (cs:=#[.string a0_0,.string a0_1,.string a0_2]) (t:=29) ?hr ?_;(case hd=>rfl);(case hg=>rfl);(case hr=>first|(go_simp;done)|(go_simp;rfl));intro gb102 hg w5 hbox hb;have n0_:=Zd (below_step Zb hb);have n1_:=Zd (hbox);have n2_:=Zd ((Zg hg:w.heap.size≤gb102));have n3_:=Zd ((Zg hg:w.heap.size≤gb102));clear HB;have HB:=n0_;have BK102:=n1_;have GW102:=n2_;have GE102:=n3_;clear n0_ n1_ n2_ n3_;clear hb hbox hg;obtain⟨hcz6_0,hcz6_1,hcz6_2,hfz6_0,hfz6_1,hfz6_2⟩:=Zc3 BK102.out)|((with_reducible refine gate_callee (f:=116) rfl ?_);refine goesL_ (some 11) rfl rfl Tryz.func116 (by kernel_rfl) rfl #[.string ((a0_0++a0_1)++a0_2),.string (⟨#[10]⟩:ByteArray)] rfl Zl ?_;(with_reducible refine (strings_Contains.calls ((a0_0++a0_1)++a0_2) (⟨#[10]⟩:ByteArray) t103 _ A4.out).mono ?_);rintro e w' ⟨rfl,⟨nd,rfl⟩⟩;refine⟨_,rfl,?_⟩))
   go_ret
   exact⟨by first|rfl|(simp [errW_none,errW_some]<;>rfl)|(simp [*,errW_none,errW_some]<;>rfl),by repeat (first|(with_reducible first|exact HB.out|apply below_alloc|apply pw_below_drewN|apply below_drew1|refine below_set ?_ GE102.out)|exact HB.out)⟩
  ·rw [if_neg c3] at H
   exact absurd H (by simp)
 ·rw [if_neg c2] at H
  exact absurd H (by simp)
end Go.Proofs.YtfiamddinkokbaaGreat.F
end

section
namespace Go.Proofs.YtfiamddinkokbaaGreat.F
open Go.RowKit Go.Shelf Go.Proofs.YtfiamddinkokbaaGreatW.PrintWords
abbrev PP := S124
def Bld (B f X : Nat) (g0 g1 g2 : ByteArray) (st fv : Int) (l : List PP) (w : World) : Prop :=
 ∃ v,B≤f∧w.heap[f]? = some (.cells #[.string g0,.string g1,.string g2,.int .i64 st,.int .i64 fv,v] 165 (0,0))∧Kd.R k124 124 w B (fun k=>k≠f∧k≠X) v l
theorem Bld.below {B f X : Nat} {g0 g1 g2 : ByteArray} {st fv : Int} {l : List PP} {w w' : World} (h : Bld B f X g0 g1 g2 st fv l w) (hb : Below w.heap.size w w') : Bld B f X g0 g1 g2 st fv l w' := by
 obtain⟨v,h0,h1,h2⟩:=h
 exact⟨v,h0,(hb.block f (Array.getElem?_eq_some_iff.1 h1).1).trans h1,Kd.R_below h2 hb⟩
theorem Bld.lo {B f X : Nat} {g0 g1 g2 : ByteArray} {st fv : Int} {l : List PP} {w : World} (h : Bld B f X g0 g1 g2 st fv l w) : B≤f := by obtain⟨v,h,_⟩ := h;exact h
theorem Bld.lt {B f X : Nat} {g0 g1 g2 : ByteArray} {st fv : Int} {l : List PP} {w : World} (h : Bld B f X g0 g1 g2 st fv l w) : f<w.heap.size := by obtain⟨v,_,h,_⟩ := h;exact (Array.getElem?_eq_some_iff.1 h).1
theorem Bld.weaken {B f X : Nat} {g0 g1 g2 : ByteArray} {st fv : Int} {l : List PP} {w : World} (h : Bld B f X g0 g1 g2 st fv l w) : Bld B f f g0 g1 g2 st fv l w := by
 obtain⟨v,h0,h1,h2⟩:=h
 exact⟨v,h0,h1,Kd.R_mono h2 (fun k hk=>⟨hk.1,hk.1⟩)⟩
theorem Bld.fresh {B f X : Nat} {g0 g1 g2 : ByteArray} {st fv : Int} {l : List PP} {w w' : World} {Y : Nat} (h : Bld B f X g0 g1 g2 st fv l w) (hY : w.heap.size≤Y) (hb : Below w.heap.size w w') : Bld B f Y g0 g1 g2 st fv l w' := by
 obtain⟨v,h0,h1,h2⟩:=h
 refine⟨v,h0,(hb.block f (Array.getElem?_eq_some_iff.1 h1).1).trans h1,Kd.R_below ⟨fun k hk=>⟨(h2.1 k hk).1,fun e=>?_⟩,h2.2⟩ hb⟩
 have:=Kd.R_lt h2 k hk
 omega
theorem part_info : (Tryz.prog.info? 124).map (fun i=>(i.zero,i.size,i.bytes))=some (some (.agg #[.string ⟨#[]⟩,.string ⟨#[]⟩,.string ⟨#[]⟩,.bool false,.string ⟨#[]⟩,.string ⟨#[]⟩,.string ⟨#[]⟩,.string ⟨#[]⟩,.bool false]),9,128) := by kernel_rfl
theorem bld_put {B f X : Nat} {g0 g1 g2 : ByteArray} {st fv : Int} {v v1 : Value} {l l1 : List PP} {W w1 : World} (h0 : B≤f) (h1 : W.heap[f]? = some (.cells #[.string g0,.string g1,.string g2,.int .i64 st,.int .i64 fv,v] 165 (0,0))) (hR : Kd.R k124 124 W B (fun k=>k≠f∧k≠X) v l)
  (hR1:Kd.R k124 124 w1 B (fun k=>k≠f∧k≠X) v1 l1) (hg:W.grownBy w1 v.ownBlock):w1.heap[f]? = some (.cells #[.string g0,.string g1,.string g2,.int .i64 st,.int .i64 fv,v] 165 (0,0))∧Bld B f X g0 g1 g2 st fv l1 (w1.setCell ⟨f,5,none⟩ v1):=by
 have hf:w1.heap[f]? = some (.cells #[.string g0,.string g1,.string g2,.int .i64 st,.int .i64 fv,v] 165 (0,0)):=(hg.block f (Array.getElem?_eq_some_iff.1 h1).1 (fun e=>(hR.1 f e.symm).1 rfl)).trans h1
 refine⟨hf,v1,h0,?_,?_⟩
 ·simp [World.setCell,Array.getElem?_modify,hf]
 ·exact Kd.R_step hR1 (fun k hk _=>Below.heap_setCell _ _ _ _ hk.1)
theorem tr1 {W : World} {p : Addr} {v : Value} (o : Obj) (h : W.cell? p=some v) : (W.alloc o).cell? p=some v := ((below_alloc (Below.refl W.heap.size W) o).cell (World.block_lt_of_cell? W _ h)).trans h
def textPart (j : ByteArray) : PP := ⟨z29,false,j,⟨#[]⟩,⟨#[]⟩,⟨#[]⟩,false⟩
set_option maxHeartbeats 8000000 in
set_option maxRecDepth 100000 in
theorem text_calls {B f X : Nat} {g0 g1 g2 : ByteArray} {st fv : Int} {l : List PP} {w : World} (A1 : Option Addr) (c1 : Nat) (xs : List ByteArray) (j : ByteArray) (h : Bld B f X g0 g1 g2 st fv l w) (hA : Kd.C Kd.string w A1 xs.length xs) (hc : xs.length≤c1) (hj : lines_Join.f xs=some j) (hl : l.length≤100000000000) (hBw : B≤w.heap.size) (hX : X<w.heap.size) :
  Calls Tryz.prog 123 #[.pointer (some ⟨f,0,none⟩),.slice A1 xs.length c1] w fun e w'=>e = .returned (.tuple #[])∧Bld B f X g0 g1 g2 st fv (l++[textPart j]) w'∧Below B w w'∧Keeps 124 f w w'∧(X≠f→w'.heap[X]? = w.heap[X]?):=by
 have HXl:=Zd hX
 have HBw:=Zd hBw
 obtain⟨v,h0,h1,hR⟩:=h
 obtain⟨Av,cv,rfl⟩:=Kd.R_slice hR
 have c5:=(blk_cell h1 5).trans (rfl:_=some (Value.slice Av l.length cv))
 have HS:=Zd h1
 have HF0:=Zd h0
 have HR:=Zd hR
 have HJ:=Zd (fun W (hb:Below w.heap.size w W)=>lines_Join.calls A1 c1 xs j W (Kd.C_below hA hb) hc hj)
 clear h0 h1 hR hBw hA hc hj hX
 go_enter Tryz.func123,Tryz.ntmps123
 go_region_law ((first
   | (refine Go.Proofs.YtfiamddinkokbaaGreatW.PrintLast.goes_ Tryz.func142 (by kernel_rfl) rfl #[.slice A1 xs.length c1] (by rfl) rfl rfl (by (try simp only [List.map_toArray,List.map_cons,List.map_nil]);rfl) ?_;refine (HJ.out _ (below_drew1 (Below.refl _ _))).mono ?_;rintro e w1 ⟨rfl,hb1⟩;refine⟨_,rfl,?_⟩;have HB1:=Zd (below_step (below_drew1 (Below.refl w.heap.size w)) hb1);have HS1:=Zd ((HB1.out.block f (Array.getElem?_eq_some_iff.1 HS.out).1).trans HS.out);have c51:=(blk_cell HS1.out 5).trans (rfl:_=some (Value.slice Av l.length cv));have c53:∀ o,(w1.alloc o).cell? ⟨f,5,none⟩=some (Value.slice Av l.length cv):=fun o=>tr1 o c51;have HR1:=Zd (Kd.R_below HR.out HB1.out);have HL1:=Zd (Nat.le_trans HBw.out HB1.out.size);have HFr:Aside0 (∀ k,w1.heap.size≤k→k≠f∧k≠X):=⟨fun k hk=>⟨fun e=>by have:=(Array.getElem?_eq_some_iff.1 HS1.out).1;omega,fun e=>by have:=HB1.out.size;have:=HXl.out;omega⟩⟩;clear hb1)
   | (refine Kd.R_append_step k124 (w0:=w) (W:=w1) B (by rfl) (.tmp 8) (.tmp 12) 33 124 (.agg #[.string ⟨#[]⟩,.string ⟨#[]⟩,.string ⟨#[]⟩,.bool false,.string ⟨#[]⟩,.string ⟨#[]⟩,.string ⟨#[]⟩,.string ⟨#[]⟩,.bool false]) 128 (by rfl) Tryz.underlying33 part_info rfl (by decide) (by omega) (.slice Av l.length cv) l (textPart j) [.string ⟨#[]⟩,.string ⟨#[]⟩,.string ⟨#[]⟩,.bool false,.string j,.string ⟨#[]⟩,.string ⟨#[]⟩,.string ⟨#[]⟩,.bool false] (fun k=>k≠f∧k≠X) (fun _=>False) (by rfl) (by rfl) (k124_mkM _ _ _ _) (fun _ hk=>hk.elim) HFr.out HR1.out (HB1.out.mono HBw.out) HL1.out (by omega) ?_;intro v1 w2 ho hb hg1 hat;obtain⟨Aw,cw,rfl⟩:=Kd.R_slice ho;obtain⟨hf1,hfin⟩:=bld_put HF0.out HS1.out HR1.out ho hg1;have c52:=(blk_cell hf1 5).trans (rfl:_=some (Value.slice Av l.length cv));have f52:=Lib.frozen_of_heap hf1 5;have HF2:=Zd hfin;have HB2:=Zd hb;have HX2:=Zd ((hg1.block X (Nat.lt_of_lt_of_le HXl.out HB1.out.size) (fun e=>(HR1.out.1 X e.symm).2 rfl)).trans (HB1.out.block X HXl.out));have HK2:=Zd ((Keeps.below (T:=124) (b:=f) HB1.out).grown hg1 (Kd.R_typed HR1.out));clear ho hb hg1 hat hfin hf1)))
 all_goals go_end0
 all_goals refine⟨rfl,?_,HB2.out.setCell (p:=⟨f,5,none⟩) HF0.out _,HK2.out.set 5 _,fun e=>(Below.heap_setCell _ _ _ _ e).trans HX2.out⟩
 all_goals rw [show l.length+1=(l++[textPart j]).length by simp only [List.length_append,List.length_singleton]];exact HF2.out
end Go.Proofs.YtfiamddinkokbaaGreat.F
end

section
namespace Go.Proofs.YtfiamddinkokbaaGreat.F
open Go.RowKit Go.Shelf Go.Proofs.YtfiamddinkokbaaGreatW.PrintWords Go.Proofs.YtfiamddinkokbaaGreatW.PrintLast Go.Proofs.YtfiamddinkokbaaGreatW.PrintMore
attribute [local go_sem] max2_int min2_int max_two min_two max_three min_three max_four min_four
def rdS (xs : List ByteArray) (i : Int) : ByteArray := rdOf ByteArray.empty xs i
theorem str_inj {a b : ByteArray} (h : a.toList=b.toList) : a=b := by
 rw [ByteArray.toList_eq,ByteArray.toList_eq] at h
 cases a;cases b
 simp only at h
 congr 1
 exact Array.toList_inj.1 h
theorem rdS_eq_iff {a b : List ByteArray} {u : Int} (h0 : 0≤u) (h1 : u<a.length) (h2 : u<b.length) : rdS a u=rdS b u↔a[u.toNat]? = b[u.toNat]? := by
 unfold rdS rdOf
 rw [List.getD_eq_getElem?_getD,List.getD_eq_getElem?_getD,List.getElem?_eq_getElem (l:=a) (by omega),List.getElem?_eq_getElem (l:=b) (by omega)]
 simp
theorem rdS_rev {a : List ByteArray} {v : Int} (h0 : 0≤v) (h1 : v<a.length) : rdS a ((a.length : Int)-1-v)=rdS a.reverse v := by
 unfold rdS rdOf
 rw [List.getD_eq_getElem?_getD,List.getD_eq_getElem?_getD,List.getElem?_reverse (by omega),show a.length-1-v.toNat=((a.length:Int)-1-v).toNat by omega]
theorem C_str_at {w : World} {A : Option Addr} {n : Nat} {xs : List ByteArray} (h : Kd.C Kd.string w A n xs) (i : Int) (h0 : 0≤i) (h1 : i<n) : ∃ ad,A=some ad∧w.cell? (ad.add i.toNat)=some (.string (rdS xs i)) := Kd.at_string h i h0 h1
theorem cut_CS {w : World} {A : Option Addr} {c : Nat} {xs : List ByteArray} (h : Kd.C Kd.string w A xs.length xs) (hc : xs.length≤c) (j : Int) (h0 : 0≤j) (h1 : j≤xs.length) :
  ∃ (A':Option Addr) (n':Nat),n'=(xs.drop j.toNat).length∧(∀ W:World,(Instr.slice 42 (.slice A xs.length c) (some (.int .i64 j)) none none).run Tryz.prog W = .ok (.slice A' n' (c-j.toNat)) W)∧Kd.C Kd.string w A' n' (xs.drop j.toNat):=by
 obtain⟨m,rfl⟩:=Int.eq_ofNat_of_zero_le h0
 rw [Int.toNat_natCast]
 obtain⟨i0,hi,hz0,hz1,hz2⟩:=info_parts (show (Tryz.prog.info? 9).map (fun i=>(i.zero,i.size,i.bytes))=some (some (.string ⟨#[]⟩),1,16) by kernel_rfl)
 have hd:=Kd.C_drop (m:=m) h (by omega) hc
 rw [show m*Kd.string.sz=m from Nat.mul_one m] at hd
 refine⟨if c=m then A else A.map (·.add m),_,rfl,fun W=>?_,hd⟩
 rw [List.length_drop]
 have hel:Tryz.prog.elem 42=9:=by simp [Program.elem,Tryz.underlying42]
 have hu:Tryz.prog.underlying 42=some (.slice (Tryz.prog.elem 42)):=by rw [hel];exact Tryz.underlying42
 rw [run_slice_l W 42 A xs.length c hu .i64 (m:Int) (Int.natCast_nonneg _) (by omega),hel]
 simp [sizeOf,typeInfo,hi,hz1,sliced,Result.andThen]
theorem reads_revS {w : World} {A : Option Addr} {n : Nat} {xs : List ByteArray} (h : Kd.C Kd.string w A n xs) (v : Int) (h0 : 0≤v) (h1 : v<n) :
  ∃ ad,A=some ad∧w.cell? (ad.add ((n:Int)-1-v).toNat)=some (.string (rdS xs.reverse v)):=by
 have hn:=h.1
 subst hn
 obtain⟨ad,e,hc⟩:=C_str_at h ((xs.length:Int)-1-v) (by omega) (by omega)
 exact⟨ad,e,by rw [hc,rdS_rev h0 h1]⟩
set_option maxHeartbeats 8000000 in
set_option maxRecDepth 100000 in
theorem endss_calls {A C : Option Addr} {ca cb : Nat} {xs ys : List ByteArray} {w : World} (hA : Kd.C Kd.string w A xs.length xs) (hC : Kd.C Kd.string w C ys.length ys) (hca : xs.length≤ca) (hcb : ys.length≤cb) (hx : xs.length≤4000000000) (hy : ys.length≤4000000000) :
  Calls Tryz.prog 156 #[.slice A xs.length ca,.slice C ys.length cb] w fun e w'=>e = .returned (.tuple #[.int .i64 (endsN xs ys),.int .i64 (endsM xs ys)])∧Drawn0 w w':=by
 have HA:=Zd hA
 have HC:=Zd hC
 have HCA:=Zd hca
 have HCB:=Zd hcb
 clear hA hC hca hcb
 by_cases hab:ys.length<xs.length
 ·have habb:decide (ys.length<xs.length)=true:=decide_eq_true hab
  go_enter Tryz.func156,Tryz.ntmps156
  go_wp2
  go_loopg [6] xs.length (fun gg s6 wr=>∃ (u:Int) (q:Nat),s6 = .int .i64 u∧wr=w.drewN q∧0≤u∧u≤ys.length∧Aside0 (pre xs ys=u.toNat+pre (xs.drop u.toNat) (ys.drop u.toNat))∧Aside0 (xs.length-u.toNat≤gg))
  case atStart=>exact⟨0,0,rfl,rfl,by omega,by omega,⟨by simp⟩,⟨by simp⟩⟩
  case round =>
   obtain⟨u,q,rfl,rfl,hu0,hu1,HP,HG⟩:=hrel
   have hcase:(decide (u<(ys.length:Int))=false∧Aside0 (pre xs ys=u.toNat))∨(u<ys.length∧∃ ad bd,A=some ad∧C=some bd∧w.cell? (ad.add u.toNat)=some (.string (rdS xs u))∧w.cell? (bd.add u.toNat)=some (.string (rdS ys u)) ∧
     (((rdS xs u).toList==(rdS ys u).toList)=false∧Aside0 (pre xs ys=u.toNat)∨((rdS xs u).toList==(rdS ys u).toList)=true∧Aside0 (pre xs ys=(u+1).toNat+pre (xs.drop (u+1).toNat) (ys.drop (u+1).toNat)))):=by
    by_cases h1:u<ys.length
    ·right
     have h2:u<(xs.length:Int):=by omega
     have h4:u<(ys.length:Int):=by omega
     obtain⟨ad,e1,hx1⟩:=C_str_at HA.out u hu0 h2
     obtain⟨bd,e2,hx2⟩:=C_str_at HC.out u hu0 h4
     refine⟨h1,ad,bd,e1,e2,hx1,hx2,?_⟩
     by_cases h3:rdS xs u=rdS ys u
     ·refine .inr ⟨beq_iff_eq.2 (congrArg ByteArray.toList h3),⟨?_⟩⟩
      have:=pre_on (a:=xs) (b:=ys) (u:=u.toNat) (by omega) (by omega) ((rdS_eq_iff hu0 h2 h4).1 h3)
      rw [HP.out,this,show (u+1).toNat=u.toNat+1 by omega];omega
     ·exact .inl ⟨beq_eq_false_iff_ne.2 (fun e=>h3 (str_inj e)),⟨by rw [HP.out,pre_off (fun h=>h3 ((rdS_eq_iff hu0 h2 h4).2 h.2.2))];rfl⟩⟩
    ·left
     exact⟨decide_eq_false h1,⟨by rw [HP.out,pre_off (fun h=>h1 (by omega))];rfl⟩⟩
   have hux:u≤(xs.length:Int):=by omega
   have huy:u≤(ys.length:Int):=by omega
   clear HP
   rcases hcase with ⟨h1b,HP⟩|⟨h1,ad,bd,rfl,rfl,hx1,hx2,⟨h3b,HP⟩|⟨h3b,HP⟩⟩
   rotate_left 2
   ·have h1b:decide (u<(ys.length:Int))=true:=decide_eq_true h1
    have h2:u<(xs.length:Int):=by omega
    have h4:u<(ys.length:Int):=by omega
    go_wp2
    go_quiet (fail)
    go_wp2
    go_roundg (xs.length-(u+1).toNat)
    case measure=>have:=HG.out;omega
    case rel=>exact⟨u+1,q+nq,by go_num,rfl,by omega,by omega,HP,⟨Nat.le_refl _⟩⟩
   rotate_left
   ·have h1b:decide (u<(ys.length:Int))=true:=decide_eq_true h1
    have h2:u<(xs.length:Int):=by omega
    have h4:u<(ys.length:Int):=by omega
    go_wp2
    go_quiet (fail)
    clear hx1 hx2 h3b h1b h1
    obtain⟨A2,lx,hlx,hcut1,hr1⟩:=cut_CS HA.out HCA.out u hu0 hux
    obtain⟨C2,ly,hly,hcut2,hr2⟩:=cut_CS HC.out HCB.out u hu0 huy
    have HR1:=Zd hr1
    have HLX:=Zd hlx
    have HLY:=Zd hly
    have HR2:=Zd hr2
    clear hr1 hr2 hlx hly
    go_wp2
    go_quiet (fail)
    clear hcut1 hcut2
    have habb2:decide (ly<lx)=true:=by rw [HLX.out,HLY.out,List.length_drop,List.length_drop];exact decide_eq_true (by omega)
    have HPR:=Zd (show endsM xs ys=pre (xs.drop u.toNat).reverse (ys.drop u.toNat).reverse by unfold endsM;rw [HP.out])
    have hlx:lx≤4000000000:=by rw [HLX.out,List.length_drop];omega
    have hly:ly≤4000000000:=by rw [HLY.out,List.length_drop];omega
    have hab2:ly<lx:=by rw [HLX.out,HLY.out,List.length_drop,List.length_drop];omega
    have hle:ly≤lx:=by rw [HLX.out,HLY.out,List.length_drop,List.length_drop];omega
    have HUZ:=Zd (show ((endsN xs ys:Nat):Int)=u by unfold endsN;rw [HP.out];omega)
    have HUU:=Zd huy
    have HUV:=Zd hux
    clear HP HG habb hux huy hu1
    generalize xs.drop u.toNat=xd at *
    generalize ys.drop u.toNat=yd at *
    go_wp2
    obtain⟨q0,hq0⟩:∃ q0:Nat,Aside0 (q0=q0):=⟨0,⟨rfl⟩⟩
    clear hq0 q0
    go_loopg [7] lx (fun gg s7 wr=>∃ (v:Int) (q:Nat),s7 = .int .i64 v∧wr=w.drewN q∧0≤v∧v≤ly∧Aside0 (pre xd.reverse yd.reverse=v.toNat+pre (xd.reverse.drop v.toNat) (yd.reverse.drop v.toNat))∧Aside0 (lx-v.toNat≤gg))
    case atStart=>exact⟨0,_,rfl,(by rw [World.drewN_drewN,World.drewN_drewN]),by omega,by omega,⟨by simp⟩,⟨by simp⟩⟩
    case round =>
     obtain⟨v,q2,rfl,rfl,hv0,hv1,HP,HG⟩:=hrel
     have hcase:(decide (v<(ly:Int))=false∧Aside0 (pre xd.reverse yd.reverse=v.toNat))∨(v<ly∧∃ ad bd,A2=some ad∧C2=some bd∧w.cell? (ad.add ((lx:Int)-1-v).toNat)=some (.string (rdS xd.reverse v))∧w.cell? (bd.add ((ly:Int)-1-v).toNat)=some (.string (rdS yd.reverse v)) ∧
       (((rdS xd.reverse v).toList==(rdS yd.reverse v).toList)=false∧Aside0 (pre xd.reverse yd.reverse=v.toNat)∨((rdS xd.reverse v).toList==(rdS yd.reverse v).toList)=true∧Aside0 (pre xd.reverse yd.reverse=(v+1).toNat+pre (xd.reverse.drop (v+1).toNat) (yd.reverse.drop (v+1).toNat)))):=by
      have l1:xd.reverse.length=lx:=by rw [List.length_reverse];exact HLX.out.symm
      have l2:yd.reverse.length=ly:=by rw [List.length_reverse];exact HLY.out.symm
      by_cases h1:v<ly
      ·right
       have h2:v<(lx:Int):=by omega
       have h4:v<(ly:Int):=by omega
       obtain⟨ad,e1,hx1⟩:=reads_revS HR1.out v hv0 h2
       obtain⟨bd,e2,hx2⟩:=reads_revS HR2.out v hv0 h4
       refine⟨h1,ad,bd,e1,e2,hx1,hx2,?_⟩
       by_cases h3:rdS xd.reverse v=rdS yd.reverse v
       ·refine .inr ⟨beq_iff_eq.2 (congrArg ByteArray.toList h3),⟨?_⟩⟩
        have:=pre_on (a:=xd.reverse) (b:=yd.reverse) (u:=v.toNat) (by omega) (by omega) ((rdS_eq_iff hv0 (by omega) (by omega)).1 h3)
        rw [HP.out,this,show (v+1).toNat=v.toNat+1 by omega];omega
       ·exact .inl ⟨beq_eq_false_iff_ne.2 (fun e=>h3 (str_inj e)),⟨by rw [HP.out,pre_off (fun h=>h3 ((rdS_eq_iff hv0 (by omega) (by omega)).2 h.2.2))];rfl⟩⟩
      ·left
       exact⟨decide_eq_false h1,⟨by rw [HP.out,pre_off (fun h=>h1 (by omega))];rfl⟩⟩
     clear HP
     generalize rdS xd.reverse v=cx at hcase
     generalize rdS yd.reverse v=cy at hcase
     rcases hcase with ⟨h1b,HP⟩|⟨h1,ad,bd,rfl,rfl,hx1,hx2,⟨h3b,HP⟩|⟨h3b,HP⟩⟩
     ·go_wp2
      go_quiet (fail)
      go_wp2
      go_ret2
      rw [HPR.out,HP.out,HUZ.out,show ((v.toNat:Nat):Int)=v by omega]
      exact⟨rfl,Drawn0.step ⟨⟨q2,rfl⟩⟩ _⟩
     ·have h1b:decide (v<(ly:Int))=true:=decide_eq_true h1
      have i0:0≤(lx:Int)-1-v:=by omega
      have i1:(lx:Int)-1-v<(lx:Int):=by omega
      have i2:0≤(ly:Int)-1-v:=by omega
      have i3:(ly:Int)-1-v<(ly:Int):=by omega
      go_wp2
      go_quiet (fail)
      go_wp2
      go_ret2
      rw [HPR.out,HP.out,HUZ.out,show ((v.toNat:Nat):Int)=v by omega]
      exact⟨rfl,Drawn0.step ⟨⟨q2,rfl⟩⟩ _⟩
     ·have h1b:decide (v<(ly:Int))=true:=decide_eq_true h1
      have i0:0≤(lx:Int)-1-v:=by omega
      have i1:(lx:Int)-1-v<(lx:Int):=by omega
      have i2:0≤(ly:Int)-1-v:=by omega
      have i3:(ly:Int)-1-v<(ly:Int):=by omega
      go_wp2
      go_quiet (fail)
      go_wp2
      go_roundg (lx-(v+1).toNat)
      case measure=>have:=HG.out;omega
      case rel=>exact⟨v+1,q2+nq,by go_num,rfl,by omega,by omega,HP,⟨Nat.le_refl _⟩⟩
   ·go_wp2
    go_quiet (fail)
    clear h1b
    obtain⟨A2,lx,hlx,hcut1,hr1⟩:=cut_CS HA.out HCA.out u hu0 hux
    obtain⟨C2,ly,hly,hcut2,hr2⟩:=cut_CS HC.out HCB.out u hu0 huy
    have HR1:=Zd hr1
    have HLX:=Zd hlx
    have HLY:=Zd hly
    have HR2:=Zd hr2
    clear hr1 hr2 hlx hly
    go_wp2
    go_quiet (fail)
    clear hcut1 hcut2
    have habb2:decide (ly<lx)=true:=by rw [HLX.out,HLY.out,List.length_drop,List.length_drop];exact decide_eq_true (by omega)
    have HPR:=Zd (show endsM xs ys=pre (xs.drop u.toNat).reverse (ys.drop u.toNat).reverse by unfold endsM;rw [HP.out])
    have hlx:lx≤4000000000:=by rw [HLX.out,List.length_drop];omega
    have hly:ly≤4000000000:=by rw [HLY.out,List.length_drop];omega
    have hab2:ly<lx:=by rw [HLX.out,HLY.out,List.length_drop,List.length_drop];omega
    have hle:ly≤lx:=by rw [HLX.out,HLY.out,List.length_drop,List.length_drop];omega
    have HUZ:=Zd (show ((endsN xs ys:Nat):Int)=u by unfold endsN;rw [HP.out];omega)
    have HUU:=Zd huy
    have HUV:=Zd hux
    clear HP HG habb hux huy hu1
    generalize xs.drop u.toNat=xd at *
    generalize ys.drop u.toNat=yd at *
    go_wp2
    obtain⟨q0,hq0⟩:∃ q0:Nat,Aside0 (q0=q0):=⟨0,⟨rfl⟩⟩
    clear hq0 q0
    go_loopg [7] lx (fun gg s7 wr=>∃ (v:Int) (q:Nat),s7 = .int .i64 v∧wr=w.drewN q∧0≤v∧v≤ly∧Aside0 (pre xd.reverse yd.reverse=v.toNat+pre (xd.reverse.drop v.toNat) (yd.reverse.drop v.toNat))∧Aside0 (lx-v.toNat≤gg))
    case atStart=>exact⟨0,_,rfl,(by rw [World.drewN_drewN,World.drewN_drewN]),by omega,by omega,⟨by simp⟩,⟨by simp⟩⟩
    case round =>
     obtain⟨v,q2,rfl,rfl,hv0,hv1,HP,HG⟩:=hrel
     have hcase:(decide (v<(ly:Int))=false∧Aside0 (pre xd.reverse yd.reverse=v.toNat))∨(v<ly∧∃ ad bd,A2=some ad∧C2=some bd∧w.cell? (ad.add ((lx:Int)-1-v).toNat)=some (.string (rdS xd.reverse v))∧w.cell? (bd.add ((ly:Int)-1-v).toNat)=some (.string (rdS yd.reverse v)) ∧
       (((rdS xd.reverse v).toList==(rdS yd.reverse v).toList)=false∧Aside0 (pre xd.reverse yd.reverse=v.toNat)∨((rdS xd.reverse v).toList==(rdS yd.reverse v).toList)=true∧Aside0 (pre xd.reverse yd.reverse=(v+1).toNat+pre (xd.reverse.drop (v+1).toNat) (yd.reverse.drop (v+1).toNat)))):=by
      have l1:xd.reverse.length=lx:=by rw [List.length_reverse];exact HLX.out.symm
      have l2:yd.reverse.length=ly:=by rw [List.length_reverse];exact HLY.out.symm
      by_cases h1:v<ly
      ·right
       have h2:v<(lx:Int):=by omega
       have h4:v<(ly:Int):=by omega
       obtain⟨ad,e1,hx1⟩:=reads_revS HR1.out v hv0 h2
       obtain⟨bd,e2,hx2⟩:=reads_revS HR2.out v hv0 h4
       refine⟨h1,ad,bd,e1,e2,hx1,hx2,?_⟩
       by_cases h3:rdS xd.reverse v=rdS yd.reverse v
       ·refine .inr ⟨beq_iff_eq.2 (congrArg ByteArray.toList h3),⟨?_⟩⟩
        have:=pre_on (a:=xd.reverse) (b:=yd.reverse) (u:=v.toNat) (by omega) (by omega) ((rdS_eq_iff hv0 (by omega) (by omega)).1 h3)
        rw [HP.out,this,show (v+1).toNat=v.toNat+1 by omega];omega
       ·exact .inl ⟨beq_eq_false_iff_ne.2 (fun e=>h3 (str_inj e)),⟨by rw [HP.out,pre_off (fun h=>h3 ((rdS_eq_iff hv0 (by omega) (by omega)).2 h.2.2))];rfl⟩⟩
      ·left
       exact⟨decide_eq_false h1,⟨by rw [HP.out,pre_off (fun h=>h1 (by omega))];rfl⟩⟩
     clear HP
     generalize rdS xd.reverse v=cx at hcase
     generalize rdS yd.reverse v=cy at hcase
     rcases hcase with ⟨h1b,HP⟩|⟨h1,ad,bd,rfl,rfl,hx1,hx2,⟨h3b,HP⟩|⟨h3b,HP⟩⟩
     ·go_wp2
      go_quiet (fail)
      go_wp2
      go_ret2
      rw [HPR.out,HP.out,HUZ.out,show ((v.toNat:Nat):Int)=v by omega]
      exact⟨rfl,Drawn0.step ⟨⟨q2,rfl⟩⟩ _⟩
     ·have h1b:decide (v<(ly:Int))=true:=decide_eq_true h1
      have i0:0≤(lx:Int)-1-v:=by omega
      have i1:(lx:Int)-1-v<(lx:Int):=by omega
      have i2:0≤(ly:Int)-1-v:=by omega
      have i3:(ly:Int)-1-v<(ly:Int):=by omega
      go_wp2
      go_quiet (fail)
      go_wp2
      go_ret2
      rw [HPR.out,HP.out,HUZ.out,show ((v.toNat:Nat):Int)=v by omega]
      exact⟨rfl,Drawn0.step ⟨⟨q2,rfl⟩⟩ _⟩
     ·have h1b:decide (v<(ly:Int))=true:=decide_eq_true h1
      have i0:0≤(lx:Int)-1-v:=by omega
      have i1:(lx:Int)-1-v<(lx:Int):=by omega
      have i2:0≤(ly:Int)-1-v:=by omega
      have i3:(ly:Int)-1-v<(ly:Int):=by omega
      go_wp2
      go_quiet (fail)
      go_wp2
      go_roundg (lx-(v+1).toNat)
      case measure=>have:=HG.out;omega
      case rel=>exact⟨v+1,q2+nq,by go_num,rfl,by omega,by omega,HP,⟨Nat.le_refl _⟩⟩
 ·have habb:decide (ys.length<xs.length)=false:=decide_eq_false hab
  go_enter Tryz.func156,Tryz.ntmps156
  go_wp2
  go_loopg [6] xs.length (fun gg s6 wr=>∃ (u:Int) (q:Nat),s6 = .int .i64 u∧wr=w.drewN q∧0≤u∧u≤xs.length∧Aside0 (pre xs ys=u.toNat+pre (xs.drop u.toNat) (ys.drop u.toNat))∧Aside0 (xs.length-u.toNat≤gg))
  case atStart=>exact⟨0,0,rfl,rfl,by omega,by omega,⟨by simp⟩,⟨by simp⟩⟩
  case round =>
   obtain⟨u,q,rfl,rfl,hu0,hu1,HP,HG⟩:=hrel
   have hcase:(decide (u<(xs.length:Int))=false∧Aside0 (pre xs ys=u.toNat))∨(u<xs.length∧∃ ad bd,A=some ad∧C=some bd∧w.cell? (ad.add u.toNat)=some (.string (rdS xs u))∧w.cell? (bd.add u.toNat)=some (.string (rdS ys u)) ∧
     (((rdS xs u).toList==(rdS ys u).toList)=false∧Aside0 (pre xs ys=u.toNat)∨((rdS xs u).toList==(rdS ys u).toList)=true∧Aside0 (pre xs ys=(u+1).toNat+pre (xs.drop (u+1).toNat) (ys.drop (u+1).toNat)))):=by
    by_cases h1:u<xs.length
    ·right
     have h2:u<(xs.length:Int):=by omega
     have h4:u<(ys.length:Int):=by omega
     obtain⟨ad,e1,hx1⟩:=C_str_at HA.out u hu0 h2
     obtain⟨bd,e2,hx2⟩:=C_str_at HC.out u hu0 h4
     refine⟨h1,ad,bd,e1,e2,hx1,hx2,?_⟩
     by_cases h3:rdS xs u=rdS ys u
     ·refine .inr ⟨beq_iff_eq.2 (congrArg ByteArray.toList h3),⟨?_⟩⟩
      have:=pre_on (a:=xs) (b:=ys) (u:=u.toNat) (by omega) (by omega) ((rdS_eq_iff hu0 h2 h4).1 h3)
      rw [HP.out,this,show (u+1).toNat=u.toNat+1 by omega];omega
     ·exact .inl ⟨beq_eq_false_iff_ne.2 (fun e=>h3 (str_inj e)),⟨by rw [HP.out,pre_off (fun h=>h3 ((rdS_eq_iff hu0 h2 h4).2 h.2.2))];rfl⟩⟩
    ·left
     exact⟨decide_eq_false h1,⟨by rw [HP.out,pre_off (fun h=>h1 (by omega))];rfl⟩⟩
   have hux:u≤(xs.length:Int):=by omega
   have huy:u≤(ys.length:Int):=by omega
   clear HP
   rcases hcase with ⟨h1b,HP⟩|⟨h1,ad,bd,rfl,rfl,hx1,hx2,⟨h3b,HP⟩|⟨h3b,HP⟩⟩
   rotate_left 2
   ·have h1b:decide (u<(xs.length:Int))=true:=decide_eq_true h1
    have h2:u<(xs.length:Int):=by omega
    have h4:u<(ys.length:Int):=by omega
    go_wp2
    go_quiet (fail)
    go_wp2
    go_roundg (xs.length-(u+1).toNat)
    case measure=>have:=HG.out;omega
    case rel=>exact⟨u+1,q+nq,by go_num,rfl,by omega,by omega,HP,⟨Nat.le_refl _⟩⟩
   rotate_left
   ·have h1b:decide (u<(xs.length:Int))=true:=decide_eq_true h1
    have h2:u<(xs.length:Int):=by omega
    have h4:u<(ys.length:Int):=by omega
    go_wp2
    go_quiet (fail)
    clear hx1 hx2 h3b h1b h1
    obtain⟨A2,lx,hlx,hcut1,hr1⟩:=cut_CS HA.out HCA.out u hu0 hux
    obtain⟨C2,ly,hly,hcut2,hr2⟩:=cut_CS HC.out HCB.out u hu0 huy
    have HR1:=Zd hr1
    have HLX:=Zd hlx
    have HLY:=Zd hly
    have HR2:=Zd hr2
    clear hr1 hr2 hlx hly
    go_wp2
    go_quiet (fail)
    clear hcut1 hcut2
    have habb2:decide (ly<lx)=false:=by rw [HLX.out,HLY.out,List.length_drop,List.length_drop];exact decide_eq_false (by omega)
    have HPR:=Zd (show endsM xs ys=pre (xs.drop u.toNat).reverse (ys.drop u.toNat).reverse by unfold endsM;rw [HP.out])
    have hlx:lx≤4000000000:=by rw [HLX.out,List.length_drop];omega
    have hly:ly≤4000000000:=by rw [HLY.out,List.length_drop];omega
    have hab2:¬ ly<lx:=by rw [HLX.out,HLY.out,List.length_drop,List.length_drop];omega
    have hle:lx≤ly:=by rw [HLX.out,HLY.out,List.length_drop,List.length_drop];omega
    have HUZ:=Zd (show ((endsN xs ys:Nat):Int)=u by unfold endsN;rw [HP.out];omega)
    have HUU:=Zd huy
    have HUV:=Zd hux
    clear HP HG habb hux huy hu1
    generalize xs.drop u.toNat=xd at *
    generalize ys.drop u.toNat=yd at *
    go_wp2
    obtain⟨q0,hq0⟩:∃ q0:Nat,Aside0 (q0=q0):=⟨0,⟨rfl⟩⟩
    clear hq0 q0
    go_loopg [7] lx (fun gg s7 wr=>∃ (v:Int) (q:Nat),s7 = .int .i64 v∧wr=w.drewN q∧0≤v∧v≤lx∧Aside0 (pre xd.reverse yd.reverse=v.toNat+pre (xd.reverse.drop v.toNat) (yd.reverse.drop v.toNat))∧Aside0 (lx-v.toNat≤gg))
    case atStart=>exact⟨0,_,rfl,(by rw [World.drewN_drewN,World.drewN_drewN]),by omega,by omega,⟨by simp⟩,⟨by simp⟩⟩
    case round =>
     obtain⟨v,q2,rfl,rfl,hv0,hv1,HP,HG⟩:=hrel
     have hcase:(decide (v<(lx:Int))=false∧Aside0 (pre xd.reverse yd.reverse=v.toNat))∨(v<lx∧∃ ad bd,A2=some ad∧C2=some bd∧w.cell? (ad.add ((lx:Int)-1-v).toNat)=some (.string (rdS xd.reverse v))∧w.cell? (bd.add ((ly:Int)-1-v).toNat)=some (.string (rdS yd.reverse v)) ∧
       (((rdS xd.reverse v).toList==(rdS yd.reverse v).toList)=false∧Aside0 (pre xd.reverse yd.reverse=v.toNat)∨((rdS xd.reverse v).toList==(rdS yd.reverse v).toList)=true∧Aside0 (pre xd.reverse yd.reverse=(v+1).toNat+pre (xd.reverse.drop (v+1).toNat) (yd.reverse.drop (v+1).toNat)))):=by
      have l1:xd.reverse.length=lx:=by rw [List.length_reverse];exact HLX.out.symm
      have l2:yd.reverse.length=ly:=by rw [List.length_reverse];exact HLY.out.symm
      by_cases h1:v<lx
      ·right
       have h2:v<(lx:Int):=by omega
       have h4:v<(ly:Int):=by omega
       obtain⟨ad,e1,hx1⟩:=reads_revS HR1.out v hv0 h2
       obtain⟨bd,e2,hx2⟩:=reads_revS HR2.out v hv0 h4
       refine⟨h1,ad,bd,e1,e2,hx1,hx2,?_⟩
       by_cases h3:rdS xd.reverse v=rdS yd.reverse v
       ·refine .inr ⟨beq_iff_eq.2 (congrArg ByteArray.toList h3),⟨?_⟩⟩
        have:=pre_on (a:=xd.reverse) (b:=yd.reverse) (u:=v.toNat) (by omega) (by omega) ((rdS_eq_iff hv0 (by omega) (by omega)).1 h3)
        rw [HP.out,this,show (v+1).toNat=v.toNat+1 by omega];omega
       ·exact .inl ⟨beq_eq_false_iff_ne.2 (fun e=>h3 (str_inj e)),⟨by rw [HP.out,pre_off (fun h=>h3 ((rdS_eq_iff hv0 (by omega) (by omega)).2 h.2.2))];rfl⟩⟩
      ·left
       exact⟨decide_eq_false h1,⟨by rw [HP.out,pre_off (fun h=>h1 (by omega))];rfl⟩⟩
     clear HP
     generalize rdS xd.reverse v=cx at hcase
     generalize rdS yd.reverse v=cy at hcase
     rcases hcase with ⟨h1b,HP⟩|⟨h1,ad,bd,rfl,rfl,hx1,hx2,⟨h3b,HP⟩|⟨h3b,HP⟩⟩
     ·go_wp2
      go_quiet (fail)
      go_wp2
      go_ret2
      rw [HPR.out,HP.out,HUZ.out,show ((v.toNat:Nat):Int)=v by omega]
      exact⟨rfl,Drawn0.step ⟨⟨q2,rfl⟩⟩ _⟩
     ·have h1b:decide (v<(lx:Int))=true:=decide_eq_true h1
      have i0:0≤(lx:Int)-1-v:=by omega
      have i1:(lx:Int)-1-v<(lx:Int):=by omega
      have i2:0≤(ly:Int)-1-v:=by omega
      have i3:(ly:Int)-1-v<(ly:Int):=by omega
      go_wp2
      go_quiet (fail)
      go_wp2
      go_ret2
      rw [HPR.out,HP.out,HUZ.out,show ((v.toNat:Nat):Int)=v by omega]
      exact⟨rfl,Drawn0.step ⟨⟨q2,rfl⟩⟩ _⟩
     ·have h1b:decide (v<(lx:Int))=true:=decide_eq_true h1
      have i0:0≤(lx:Int)-1-v:=by omega
      have i1:(lx:Int)-1-v<(lx:Int):=by omega
      have i2:0≤(ly:Int)-1-v:=by omega
      have i3:(ly:Int)-1-v<(ly:Int):=by omega
      go_wp2
      go_quiet (fail)
      go_wp2
      go_roundg (lx-(v+1).toNat)
      case measure=>have:=HG.out;omega
      case rel=>exact⟨v+1,q2+nq,by go_num,rfl,by omega,by omega,HP,⟨Nat.le_refl _⟩⟩
   ·go_wp2
    go_quiet (fail)
    clear h1b
    obtain⟨A2,lx,hlx,hcut1,hr1⟩:=cut_CS HA.out HCA.out u hu0 hux
    obtain⟨C2,ly,hly,hcut2,hr2⟩:=cut_CS HC.out HCB.out u hu0 huy
    have HR1:=Zd hr1
    have HLX:=Zd hlx
    have HLY:=Zd hly
    have HR2:=Zd hr2
    clear hr1 hr2 hlx hly
    go_wp2
    go_quiet (fail)
    clear hcut1 hcut2
    have habb2:decide (ly<lx)=false:=by rw [HLX.out,HLY.out,List.length_drop,List.length_drop];exact decide_eq_false (by omega)
    have HPR:=Zd (show endsM xs ys=pre (xs.drop u.toNat).reverse (ys.drop u.toNat).reverse by unfold endsM;rw [HP.out])
    have hlx:lx≤4000000000:=by rw [HLX.out,List.length_drop];omega
    have hly:ly≤4000000000:=by rw [HLY.out,List.length_drop];omega
    have hab2:¬ ly<lx:=by rw [HLX.out,HLY.out,List.length_drop,List.length_drop];omega
    have hle:lx≤ly:=by rw [HLX.out,HLY.out,List.length_drop,List.length_drop];omega
    have HUZ:=Zd (show ((endsN xs ys:Nat):Int)=u by unfold endsN;rw [HP.out];omega)
    have HUU:=Zd huy
    have HUV:=Zd hux
    clear HP HG habb hux huy hu1
    generalize xs.drop u.toNat=xd at *
    generalize ys.drop u.toNat=yd at *
    go_wp2
    obtain⟨q0,hq0⟩:∃ q0:Nat,Aside0 (q0=q0):=⟨0,⟨rfl⟩⟩
    clear hq0 q0
    go_loopg [7] lx (fun gg s7 wr=>∃ (v:Int) (q:Nat),s7 = .int .i64 v∧wr=w.drewN q∧0≤v∧v≤lx∧Aside0 (pre xd.reverse yd.reverse=v.toNat+pre (xd.reverse.drop v.toNat) (yd.reverse.drop v.toNat))∧Aside0 (lx-v.toNat≤gg))
    case atStart=>exact⟨0,_,rfl,(by rw [World.drewN_drewN,World.drewN_drewN]),by omega,by omega,⟨by simp⟩,⟨by simp⟩⟩
    case round =>
     obtain⟨v,q2,rfl,rfl,hv0,hv1,HP,HG⟩:=hrel
     have hcase:(decide (v<(lx:Int))=false∧Aside0 (pre xd.reverse yd.reverse=v.toNat))∨(v<lx∧∃ ad bd,A2=some ad∧C2=some bd∧w.cell? (ad.add ((lx:Int)-1-v).toNat)=some (.string (rdS xd.reverse v))∧w.cell? (bd.add ((ly:Int)-1-v).toNat)=some (.string (rdS yd.reverse v)) ∧
       (((rdS xd.reverse v).toList==(rdS yd.reverse v).toList)=false∧Aside0 (pre xd.reverse yd.reverse=v.toNat)∨((rdS xd.reverse v).toList==(rdS yd.reverse v).toList)=true∧Aside0 (pre xd.reverse yd.reverse=(v+1).toNat+pre (xd.reverse.drop (v+1).toNat) (yd.reverse.drop (v+1).toNat)))):=by
      have l1:xd.reverse.length=lx:=by rw [List.length_reverse];exact HLX.out.symm
      have l2:yd.reverse.length=ly:=by rw [List.length_reverse];exact HLY.out.symm
      by_cases h1:v<lx
      ·right
       have h2:v<(lx:Int):=by omega
       have h4:v<(ly:Int):=by omega
       obtain⟨ad,e1,hx1⟩:=reads_revS HR1.out v hv0 h2
       obtain⟨bd,e2,hx2⟩:=reads_revS HR2.out v hv0 h4
       refine⟨h1,ad,bd,e1,e2,hx1,hx2,?_⟩
       by_cases h3:rdS xd.reverse v=rdS yd.reverse v
       ·refine .inr ⟨beq_iff_eq.2 (congrArg ByteArray.toList h3),⟨?_⟩⟩
        have:=pre_on (a:=xd.reverse) (b:=yd.reverse) (u:=v.toNat) (by omega) (by omega) ((rdS_eq_iff hv0 (by omega) (by omega)).1 h3)
        rw [HP.out,this,show (v+1).toNat=v.toNat+1 by omega];omega
       ·exact .inl ⟨beq_eq_false_iff_ne.2 (fun e=>h3 (str_inj e)),⟨by rw [HP.out,pre_off (fun h=>h3 ((rdS_eq_iff hv0 (by omega) (by omega)).2 h.2.2))];rfl⟩⟩
      ·left
       exact⟨decide_eq_false h1,⟨by rw [HP.out,pre_off (fun h=>h1 (by omega))];rfl⟩⟩
     clear HP
     generalize rdS xd.reverse v=cx at hcase
     generalize rdS yd.reverse v=cy at hcase
     rcases hcase with ⟨h1b,HP⟩|⟨h1,ad,bd,rfl,rfl,hx1,hx2,⟨h3b,HP⟩|⟨h3b,HP⟩⟩
     ·go_wp2
      go_quiet (fail)
      go_wp2
      go_ret2
      rw [HPR.out,HP.out,HUZ.out,show ((v.toNat:Nat):Int)=v by omega]
      exact⟨rfl,Drawn0.step ⟨⟨q2,rfl⟩⟩ _⟩
     ·have h1b:decide (v<(lx:Int))=true:=decide_eq_true h1
      have i0:0≤(lx:Int)-1-v:=by omega
      have i1:(lx:Int)-1-v<(lx:Int):=by omega
      have i2:0≤(ly:Int)-1-v:=by omega
      have i3:(ly:Int)-1-v<(ly:Int):=by omega
      go_wp2
      go_quiet (fail)
      go_wp2
      go_ret2
      rw [HPR.out,HP.out,HUZ.out,show ((v.toNat:Nat):Int)=v by omega]
      exact⟨rfl,Drawn0.step ⟨⟨q2,rfl⟩⟩ _⟩
     ·have h1b:decide (v<(lx:Int))=true:=decide_eq_true h1
      have i0:0≤(lx:Int)-1-v:=by omega
      have i1:(lx:Int)-1-v<(lx:Int):=by omega
      have i2:0≤(ly:Int)-1-v:=by omega
      have i3:(ly:Int)-1-v<(ly:Int):=by omega
      go_wp2
      go_quiet (fail)
      go_wp2
      go_roundg (lx-(v+1).toNat)
      case measure=>have:=HG.out;omega
      case rel=>exact⟨v+1,q2+nq,by go_num,rfl,by omega,by omega,HP,⟨Nat.le_refl _⟩⟩
end Go.Proofs.YtfiamddinkokbaaGreat.F
end

section
namespace Go.Proofs.YtfiamddinkokbaaGreat.F
open Go.RowKit Go.Shelf Go.Proofs.YtfiamddinkokbaaGreatW.PrintWords
set_option maxHeartbeats 4000000 in
set_option maxRecDepth 100000 in
theorem hoist_calls {A C : Option Addr} {ca cb : Nat} {xs ys : List ByteArray} {w : World} (hA : Kd.C Kd.string w A xs.length xs) (hC : Kd.C Kd.string w C ys.length ys) (hca : xs.length≤ca) (hcb : ys.length≤cb) (hx : xs.length≤4000000000) (hy : ys.length≤4000000000) :
  Calls Tryz.prog 143 #[.slice A xs.length ca,.slice C ys.length cb] w fun e w'=>e = .returned (.tuple #[.int .i64 (endsN xs ys),.int .i64 (endsM xs ys)])∧Drawn0 w w':=by
 have H:=endss_calls hA hC hca hcb hx hy
 clear hA hC hca hcb hx hy
 go_enter Tryz.func143,Tryz.ntmps143
 go_wp2_with (first|(go_at_call 156;refine H.mono ?_;rintro e w1 ⟨rfl,hd⟩;have HD:=Zd hd;clear hd))
 go_ret2
 exact⟨rfl,HD.out⟩
def midS (xs : List ByteArray) (n m : Nat) : List ByteArray := (xs.take (xs.length-m)).drop n
theorem str_info : (Tryz.prog.info? 9).map (fun i=>(i.zero,i.size,i.bytes))=some (some (.string ⟨#[]⟩),1,16) := by kernel_rfl
theorem cut_CSm {w : World} {A : Option Addr} {c : Nat} {xs : List ByteArray} (h : Kd.C Kd.string w A xs.length xs) (hc : xs.length≤c) (n m : Nat) (h0 : n+m≤xs.length) :
  ∃ (A':Option Addr) (n':Nat),n'=(midS xs n m).length∧(∀ W:World,(Instr.slice 42 (.slice A xs.length c) (some (.int .i64 (n:Int))) (some (.int .i64 ((xs.length:Int)-(m:Int)))) none).run Tryz.prog W = .ok (.slice A' n' (c-n)) W)∧Kd.C Kd.string w A' n' (midS xs n m)∧n'≤c-n:=by
 obtain⟨i0,hi,hz0,hz1,hz2⟩:=info_parts str_info
 have hcut:=cut_mid (P:=Tryz.prog) 42 9 .i64 .i64 Tryz.underlying42 hi 1 hz1 A xs.length c (n:Int) ((xs.length:Int)-(m:Int)) (by omega) (by omega) (by omega) hc
 have hm:=Kd.C_mid (lo:=n) (hi:=xs.length-m) h (by omega) (by omega) hc
 have hl:((xs.length:Int)-(m:Int)).toNat-(n:Int).toNat=(midS xs n m).length:=by unfold midS;rw [List.length_drop,List.length_take];omega
 refine⟨if c=n then A else A.map (·.add (n*1)),_,rfl,fun W=>?_,?_,?_⟩
 ·rw [hcut W,hl,Int.toNat_natCast]
 ·exact hm
 ·rw [←hl];omega
theorem cut_CSt {w : World} {A : Option Addr} {c : Nat} {xs : List ByteArray} (h : Kd.C Kd.string w A xs.length xs) (hc : xs.length≤c) (n : Nat) (h0 : n≤xs.length) :
  (∀ W:World,(Instr.slice 42 (.slice A xs.length c) none (some (.int .i64 (n:Int))) none).run Tryz.prog W = .ok (.slice A (xs.take n).length c) W)∧Kd.C Kd.string w A (xs.take n).length (xs.take n)∧(xs.take n).length≤c:=by
 obtain⟨i0,hi,hz0,hz1,hz2⟩:=info_parts str_info
 have hcut:=cut_to (P:=Tryz.prog) 42 9 .i64 Tryz.underlying42 hi A xs.length c (n:Int) (by omega) (by omega) hc
 have hl:(xs.take n).length=n:=by rw [List.length_take];omega
 refine⟨fun W=>by rw [hcut W,hl,Int.toNat_natCast],?_,by omega⟩
 have:=Kd.C_take h h0
 exact this
theorem cut_CSf {K : World→Prop} {A : Option Addr} {c : Nat} {xs : List ByteArray} (h : ∀ w,K w→Kd.C Kd.string w A xs.length xs) (hc : xs.length≤c) (m : Nat) (h0 : m≤xs.length) :
  ∃ A':Option Addr,(∀ W:World,(Instr.slice 42 (.slice A xs.length c) (some (.int .i64 ((xs.length:Int)-(m:Int)))) none none).run Tryz.prog W = .ok (.slice A' (xs.drop (xs.length-m)).length (c-(xs.length-m))) W)∧(∀ w,K w→Kd.C Kd.string w A' (xs.drop (xs.length-m)).length (xs.drop (xs.length-m)))∧(xs.drop (xs.length-m)).length≤c-(xs.length-m):=by
 obtain⟨i0,hi,hz0,hz1,hz2⟩:=info_parts str_info
 have hcut:=cut_from (P:=Tryz.prog) 42 9 .i64 Tryz.underlying42 hi 1 hz1 A xs.length c ((xs.length:Int)-(m:Int)) (by omega) (by omega)
 have hl:xs.length-((xs.length:Int)-(m:Int)).toNat=(xs.drop (xs.length-m)).length:=by rw [List.length_drop];omega
 have ht:((xs.length:Int)-(m:Int)).toNat=xs.length-m:=by omega
 refine⟨if c=xs.length-m then A else A.map (·.add ((xs.length-m)*1)),fun W=>?_,fun w hk=>?_,?_⟩
 ·rw [hcut W,hl,ht]
 ·exact Kd.C_drop (m:=xs.length-m) (h w hk) (by omega) hc
 ·rw [List.length_drop];omega
theorem ends_le' (xs ys : List ByteArray) : endsN xs ys+endsM xs ys≤xs.length∧endsN xs ys+endsM xs ys≤ys.length := by
 have h1:=pre_le xs ys
 have h2:=pre_le (xs.drop (pre xs ys)).reverse (ys.drop (pre xs ys)).reverse
 rw [List.length_reverse,List.length_reverse,List.length_drop,List.length_drop] at h2
 unfold endsN endsM
 omega
def hoN (st : Int) (xs ys : List ByteArray) : Nat := if st=2 then endsN xs ys else 0
def hoM (st : Int) (xs ys : List ByteArray) : Nat := if st=2 then endsM xs ys else 0
theorem Bld.c0 {B f X : Nat} {g0 g1 g2 : ByteArray} {st fv : Int} {l : List PP} {w : World} (h : Bld B f X g0 g1 g2 st fv l w) : w.cell? ⟨f,0,none⟩=some (.string g0) := by obtain⟨v,_,h,_⟩ := h;exact (blk_cell h 0).trans rfl
theorem Bld.c1 {B f X : Nat} {g0 g1 g2 : ByteArray} {st fv : Int} {l : List PP} {w : World} (h : Bld B f X g0 g1 g2 st fv l w) : w.cell? ⟨f,1,none⟩=some (.string g1) := by obtain⟨v,_,h,_⟩ := h;exact (blk_cell h 1).trans rfl
theorem Bld.c2 {B f X : Nat} {g0 g1 g2 : ByteArray} {st fv : Int} {l : List PP} {w : World} (h : Bld B f X g0 g1 g2 st fv l w) : w.cell? ⟨f,2,none⟩=some (.string g2) := by obtain⟨v,_,h,_⟩ := h;exact (blk_cell h 2).trans rfl
theorem Bld.c3 {B f X : Nat} {g0 g1 g2 : ByteArray} {st fv : Int} {l : List PP} {w : World} (h : Bld B f X g0 g1 g2 st fv l w) : w.cell? ⟨f,3,none⟩=some (.int .i64 st) := by obtain⟨v,_,h,_⟩ := h;exact (blk_cell h 3).trans rfl
theorem Bld.c4 {B f X : Nat} {g0 g1 g2 : ByteArray} {st fv : Int} {l : List PP} {w : World} (h : Bld B f X g0 g1 g2 st fv l w) : w.cell? ⟨f,4,none⟩=some (.int .i64 fv) := by obtain⟨v,_,h,_⟩ := h;exact (blk_cell h 4).trans rfl
theorem ho_le (st : Int) (xs ys : List ByteArray) : hoN st xs ys+hoM st xs ys≤xs.length∧hoN st xs ys+hoM st xs ys≤ys.length := by
 unfold hoN hoM
 by_cases h:st=2
 ·rw [if_pos h,if_pos h];exact ends_le' xs ys
 ·rw [if_neg h,if_neg h];omega
theorem keep5 {W0 W w' : World} {a b c d e : Addr} {va vb vc vd ve : Value} (hb : Below W.heap.size W w') (h : W.cell? a=some va∧W.cell? b=some vb∧W.cell? c=some vc∧W.cell? d=some vd∧W.cell? e=some ve∧Below W0.heap.size W0 W) :
  w'.cell? a=some va∧w'.cell? b=some vb∧w'.cell? c=some vc∧w'.cell? d=some vd∧w'.cell? e=some ve∧Below W0.heap.size W0 w':=by
 obtain⟨h1,h2,h3,h4,h5,h6⟩:=h
 exact⟨(hb.cell (World.block_lt_of_cell? W _ h1)).trans h1,(hb.cell (World.block_lt_of_cell? W _ h2)).trans h2,(hb.cell (World.block_lt_of_cell? W _ h3)).trans h3,(hb.cell (World.block_lt_of_cell? W _ h4)).trans h4,(hb.cell (World.block_lt_of_cell? W _ h5)).trans h5,below_step h6 hb⟩
theorem below_set9 {B k : Nat} {W0 W : World} (hb : Below B W0 W) (hk : B≤k) (v0 v1 v2 v3 v4 v5 v6 v7 v8 : Value) : Below B W0 (((((((((W.setCell ⟨k,0,none⟩ v0).setCell ⟨k,1,none⟩ v1).setCell ⟨k,2,none⟩ v2).setCell ⟨k,3,none⟩ v3).setCell ⟨k,4,none⟩ v4).setCell ⟨k,5,none⟩ v5).setCell ⟨k,6,none⟩ v6).setCell ⟨k,7,none⟩ v7).setCell ⟨k,8,none⟩ v8) := (((((((((hb.setCell (p := ⟨k,0,none⟩) hk v0).setCell (p := ⟨k,1,none⟩) hk v1).setCell (p := ⟨k,2,none⟩) hk v2).setCell (p := ⟨k,3,none⟩) hk v3).setCell (p := ⟨k,4,none⟩) hk v4).setCell (p := ⟨k,5,none⟩) hk v5).setCell (p := ⟨k,6,none⟩) hk v6).setCell (p := ⟨k,7,none⟩) hk v7).setCell (p := ⟨k,8,none⟩) hk v8)
theorem block_set9 {k : Nat} {T : TypeId} {W : World} {u0 u1 u2 u3 u4 u5 u6 u7 u8 : Value} (h : W.heap[k]? = some (.cells #[u0,u1,u2,u3,u4,u5,u6,u7,u8] T (0,0))) (v0 v1 v2 v3 v4 v5 v6 v7 v8 : Value) : (((((((((W.setCell ⟨k,0,none⟩ v0).setCell ⟨k,1,none⟩ v1).setCell ⟨k,2,none⟩ v2).setCell ⟨k,3,none⟩ v3).setCell ⟨k,4,none⟩ v4).setCell ⟨k,5,none⟩ v5).setCell ⟨k,6,none⟩ v6).setCell ⟨k,7,none⟩ v7).setCell ⟨k,8,none⟩ v8).heap[k]? = some (.cells #[v0,v1,v2,v3,v4,v5,v6,v7,v8] T (0,0)) := by
 simp [World.setCell,Array.getElem?_modify,h]
theorem after_alloc {W w1 : World} {cs : Array Value} {t : TypeId} (hb : Below (W.alloc (.cells cs t)).heap.size (W.alloc (.cells cs t)) w1) : w1.heap[W.heap.size]? = some (.cells cs t (0,0)) :=
 (hb.block _ (by rw [World.size_alloc];omega)).trans (World.alloc_heap_new W _)
theorem after_alloc_drew {W w1 : World} {cs : Array Value} {t : TypeId} (hb : Below (W.alloc (.cells cs t)).drew.heap.size (W.alloc (.cells cs t)).drew w1) : w1.heap[W.heap.size]? = some (.cells cs t (0,0)) := after_alloc (W := W) (w1 := w1) (below_step (below_drew1 (Below.refl _ _)) hb)
theorem after_call {W w1 : World} {k : Nat} {o : Obj} (hb : Below W.heap.size W w1) (h : W.heap[k]? = some o) : w1.heap[k]? = some o :=
 (hb.block _ (Array.getElem?_eq_some_iff.1 h).1).trans h
theorem zero_facts {w : World} {k : Nat} (h : w.heap[k]? = some (.cells #[.string ⟨#[]⟩,.string ⟨#[]⟩,.string ⟨#[]⟩,.bool false,.string ⟨#[]⟩,.string ⟨#[]⟩,.string ⟨#[]⟩,.string ⟨#[]⟩,.bool false] 124 (0,0))) : w.cell? ⟨k,0,none⟩=some (.string ⟨#[]⟩)∧w.cell? ⟨k,1,none⟩=some (.string ⟨#[]⟩)∧w.cell? ⟨k,2,none⟩=some (.string ⟨#[]⟩)∧w.cell? ⟨k,3,none⟩=some (.bool false)∧w.cell? ⟨k,4,none⟩=some (.string ⟨#[]⟩)∧w.cell? ⟨k,5,none⟩=some (.string ⟨#[]⟩)∧w.cell? ⟨k,6,none⟩=some (.string ⟨#[]⟩)∧w.cell? ⟨k,7,none⟩=some (.string ⟨#[]⟩)∧w.cell? ⟨k,8,none⟩=some (.bool false)∧w.frozen? ⟨k,0,none⟩=false∧w.frozen? ⟨k,1,none⟩=false∧w.frozen? ⟨k,2,none⟩=false∧w.frozen? ⟨k,3,none⟩=false∧w.frozen? ⟨k,4,none⟩=false∧w.frozen? ⟨k,5,none⟩=false∧w.frozen? ⟨k,6,none⟩=false∧w.frozen? ⟨k,7,none⟩=false∧w.frozen? ⟨k,8,none⟩=false :=
 ⟨(blk_cell h 0).trans rfl,(blk_cell h 1).trans rfl,(blk_cell h 2).trans rfl,(blk_cell h 3).trans rfl,(blk_cell h 4).trans rfl,(blk_cell h 5).trans rfl,(blk_cell h 6).trans rfl,(blk_cell h 7).trans rfl,(blk_cell h 8).trans rfl,Lib.frozen_of_heap h 0,Lib.frozen_of_heap h 1,Lib.frozen_of_heap h 2,Lib.frozen_of_heap h 3,Lib.frozen_of_heap h 4,Lib.frozen_of_heap h 5,Lib.frozen_of_heap h 6,Lib.frozen_of_heap h 7,Lib.frozen_of_heap h 8⟩
end Go.Proofs.YtfiamddinkokbaaGreat.F
end
