/- Parts of the proof: an evaluator of the model, what it is sound for, and contracts of functions. No condition. -/
import Derived.Test.YteooaaiacpcfoaaGreatDoorP6
import Derived.Test.YteooaaiacpcfoaaGreatDoorP5
import Derived.Test.YteooaaiacpcfoaaGreatDoorP4
import Derived.Shelf.Strings.Builder1
import Derived.Shelf.Small.Bits
import Derived.Shelf.Small.Wraps
import Derived.Shelf.Strings.BuilderF
import Derived.Shelf.Strings.BuilderK
import Derived.Shelf.Strconv.Atoi
import Derived.Shelf.Strconv.Itoa0
import Derived.Shelf.Strconv.Itoa1
import Derived.Shelf.LaysM
import Derived.Shelf.Strconv.Itoa2
import Derived.Shelf.Strconv.Itoa3
import Derived.Shelf.Strconv.AtoiErrFast
import Derived.Shelf.Strconv.ParseIntEmpty
import Derived.Shelf.Strconv.AtoiFail
import Derived.Shelf.Strconv.Clone
import Derived.Shelf.Strconv.SyntaxError
import Derived.Shelf.LaysC
import Derived.Shelf.Strconv.ToError
import Derived.Shelf.Strconv.Lower
import Derived.Shelf.Strconv.ParseUint10
import Derived.Shelf.Strconv.ParseUint10Empty
import Derived.Shelf.Strconv.ParseUint10Any
import Derived.Shelf.Strconv.ParseInt10
import Derived.Shelf.Strconv.AtoiLong
import Derived.Shelf.Strconv.AtoiInnerAll
import Derived.Shelf.Strconv.RangeError
import Derived.Shelf.Strconv.ToErrorRange
import Derived.Shelf.Strconv.AtoiAll
import Derived.Shelf.Strconv.ErrVarAll
import Derived.Shelf.Strconv.ParseUintEmpty
import Derived.Shelf.Strconv.ParseUint10b64
import Derived.Shelf.Strconv.ParseUint10b32
import Derived.Shelf.Strconv.ParseUint10b16
import Derived.Shelf.Strconv.ParseUint10b8
import Derived.Shelf.Strconv.ParseUint10At
import Derived.Shelf.Strings.Prefix
import Derived.Shelf.Strings.Split
import Derived.Shelf.Unicode.Decode
import Derived.Shelf.Strings.Explode
import Derived.Shelf.Bits.Mul64
import Derived.Shelf.Unicode.DecodeAny
import Derived.Shelf.Strings.BuilderCap
import Derived.Ground.Names2Prog
import Derived.Shelf.Slices.In.SortNone
import Derived.Ground.SlgnProg
import Derived.Shelf.SlicesE.Clone
import Derived.Test.YteooaaiacpcfoaaGreatDoorProg
import Derived.Shelf.Strings.OnBuilder
import Derived.Lib.AppendIntMem
import Derived.Test.YteooaaiacpcfoaaGreatDoorChecked
import Derived.KernelRfl
import Derived.Test.YteooaaiacpcfoaaGreatDoorCards
import Derived.Test.YteooaaiacpcfoaaGreatDoorTie
import Derived.WalkKit
import Derived.ProofKit
import Derived.LaidMore
import Derived.Deep.DeepHandedRow
import Derived.Lib.LaidTab
import Derived.Stop.LaidErr
set_option linter.all false
namespace Go.Proofs
open Go.Fs Ieee
set_option maxHeartbeats 2000000
abbrev y69 : Ty := (.pair (.int .i64) (.pair (.int .i64) (.int .i64)))
theorem zt69 : ZerT Tryz.prog 69 y69 := zerT_of (z := .agg #[.int .i64 0, .int .i64 0, .int .i64 0]) (by kernel_rfl) rfl rfl
theorem bt69 : BldT Tryz.prog 69 y69 [(0, 1), (1, 1), (2, 1)] := bldT_of zt69 rfl (by kernel_rfl)
theorem gEnc_ok {r : ByteArray × Int × (List Nat) × (List (Int × Int))} (hl : r.2.2.1.length < 1000000) (hg : r.2.2.2.length < 1000000) : VF Tryz.prog OA 8 [.v y32 r] (.tup [.v y26 (if recE r = 0 then encR r else []), I (recE r)]) := by
  refine VF.enter Tryz.func8 rfl (fun _ _ => rfl) rfl ?_; show VC _ _ _ _ _ [(0, .v y32 r)] [] _; refine VC.seq (VC.text ?_); refine VO.new (.box) ?_; refine VO.c (.assign rfl) (VO.c (.assign rfl) ?_); refine VO.go (VC.seq (VC.seq (VC.text ?_))); refine VO.r (.ld vt32) ?_; refine VO.call rfl rfl (VF.call (gRec_ok hl hg)) ?_; refine VO.c (.assign rfl) ?_; refine VO.go (VC.seq (VC.text ?_)); refine VO.c (.move rfl) (VO.c (.neq) (VO.go ?_)); refine VC.condD rfl (fun c2 => ?_) (fun c2 => ?_)
  · have hne : ¬ recE r = 0 := c2; refine VC.seq (VC.text ?_); refine VO.c (.move rfl) (VO.c (.assign rfl) (VO.c (.assign rfl) (VO.go ?_))); refine VC.ret ?_; exact VEnd.two rfl (evC .nil) evT (pvE (by rw [if_neg hne])) (pvI (by rfl))
  have hr : recE r = 0 := Classical.not_not.1 c2; obtain ⟨hs, hl2, hg2, hv, hsp⟩ := rec_ok hr; obtain ⟨hn0, hn1⟩ := rec_name hr; refine VC.skip (VC.seq (VC.text ?_)); refine VO.litB [(84 : Int), (73 : Int), (68 : Int), (69 : Int)] el26 (by kernel_rfl) (by kernel_rfl) ?_; intro wv1 ww1; refine VO.c (.fa (.l .o)) ?_; refine VO.r (.ld vt9) ?_; refine VO.r (.lenS) ?_; refine VO.c (.convU8) ?_; refine VO.new (.lit [((r.1.size : Int) % 256)] el26) ?_; refine VO.app rfl rfl el26 el26 (by simp) ?_; intro ww2; refine VO.c (.assign rfl) ?_; refine VO.go (VC.seq (VC.text ?_)); refine VO.c (.move rfl) (VO.c (.fa (.l .o)) ?_); refine VO.r (.ld vt9) ?_; refine VO.appTx rfl rfl el26 (by kernel_rfl) (by exact hn0) (by simp only [List.length_append, List.length_cons, List.length_nil]; omega) ?_; intro ww3; refine VO.c (.assign rfl) ?_; refine VO.go (VC.seq (VC.seq (VC.text ?_))); refine VO.c (.fa (.r (.l .o))) ?_; refine VO.r (.ld vt3) ?_; refine VO.c (.fa (.r (.r (.l .o)))) ?_; refine VO.r (.ld vt22) ?_; refine VO.r (.len el22) ?_; refine VO.c (.fa (.r (.r (.r .o)))) ?_; refine VO.r (.ld vt23) ?_; refine VO.r (.len el23) ?_; refine VO.c (.build (r.2.1, ((r.2.2.1.length : Nat) : Int), ((r.2.2.2.length : Nat) : Int)) bt69) (VO.c (.move rfl) ?_); refine VO.go (VC.block ?_); refine VC.unroll ?_; refine VC.seq ?_; refine VC.keep [(1, .p y32 r), (5, .raw ww3), (37, .v y69 (r.2.1, ((r.2.2.1.length : Nat) : Int), ((r.2.2.2.length : Nat) : Int))), (38, I (0 : Int))] ⟨rfl, rfl, rfl, rfl, trivial⟩ ?_; refine VC.text ?_; refine VO.c (.lss) ?_; refine VO.go (VC.seq ?_); refine VC.condT rfl ?_; refine VC.skip (VC.seq (VC.block (VC.seq (VC.text ?_)))); refine VO.c (.ixA 0 (τ' := (.int .i64)) (dy := r.2.1) (.l .o)) (VO.c (.assign rfl) ?_); refine VO.go (VC.text ?_); refine VO.c (.move rfl) (VO.c (.move rfl) (VO.c ((.convW .u32 (wU32 _))) ?_)); refine VO.callG [(ww3, .row 5 (.int .u8) (([(84 : Int), (73 : Int), (68 : Int), (69 : Int)] ++ [((r.1.size : Int) % 256)]) ++ bytesI r.1))] rfl rfl rfl (VFG.call (gPut_ok (u32m_lo _) (by simp only [List.length_append, List.length_cons, List.length_nil, bytesI_len, fourE_len]; omega))) ?_; rintro _ _ ⟨ww4, rfl, rfl⟩; show VO _ _ _ _ _ _ [(ww4, .row 5 (.int .u8) ((([(84 : Int), (73 : Int), (68 : Int), (69 : Int)] ++ [((r.1.size : Int) % 256)]) ++ bytesI r.1) ++ fourE (u32m r.2.1)))] _; refine VO.c (.assign rfl) ?_; refine VO.nil (VC.text ?_); refine VO.c (.add rfl rfl (by decide)) (VO.c (.move rfl) ?_); refine VO.nil ?_; refine VC.unroll ?_; refine VC.seq (VC.text ?_); refine VO.c (.lss) ?_; refine VO.go (VC.seq ?_); refine VC.condT rfl ?_; refine VC.skip (VC.seq (VC.block (VC.seq (VC.text ?_)))); refine VO.c (.ixA 1 (τ' := (.int .i64)) (dy := ((r.2.2.1.length : Nat) : Int)) (.r (.l .o))) (VO.c (.assign rfl) ?_); refine VO.go (VC.text ?_); refine VO.c (.move rfl) (VO.c (.move rfl) (VO.c ((.convW .u32 (wU32 _))) ?_)); refine VO.callG [(ww4, .row 5 (.int .u8) ((([(84 : Int), (73 : Int), (68 : Int), (69 : Int)] ++ [((r.1.size : Int) % 256)]) ++ bytesI r.1) ++ fourE (u32m r.2.1)))] rfl rfl rfl (VFG.call (gPut_ok (u32m_lo _) (by simp only [List.length_append, List.length_cons, List.length_nil, bytesI_len, fourE_len]; omega))) ?_; rintro _ _ ⟨ww5, rfl, rfl⟩; show VO _ _ _ _ _ _ [(ww5, .row 5 (.int .u8) (((([(84 : Int), (73 : Int), (68 : Int), (69 : Int)] ++ [((r.1.size : Int) % 256)]) ++ bytesI r.1) ++ fourE (u32m r.2.1)) ++ fourE (u32m ((r.2.2.1.length : Nat) : Int))))] _; refine VO.c (.assign rfl) ?_; refine VO.nil (VC.text ?_); refine VO.c (.add rfl rfl (by decide)) (VO.c (.move rfl) ?_); refine VO.nil ?_; refine VC.unroll ?_; refine VC.seq (VC.text ?_); refine VO.c (.lss) ?_; refine VO.go (VC.seq ?_); refine VC.condT rfl ?_; refine VC.skip (VC.seq (VC.block (VC.seq (VC.text ?_)))); refine VO.c (.ixA 2 (τ' := (.int .i64)) (dy := ((r.2.2.2.length : Nat) : Int)) (.r (.r .o))) (VO.c (.assign rfl) ?_); refine VO.go (VC.text ?_); refine VO.c (.move rfl) (VO.c (.move rfl) (VO.c ((.convW .u32 (wU32 _))) ?_)); refine VO.callG [(ww5, .row 5 (.int .u8) (((([(84 : Int), (73 : Int), (68 : Int), (69 : Int)] ++ [((r.1.size : Int) % 256)]) ++ bytesI r.1) ++ fourE (u32m r.2.1)) ++ fourE (u32m ((r.2.2.1.length : Nat) : Int))))] rfl rfl rfl (VFG.call (gPut_ok (u32m_lo _) (by simp only [List.length_append, List.length_cons, List.length_nil, bytesI_len, fourE_len]; omega))) ?_; rintro _ _ ⟨ww6, rfl, rfl⟩; show VO _ _ _ _ _ _ [(ww6, .row 5 (.int .u8) ((((([(84 : Int), (73 : Int), (68 : Int), (69 : Int)] ++ [((r.1.size : Int) % 256)]) ++ bytesI r.1) ++ fourE (u32m r.2.1)) ++ fourE (u32m ((r.2.2.1.length : Nat) : Int))) ++ fourE (u32m ((r.2.2.2.length : Nat) : Int))))] _; refine VO.c (.assign rfl) ?_; refine VO.nil (VC.text ?_); refine VO.c (.add rfl rfl (by decide)) (VO.c (.move rfl) ?_); refine VO.nil ?_; refine VC.unroll ?_; refine VC.seq (VC.text ?_); refine VO.c (.lss) ?_; refine VO.go (VC.seq ?_); refine VC.condF rfl ?_; refine VC.exit (VC.seq (VC.seq ?_)); refine VC.keep [(1, .p y32 r), (5, .raw ww6)] ⟨rfl, rfl, trivial⟩ ?_; refine VC.text ?_; refine VO.c (.fa (.r (.r (.r .o)))) ?_; refine VO.r (.ld vt23) ?_; refine VO.r (.len el23) ?_; refine VO.c (.move rfl) ?_; rw [show [(84 : Int), 73, 68, 69] ++ [((r.1.size : Int) % 256)] ++ bytesI r.1 ++ fourE (u32m r.2.1) ++ fourE (u32m (r.2.2.1.length : Nat)) ++ fourE (u32m (r.2.2.2.length : Nat)) = numB r ++ gapB (r.2.2.2.take 0) from (List.append_nil (numB r)).symm]; refine VO.go (VC.block ?_); refine VC.keep [(1, .p y32 r), (5, .raw ww6), (47, .v y23 r.2.2.2), (48, I ((r.2.2.2.length : Nat) : Int)), (49, I ((0 : Nat) : Int))] ⟨rfl, rfl, rfl, rfl, rfl, trivial⟩ ?_; refine VC.loop (I := fun kk ff ss => ∃ (i : Nat) (out : Value), kk = r.2.2.2.length - i ∧ ff = [(1, .p y32 r), (5, .raw out), (47, .v y23 r.2.2.2), (48, I ((r.2.2.2.length : Nat) : Int)), (49, I ((i : Nat) : Int))] ∧ ss = [(out, .row 5 (.int .u8) (numB r ++ gapB (r.2.2.2.take i)))] ∧ (i ≤ r.2.2.2.length)) ?_ _ _ _ ⟨0, ww6, rfl, rfl, rfl, Nat.zero_le _⟩; rintro kk ff ss ⟨i, out, hk2, rfl, rfl, hi⟩; refine VC.seq (VC.text ?_); refine VO.c (.lss) ?_; refine VO.go (VC.seq ?_); refine VC.condD rfl (fun c12 => ?_) (fun c12 => ?_)
  · refine VC.skip (VC.seq (VC.block (VC.seq (VC.text ?_)))); refine VO.c (.ix (j := i) rfl rfl el23 (by omega)) ?_; refine VO.r (.ld vt53) ?_; refine VO.cell (.alloc zt53) ?_; intro ww7; refine VO.setV (cs' := [I ((r.2.2.2[i]).1), I ((r.2.2.2[i]).2)]) vt53 .v ?_; refine VO.go ?_; refine VC.lateK (k := 9) (w := ww7) rfl m0 rfl ?_; refine VK.c (.move rfl) ?_; refine VK.co (.faO (k := 0) m0) ?_; refine VK.q rfl (.inr ⟨_, rfl⟩) (.ldF (k := 0) m0 vt3) ?_; refine VK.c ((.convW .u32 (wU32 _))) ?_; refine VK.perm swap1 ?_; refine VK.callK [(out, .row 5 (.int .u8) (numB r ++ gapB (r.2.2.2.take i)))] rfl rfl rfl (VFG.call (gPut_ok (u32m_lo _) (by have := gapB_len (r.2.2.2.take i); have := numB_len r; have := List.length_take_le i r.2.2.2; simp only [List.length_append, fourE_len] at *; omega))) m0 ?_; rintro _ _ ⟨ww8, rfl, rfl⟩; show VK _ _ _ _ _ _ _ _ _ [(ww8, .row 5 (.int .u8) ((numB r ++ gapB (r.2.2.2.take i)) ++ fourE (u32m r.2.2.2[i].1))), (ww7, .var [I ((r.2.2.2[i]).1), I ((r.2.2.2[i]).2)])] _ _ _; refine VK.co (.faO (k := 1) m1) ?_; refine VK.q rfl (.inr ⟨_, rfl⟩) (.ldF (k := 1) m1 vt3) ?_; refine VK.c ((.convW .u32 (wU32 _))) ?_; refine VK.callK [(ww8, .row 5 (.int .u8) ((numB r ++ gapB (r.2.2.2.take i)) ++ fourE (u32m r.2.2.2[i].1)))] rfl rfl rfl (VFG.call (gPut_ok (u32m_lo _) (by have := gapB_len (r.2.2.2.take i); have := numB_len r; have := List.length_take_le i r.2.2.2; simp only [List.length_append, fourE_len] at *; omega))) m0 ?_; rintro _ _ ⟨ww9, rfl, rfl⟩; show VK _ _ _ _ _ _ _ _ _ [(ww9, .row 5 (.int .u8) (((numB r ++ gapB (r.2.2.2.take i)) ++ fourE (u32m r.2.2.2[i].1)) ++ fourE (u32m r.2.2.2[i].2))), (ww7, .var [I ((r.2.2.2[i]).1), I ((r.2.2.2[i]).2)])] _ _ _; refine VK.c (.assign rfl) ?_; refine VK.nil ?_; refine VC.text ?_; refine VO.c (.add rfl rfl (by omega)) (VO.c (.move rfl) ?_); refine VO.perm swap1 ?_; refine VO.forget ?_; refine VO.nil ?_; refine ⟨_, [(1, .p y32 r), (5, .raw ww9), (47, .v y23 r.2.2.2), (48, I ((r.2.2.2.length : Nat) : Int)), (49, I (((i + 1) : Nat) : Int))], ?_, ⟨rfl, rfl, rfl, rfl, rfl, trivial⟩, (i + 1), ww9, rfl, rfl, (by first | (rw [gapB_next (by omega)]; simp only [List.append_assoc]; done) | (rw [levB_next (by omega)]; simp only [List.append_assoc]; done)), (by omega)⟩; omega
  refine VC.exit (VC.seq (VC.seq (VC.text ?_))); refine VO.c (.fa (.r (.r (.l .o)))) ?_; refine VO.r (.ld vt22) ?_; refine VO.r (.len el22) ?_; refine VO.c (.move rfl) ?_; rw [show numB r ++ gapB (r.2.2.2.take i) = numB r ++ gapB r.2.2.2 ++ levB (r.2.2.1.take 0) by rw [List.take_of_length_le (show r.2.2.2.length ≤ i by omega)]; exact (List.append_nil _).symm]; refine VO.go (VC.block ?_); refine VC.keep [(5, .raw out), (64, .v y22 r.2.2.1), (65, I ((r.2.2.1.length : Nat) : Int)), (66, I ((0 : Nat) : Int))] ⟨rfl, rfl, rfl, rfl, trivial⟩ ?_; refine VC.loop (I := fun kk ff ss => ∃ (i : Nat) (out : Value), kk = r.2.2.1.length - i ∧ ff = [(5, .raw out), (64, .v y22 r.2.2.1), (65, I ((r.2.2.1.length : Nat) : Int)), (66, I ((i : Nat) : Int))] ∧ ss = [(out, .row 5 (.int .u8) (numB r ++ gapB r.2.2.2 ++ levB (r.2.2.1.take i)))] ∧ (i ≤ r.2.2.1.length)) ?_ _ _ _ ⟨0, out, rfl, rfl, rfl, Nat.zero_le _⟩; rintro kk ff ss ⟨i, out, hk4, rfl, rfl, hi⟩; refine VC.seq (VC.text ?_); refine VO.c (.lss) ?_; refine VO.go (VC.seq ?_); refine VC.condD rfl (fun c17 => ?_) (fun c17 => ?_)
  · have hil : i < r.2.2.1.length := by omega
    have hpz : single.add r.2.2.1[i] 0 = some (plusZ r.2.2.1[i]) := (plusZ_ok (hv _ (List.getElem_mem hil))).1; refine VC.skip (VC.seq (VC.block (VC.seq (VC.text ?_)))); refine VO.c (.ix (j := i) rfl rfl el22 (by omega)) ?_; refine VO.r (.ld vt68) ?_; refine VO.c (.assign rfl) ?_; refine VO.go (VC.text ?_); refine VO.c (.move rfl) (VO.c (.move rfl) (VO.c (.fop (add32E hpz)) ?_)); refine VO.call rfl rfl (VF.call (mBits_ok )) ?_; refine VO.callG [(out, .row 5 (.int .u8) (numB r ++ gapB r.2.2.2 ++ levB (r.2.2.1.take i)))] rfl rfl rfl (VFG.call (gPut_ok (Int.natCast_nonneg _) (by have := levB_len (r.2.2.1.take i); have := gapB_len r.2.2.2; have := numB_len r; have := List.length_take_le i r.2.2.1; simp only [List.length_append, fourE_len] at *; omega))) ?_; rintro _ _ ⟨ww10, rfl, rfl⟩; show VO _ _ _ _ _ _ [(ww10, .row 5 (.int .u8) ((numB r ++ gapB r.2.2.2 ++ levB (r.2.2.1.take i)) ++ fourE (((plusZ r.2.2.1[i]) : Nat) : Int)))] _; refine VO.c (.assign rfl) ?_; refine VO.nil (VC.text ?_); refine VO.c (.add rfl rfl (by omega)) (VO.c (.move rfl) ?_); refine VO.nil ?_; refine ⟨_, [(5, .raw ww10), (64, .v y22 r.2.2.1), (65, I ((r.2.2.1.length : Nat) : Int)), (66, I (((i + 1) : Nat) : Int))], ?_, ⟨rfl, rfl, rfl, rfl, trivial⟩, (i + 1), ww10, rfl, rfl, (by first | (rw [gapB_next (by omega)]; simp only [List.append_assoc]; done) | (rw [levB_next (by omega)]; simp only [List.append_assoc]; done)), (by omega)⟩; omega
  refine VC.exit (VC.seq (VC.text ?_)); refine VO.c (.move rfl) (VO.c (.assign rfl) (VO.c (.assign rfl) (VO.go ?_))); refine VC.ret ?_; exact VEnd.two rfl (evC (.row m0)) evT (pvE (by rw [if_pos hr, List.take_of_length_le (show r.2.2.1.length ≤ i by omega)]; rfl)) (pvI (by exact hr.symm))
end Go.Proofs
namespace Go.Proofs
open Go.Fs Ieee
set_option maxHeartbeats 4000000
def numN (l : List Int) : Nat := (numE l).toNat
theorem numN_eq {l : List Int} (hb : byteL l) (h4 : 4 ≤ l.length) : ((numN l : Nat) : Int) = numE l := Int.toNat_of_nonneg (numE_rng hb h4).1
theorem wN {l : List Int} (hb : byteL l) (h4 : 4 ≤ l.length) : IntKind.i64.wrap (numE l) = ((numN l : Nat) : Int) := by
  have := numE_rng hb h4; rw [numN_eq hb h4, wrap64 (by omega) (by omega)]
def tideS : ByteArray := ⟨#[84, 73, 68, 69]⟩
def szD (s : List Int) : Nat := (s.getD 4 0).toNat
def cntL (s : List Int) : Nat := numN (s.drop (5 + szD s + 4))
def cntG (s : List Int) : Nat := numN (s.drop (5 + szD s + 8))
def bodyD (s : List Int) : List Int := s.drop (5 + szD s + 12)
def gapD (d : List Int) (k : Nat) : List (Int × Int) := (List.range k).map fun i => (((numN (d.drop (8 * i)) : Nat) : Int), ((numN (d.drop (8 * i + 4)) : Nat) : Int))
def levD (d : List Int) (k : Nat) : List Nat := (List.range k).map fun i => numN (d.drop (4 * i))
theorem gapD_len (d : List Int) (k : Nat) : (gapD d k).length = k := by simp [gapD]
theorem levD_len (d : List Int) (k : Nat) : (levD d k).length = k := by simp [levD]
theorem gapD_next (d : List Int) (k : Nat) : gapD d (k + 1) = gapD d k ++ [(((numN (d.drop (8 * k)) : Nat) : Int), ((numN (d.drop (8 * k + 4)) : Nat) : Int))] := by
  unfold gapD; rw [List.range_succ, List.map_append] <;> rfl
theorem levD_next (d : List Int) (k : Nat) : levD d (k + 1) = levD d k ++ [numN (d.drop (4 * k))] := by
  unfold levD; rw [List.range_succ, List.map_append] <;> rfl
def recD (s : List Int) : Rec1 := (strI ((s.drop 5).take (szD s)), ((numN (s.drop (5 + szD s)) : Nat) : Int), levD ((bodyD s).drop (8 * cntG s)) (cntL s), gapD (bodyD s) (cntG s))
def recK (s : List Int) (k : Nat) : Rec1 := (strI ((s.drop 5).take (szD s)), ((numN (s.drop (5 + szD s)) : Nat) : Int), levD ((bodyD s).drop (8 * cntG s)) k, gapD (bodyD s) (cntG s))
theorem recK_eq {s : List Int} {k : Nat} (h : k = cntL s) : recK s k = recD s := by rw [h] <;> rfl
def negB (l : List Nat) : Bool := l.any fun x => decide (x = 2147483648)
def decE (s : List Int) : Int :=
  if 4000000 < s.length then 27 else if s.length < 5 then 29 else if strI (s.take 4) ≠ tideS then 1 else if s.length < 5 + szD s + 12 then 29
  else if (bodyD s).length < 8 * cntG s + 4 * cntL s then 29 else if 8 * cntG s + 4 * cntL s < (bodyD s).length then 2
  else if negB (recD s).2.2.1 = true then 1 else recE (recD s)
def decR (s : List Int) : Rec1 := if decE s = 0 then recD s else zRec
theorem dec1 {s : List Int} (h : 4000000 < s.length) : decE s = 27 := if_pos h
theorem dec2 {s : List Int} (h1 : ¬ 4000000 < s.length) (h : s.length < 5) : decE s = 29 := by rw [decE, if_neg h1, if_pos h]
theorem dec3 {s : List Int} (h1 : ¬ 4000000 < s.length) (h2 : ¬ s.length < 5) (h : strI (s.take 4) ≠ tideS) : decE s = 1 := by rw [decE, if_neg h1, if_neg h2, if_pos h]
theorem dec4 {s : List Int} (h1 : ¬ 4000000 < s.length) (h2 : ¬ s.length < 5) (h3 : ¬ strI (s.take 4) ≠ tideS) (h : s.length < 5 + szD s + 12) : decE s = 29 := by rw [decE, if_neg h1, if_neg h2, if_neg h3, if_pos h]
structure DecOk (s : List Int) : Prop where
  h1 : ¬ 4000000 < s.length
  h2 : ¬ s.length < 5
  h3 : ¬ strI (s.take 4) ≠ tideS
  h4 : ¬ s.length < 5 + szD s + 12
theorem dec5 {s : List Int} (k : DecOk s) (h : (bodyD s).length < 8 * cntG s + 4 * cntL s) : decE s = 29 := by rw [decE, if_neg k.h1, if_neg k.h2, if_neg k.h3, if_neg k.h4, if_pos h]
theorem dec6 {s : List Int} (k : DecOk s) (h : 8 * cntG s + 4 * cntL s < (bodyD s).length) : decE s = 2 := by rw [decE, if_neg k.h1, if_neg k.h2, if_neg k.h3, if_neg k.h4, if_neg (by omega), if_pos h]
theorem dec7 {s : List Int} (k : DecOk s) (hl : (bodyD s).length = 8 * cntG s + 4 * cntL s) (h : negB (recD s).2.2.1 = true) : decE s = 1 := by rw [decE, if_neg k.h1, if_neg k.h2, if_neg k.h3, if_neg k.h4, if_neg (by omega), if_neg (by omega), if_pos h]
theorem dec8 {s : List Int} (k : DecOk s) (hl : (bodyD s).length = 8 * cntG s + 4 * cntL s) (h : ¬ negB (recD s).2.2.1 = true) : decE s = recE (recD s) := by rw [decE, if_neg k.h1, if_neg k.h2, if_neg k.h3, if_neg k.h4, if_neg (by omega), if_neg (by omega), if_neg h]
theorem body_len {s : List Int} : (bodyD s).length = s.length - (5 + szD s + 12) := List.length_drop
theorem sz_eq {s : List Int} (hb : byteL s) (h : 4 < s.length) : ((szD s : Nat) : Int) = s[4] ∧ szD s < 256 := by
  have h2 := byteL_at hb h; unfold szD; rw [getD_at h]; omega
theorem wSz {s : List Int} (hb : byteL s) (h : 4 < s.length) : IntKind.i64.wrap s[4] = ((szD s : Nat) : Int) := by
  have h2 := byteL_at hb h; have h3 := (sz_eq hb h).1; rw [wrap64 (by omega) (by omega), h3]
theorem decR_bad {s : List Int} (h : decE s ≠ 0) : decR s = zRec := if_neg h
theorem neg_at {d : List Int} {n i : Nat} (hi : i < n) (h : numN (d.drop (4 * i)) = 2147483648) : negB (levD d n) = true := by
  unfold negB levD; rw [List.any_map]; exact List.any_eq_true.2 ⟨i, List.mem_range.2 hi, by simpa using h⟩
theorem neg_no {d : List Int} {n : Nat} (h : ∀ i, i < n → numN (d.drop (4 * i)) ≠ 2147483648) : ¬ negB (levD d n) = true := by
  unfold negB levD; rw [List.any_map]; intro h2; obtain ⟨i, hi, h3⟩ := List.any_eq_true.1 h2; exact h i (List.mem_range.1 hi) (by simpa using h3)
theorem wN2 {l l' : List Int} (he : l = l') (hb : byteL l') (h4 : 4 ≤ l'.length) : IntKind.i64.wrap (numE l) = ((numN l' : Nat) : Int) := by subst he; exact wN hb h4
theorem first_hd {a : Int} {r : List Int} (h : a ≠ 0) : firstE (whenE true a :: r) ≠ 0 := by
  show (if a = 0 then _ else a) ≠ 0; rw [if_neg h]; exact h
theorem first_hd2 {a b : Int} {r : List Int} (h : a ≠ 0) : firstE (whenE false b :: whenE true a :: r) ≠ 0 := by
  show (if (0 : Int) = 0 then firstE (whenE true a :: r) else 0) ≠ 0; rw [if_pos rfl]; exact first_hd h
def err1 (s : List Int) : Int := firstE [whenE (decide ((4000000 : Int) < ((s.length : Nat) : Int))) (27 : Int), whenE (decide (((s.length : Nat) : Int) < (5 : Int))) (29 : Int)]
theorem err1_bad {s : List Int} (h : err1 s ≠ 0) : decE s = err1 s := by
  by_cases h1 : 4000000 < s.length
  · rw [dec1 h1]; unfold err1; rw [decide_eq_true (show (4000000 : Int) < ((s.length : Nat) : Int) by omega)] <;> rfl
  by_cases h2 : s.length < 5
  · rw [dec2 h1 h2]; unfold err1; rw [decide_eq_false (show ¬ (4000000 : Int) < ((s.length : Nat) : Int) by omega), decide_eq_true (show ((s.length : Nat) : Int) < 5 by omega)] <;> rfl
  exact absurd (by unfold err1; rw [decide_eq_false (show ¬ (4000000 : Int) < ((s.length : Nat) : Int) by omega), decide_eq_false (show ¬ ((s.length : Nat) : Int) < 5 by omega)]; rfl) h
theorem err1_ok {s : List Int} (h : ¬ err1 s ≠ 0) : ¬ 4000000 < s.length ∧ ¬ s.length < 5 := by
  refine ⟨fun h1 => h (by unfold err1; rw [decide_eq_true (show (4000000 : Int) < ((s.length : Nat) : Int) by omega)]; exact first_hd (by decide)), fun h2 => h ?_⟩; unfold err1; rw [decide_eq_false (show ¬ (4000000 : Int) < ((s.length : Nat) : Int) by omega), decide_eq_true (show ((s.length : Nat) : Int) < 5 by omega)]; exact first_hd2 (by decide)
def err2 (a b : Int) : Int := firstE [whenE (decide (a < b)) (29 : Int), whenE (decide (b < a)) (2 : Int)]
theorem err2_bad {s : List Int} (k : DecOk s) (h : err2 ((bodyD s).length : Nat) (8 * ((cntG s : Nat) : Int) + 4 * ((cntL s : Nat) : Int)) ≠ 0) : decE s = err2 ((bodyD s).length : Nat) (8 * ((cntG s : Nat) : Int) + 4 * ((cntL s : Nat) : Int)) := by
  by_cases h1 : (bodyD s).length < 8 * cntG s + 4 * cntL s
  · rw [dec5 k h1]; unfold err2; rw [decide_eq_true (by omega)] <;> rfl
  by_cases h2 : 8 * cntG s + 4 * cntL s < (bodyD s).length
  · rw [dec6 k h2]; unfold err2; rw [decide_eq_false (by omega), decide_eq_true (by omega)] <;> rfl
  exact absurd (by unfold err2; rw [decide_eq_false (by omega), decide_eq_false (by omega)]; rfl) h
theorem err2_ok {a b : Int} (h : ¬ err2 a b ≠ 0) : a = b := by
  by_cases h1 : a < b
  · exact absurd (by unfold err2; rw [decide_eq_true h1]; exact first_hd (by decide)) h
  by_cases h2 : b < a
  · exact absurd (by unfold err2; rw [decide_eq_false h1, decide_eq_true h2]; exact first_hd2 (by decide)) h
  omega
theorem body_of {s : List Int} : (s.drop 5).drop (szD s + 12) = bodyD s := by
  rw [List.drop_drop, ← Nat.add_assoc] <;> rfl
theorem cnt_rng {s : List Int} (hb : byteL s) (h : 5 + szD s + 12 ≤ s.length) : cntG s < 4294967296 ∧ cntL s < 4294967296 := by
  have h1 := numE_rng (byteL_drop hb (5 + szD s + 8)) (by rw [List.length_drop]; omega); have h2 := numE_rng (byteL_drop hb (5 + szD s + 4)) (by rw [List.length_drop]; omega); unfold cntG cntL numN; omega
theorem gDec_ok {s : List Int} (hb : byteL s) (hl : s.length < 1000000) : VF Tryz.prog OA 10 [.v y26 s] (.tup [.v y32 (decR s), I (decE s)]) := by
  refine VF.enter Tryz.func10 rfl (fun _ _ => rfl) rfl ?_; show VC _ _ _ _ _ [(0, .v y26 s)] [] _; refine VC.seq (VC.text ?_); refine VO.cell (.alloc zt32) ?_; intro ww1; refine VO.c (.assign rfl) ?_; refine VO.go (VC.seq (VC.seq (VC.text ?_))); refine VO.c (.move rfl) ?_; refine VO.r (.len el26) ?_; refine VO.c (.gtr) ?_; refine VO.call rfl rfl (VF.call (gWhen_ok )) ?_; refine VO.c (.move rfl) ?_; refine VO.r (.len el26) ?_; refine VO.c (.lss) ?_; refine VO.call rfl rfl (VF.call (gWhen_ok )) ?_; refine VO.new (.lit [whenE (decide ((4000000 : Int) < ((s.length : Nat) : Int))) (27 : Int), whenE (decide (((s.length : Nat) : Int) < (5 : Int))) (29 : Int)] el127) ?_; refine VO.call rfl rfl (VF.call (gFirst_ok (by first | assumption | omega | simp))) ?_; rw [show firstE [whenE (decide ((4000000 : Int) < ((s.length : Nat) : Int))) (27 : Int), whenE (decide (((s.length : Nat) : Int) < (5 : Int))) (29 : Int)] = err1 s from rfl]; refine VO.c (.assign rfl) ?_; refine VO.go (VC.seq (VC.text ?_)); refine VO.c (.move rfl) (VO.c (.neq) (VO.go ?_)); refine VC.condD rfl (fun c2 => ?_) (fun c2 => ?_)
  · have hd1 := err1_bad c2; refine VC.seq (VC.text ?_); refine VO.c (.build (ByteArray.empty, 0, [], []) bt32) (VO.c (.move rfl) ?_); refine VO.setV (cs' := [St ByteArray.empty, I 0, .v y22 [], .v y23 []]) vt32 .v ?_; refine VO.c (.assign rfl) (VO.go ?_); refine VC.ret ?_; exact VEnd.two rfl (.cell (x := (ByteArray.empty, 0, [], [])) rfl m0 vt32 .refl) evT (pvE (by exact (decR_bad (by rw [hd1]; exact c2)).symm)) (pvI (by exact hd1.symm))
  obtain ⟨k1, k2⟩ := err1_ok c2; refine VC.skip (VC.seq (VC.seq (VC.text ?_))); refine VO.c (.move rfl) ?_; refine VO.r (.cutH rfl rfl el26 (by omega)) ?_; refine VO.bts (e1 := 5) (acc := strI (s.take ((4 : Int)).toNat)) (by rw [bytesI_strI (byteL_take hb _)]; rfl) (by kernel_rfl) (by kernel_rfl) (by kernel_rfl) ?_; refine VO.c (.sneq) (VO.go ?_); refine VC.condD rfl (fun c4 => ?_) (fun c4 => ?_)
  · have hd2 : decE s = 1 := dec3 k1 k2 c4; refine VC.seq (VC.text ?_); refine VO.c (.build (ByteArray.empty, 0, [], []) bt32) ?_; refine VO.setV (cs' := [St ByteArray.empty, I 0, .v y22 [], .v y23 []]) vt32 .v ?_; refine VO.c (.assign rfl) (VO.go ?_); refine VC.ret ?_; exact VEnd.two rfl (.cell (x := (ByteArray.empty, 0, [], [])) rfl m0 vt32 .refl) evT (pvE (by exact (decR_bad (by rw [hd2]; decide)).symm)) (pvI (by exact hd2.symm))
  refine VC.skip (VC.seq (VC.text ?_)); refine VO.c (.move rfl) (VO.c (.ix (j := 4) rfl rfl el26 (by omega)) ?_); refine VO.r (.ld vt5) ?_; refine VO.c ((.convW .i64 (wSz hb (by omega)))) (VO.c (.assign rfl) ?_); refine VO.go (VC.seq (VC.text ?_)); have hz := (sz_eq hb (show 4 < s.length by omega)).2; have hl5 : (s.drop 5).length = s.length - 5 := List.length_drop; have hl6 : (s.drop (Int.toNat 5)).length = s.length - 5 := List.length_drop; refine VO.c (.move rfl) ?_; refine VO.r (.cutL rfl rfl el26 (by omega)) ?_; refine VO.c (.assign rfl) ?_; refine VO.go (VC.seq (VC.seq (VC.text ?_))); refine VO.c (.move rfl) ?_; refine VO.r (.len el26) ?_; refine VO.c (.move rfl) (VO.c (.add rfl rfl (by omega)) (VO.c (.lss) (VO.go ?_))); refine VC.condD rfl (fun c8 => ?_) (fun c8 => ?_)
  · have hd3 : decE s = 29 := dec4 k1 k2 c4 (by omega); refine VC.seq ?_; refine VC.keep [(0, .v y26 (s.drop 5)), (2, .raw ww1), (5, I ((szD s : Nat) : Int))] ⟨rfl, rfl, rfl, trivial⟩ ?_; refine VC.text ?_; refine VO.c (.build (ByteArray.empty, 0, [], []) bt32) ?_; refine VO.setV (cs' := [St ByteArray.empty, I 0, .v y22 [], .v y23 []]) vt32 .v ?_; refine VO.c (.assign rfl) (VO.go ?_); refine VC.ret ?_; exact VEnd.two rfl (.cell (x := (ByteArray.empty, 0, [], [])) rfl m0 vt32 .refl) evT (pvE (by exact (decR_bad (by rw [hd3]; decide)).symm)) (pvI (by exact hd3.symm))
  have hlen : 5 + szD s + 12 ≤ s.length := by omega
  have kd : DecOk s := ⟨k1, k2, c4, by omega⟩; obtain ⟨hG, hL⟩ := cnt_rng hb hlen; have hb5 := byteL_drop hb 5; have hbl := body_len (s := s); have hbb : byteL (bodyD s) := byteL_drop hb _; refine VC.skip (VC.seq ?_); refine VC.keep [(0, .v y26 (s.drop 5)), (2, .raw ww1), (5, I ((szD s : Nat) : Int))] ⟨rfl, rfl, rfl, trivial⟩ ?_; refine VC.late [(ww1, .var [St ByteArray.empty, I (0 : Int), .v y22 [], .v y23 []])] ⟨[], rfl⟩ ?_; refine VLt.c (.move rfl) ?_; refine VLt.c (.move rfl) ?_; refine VLt.sl rfl (.cutH rfl rfl el26 (by omega)) ?_; refine VLt.bts (e1 := 5) (acc := strI ((s.drop 5).take (((szD s : Nat) : Int)).toNat)) (by rw [bytesI_strI (byteL_take (byteL_drop hb 5) _)]; rfl) (by kernel_rfl) (by kernel_rfl) (by kernel_rfl) ?_; refine VLt.c (.move rfl) ?_; refine VLt.c (.move rfl) ?_; refine VLt.nws [] ?_; refine VLt.sl rfl (.cutL rfl rfl el26 (by omega)) ?_; refine VLt.callO rfl rfl (VF.call (gNum_ok (byteL_drop hb5 _) (by rw [List.length_drop]; omega))) ?_; refine VLt.c ((.convW .i64 (wN2 (l := (s.drop 5).drop (szD s)) (l' := s.drop (5 + szD s)) (by rw [List.drop_drop]) (byteL_drop hb _) (by rw [List.length_drop]; omega)))) ?_; refine VLt.c (.buildA (cs := [St (strI ((s.drop 5).take (((szD s : Nat) : Int)).toNat)), I ((numN (s.drop (5 + szD s)) : Nat) : Int), nilV, nilV]) bt32 rfl) ?_; refine VLt.cellU (.alloc zt32) ?_; intro ww2; refine VLt.mk0 (MakeV.setF (k := 0) vt32 (.aggs rfl rfl) (Nat.le_of_ble_eq_true rfl) (.inr ⟨rfl, rfl⟩) rfl rfl) (TurnV.store rfl (.inl rfl)) ⟨[], rfl⟩ ?_; rintro _ _ ⟨rfl, rfl⟩; refine ⟨⟨[(ww2, .var [St (strI ((s.drop 5).take (((szD s : Nat) : Int)).toNat)), I ((numN (s.drop (5 + szD s)) : Nat) : Int), nilV, nilV])], rfl⟩, ?_⟩; refine VLt.go ?_; refine VC.seq (VC.drawn ?_); refine VD.c (.move rfl) (VD.c (.move rfl) (VD.c (.add rfl rfl (by omega)) ?_)); refine VD.r [] (.cutL rfl rfl el26 (by omega)) (.inl rfl) ?_; refine VD.call rfl rfl (VF.call (gNum_ok (byteL_drop hb5 _) (by rw [List.length_drop]; omega))) ?_; refine VD.c ((.convW .i64 (show IntKind.i64.wrap (numE ((s.drop 5).drop (szD s + 4))) = ((cntL s : Nat) : Int) from wN2 (l := (s.drop 5).drop (szD s + 4)) (l' := s.drop (5 + szD s + 4)) (by rw [List.drop_drop, ← Nat.add_assoc]) (byteL_drop hb _) (by rw [List.length_drop]; omega)))) (VD.nw [] (VD.c (.move rfl) (VD.c (.move rfl) ?_))); refine VD.c (.add rfl rfl (by omega)) ?_; refine VD.r [] (.cutL rfl rfl el26 (by omega)) (.inl rfl) ?_; refine VD.call rfl rfl (VF.call (gNum_ok (byteL_drop hb5 _) (by rw [List.length_drop]; omega))) ?_; refine VD.c ((.convW .i64 (show IntKind.i64.wrap (numE ((s.drop 5).drop (szD s + 8))) = ((cntG s : Nat) : Int) from wN2 (l := (s.drop 5).drop (szD s + 8)) (l' := s.drop (5 + szD s + 8)) (by rw [List.drop_drop, ← Nat.add_assoc]) (byteL_drop hb _) (by rw [List.length_drop]; omega)))) (VD.c (.assign rfl) (VD.nw [] (VD.c (.assign rfl) ?_))); refine VD.go (VC.seq (VC.text ?_)); refine VO.c (.move rfl) (VO.c (.move rfl) (VO.c (.add rfl rfl (by omega)) ?_)); refine VO.r (.cutL rfl rfl el26 (by omega)) ?_; rw [show (s.drop 5).drop (((szD s : Nat) : Int) + (12 : Int)).toNat = bodyD s from body_of]; refine VO.c (.assign rfl) ?_; refine VO.go (VC.seq (VC.seq (VC.text ?_))); refine VO.c (.move rfl) ?_; refine VO.r (.len el26) ?_; refine VO.c (.move rfl) (VO.c (.mul rfl rfl (by omega)) (VO.c (.move rfl) (VO.c (.mul rfl rfl (by omega)) ?_))); refine VO.c (.add rfl rfl (by omega)) (VO.c (.lss) ?_); refine VO.call rfl rfl (VF.call (gWhen_ok )) ?_; refine VO.c (.move rfl) ?_; refine VO.r (.len el26) ?_; refine VO.c (.move rfl) (VO.c (.mul rfl rfl (by omega)) (VO.c (.move rfl) (VO.c (.mul rfl rfl (by omega)) ?_))); refine VO.c (.add rfl rfl (by omega)) (VO.c (.gtr) ?_); refine VO.call rfl rfl (VF.call (gWhen_ok )) ?_; refine VO.new (.lit [whenE (decide ((((bodyD s).length : Nat) : Int) < (((8 : Int) * ((cntG s : Nat) : Int)) + ((4 : Int) * ((cntL s : Nat) : Int))))) (29 : Int), whenE (decide ((((8 : Int) * ((cntG s : Nat) : Int)) + ((4 : Int) * ((cntL s : Nat) : Int))) < (((bodyD s).length : Nat) : Int))) (2 : Int)] el127) ?_; refine VO.call rfl rfl (VF.call (gFirst_ok (by first | assumption | omega | simp))) ?_; rw [show firstE [whenE (decide ((((bodyD s).length : Nat) : Int) < (((8 : Int) * ((cntG s : Nat) : Int)) + ((4 : Int) * ((cntL s : Nat) : Int))))) (29 : Int), whenE (decide ((((8 : Int) * ((cntG s : Nat) : Int)) + ((4 : Int) * ((cntL s : Nat) : Int))) < (((bodyD s).length : Nat) : Int))) (2 : Int)] = err2 ((bodyD s).length : Nat) (8 * ((cntG s : Nat) : Int) + 4 * ((cntL s : Nat) : Int)) from rfl]; refine VO.c (.assign rfl) ?_; refine VO.go (VC.seq ?_); refine VC.keep [(0, .v y26 (bodyD s)), (2, .raw ww1), (6, .raw ww2), (8, I ((cntG s : Nat) : Int)), (9, I (err2 ((bodyD s).length : Nat) (8 * ((cntG s : Nat) : Int) + 4 * ((cntL s : Nat) : Int))))] ⟨rfl, rfl, rfl, rfl, rfl, trivial⟩ ?_; refine VC.text ?_; refine VO.c (.move rfl) (VO.c (.neq) (VO.go ?_)); refine VC.condD rfl (fun c14 => ?_) (fun c14 => ?_)
  · have hd4 := err2_bad kd c14; refine VC.seq (VC.text ?_); refine VO.c (.build (ByteArray.empty, 0, [], []) bt32) (VO.c (.move rfl) ?_); refine VO.perm swap1 ?_; refine VO.setV (cs' := [St ByteArray.empty, I 0, .v y22 [], .v y23 []]) vt32 .v ?_; refine VO.c (.assign rfl) (VO.go ?_); refine VC.ret ?_; exact VEnd.two rfl (.cell (x := (ByteArray.empty, 0, [], [])) rfl m0 vt32 .refl) evT (pvE (by exact (decR_bad (by rw [hd4]; exact c14)).symm)) (pvI (by exact hd4.symm))
  have hn0 : (bodyD s).length = 8 * cntG s + 4 * cntL s := by have := err2_ok c14; omega
  refine VC.skip (VC.seq (VC.block ?_)); refine VC.cell0 53 y53 ?_; refine VC.keep [(0, .v y26 ((bodyD s).drop (8 * 0))), (2, .raw ww1), (6, .raw ww2), (8, I ((cntG s - 0 : Nat) : Int))] ⟨rfl, rfl, rfl, rfl, trivial⟩ ?_; refine VC.loop (I := fun kk ff ss => ∃ (j : Nat) (wg : Value), kk = cntG s - j ∧ ff = [(0, .v y26 ((bodyD s).drop (8 * j))), (2, .raw ww1), (6, .raw ww2), (8, I ((cntG s - j : Nat) : Int))] ∧ ss = [(wg, .row 53 y53 (gapD (bodyD s) j)), (ww2, .var [St (strI ((s.drop 5).take (((szD s : Nat) : Int)).toNat)), I ((numN (s.drop (5 + szD s)) : Nat) : Int), nilV, .raw wg]), (ww1, .var [St ByteArray.empty, I (0 : Int), .v y22 [], .v y23 []])] ∧ (j ≤ cntG s)) ?_ _ _ _ ⟨0, (.slice none 0 0), rfl, rfl, rfl, (by omega)⟩; rintro kk ff ss ⟨j, wg, hk0, rfl, rfl, hj⟩; refine VC.seq (VC.seq (VC.text ?_)); refine VO.c (.move rfl) (VO.c (.gtr) (VO.go ?_)); refine VC.condD rfl (fun c16 => ?_) (fun c16 => ?_)
  · have hj1 : j < cntG s := by omega
    have hlj : ((bodyD s).drop (8 * j)).length = (bodyD s).length - 8 * j := List.length_drop; have hbj : byteL ((bodyD s).drop (8 * j)) := byteL_drop hbb _; refine VC.skip (VC.seq (VC.block (VC.seq (VC.drawn ?_)))); refine VD.co (.faO (k := 3) m1) ?_; refine VD.r [(wg, .row 53 y53 (gapD (bodyD s) j)), (ww2, .var [St (strI ((s.drop 5).take (((szD s : Nat) : Int)).toNat)), I ((numN (s.drop (5 + szD s)) : Nat) : Int), nilV, .raw wg]), (ww1, .var [St ByteArray.empty, I (0 : Int), .v y22 [], .v y23 []])] (.ldF (k := 3) m1 vt23) (.inr ⟨rfl, rfl⟩) ?_; refine VD.c (.move rfl) ?_; refine VD.call rfl rfl (VF.call (gNum_ok hbj (by omega))) ?_; refine VD.c ((.convW .i64 (wN hbj (by omega)))) (VD.c (.move rfl) (VD.nw [] ?_)); refine VD.r [] (.cutL rfl rfl el26 (by omega)) (.inl rfl) ?_; refine VD.call rfl rfl (VF.call (gNum_ok (byteL_drop hbj _) (by rw [List.length_drop]; omega))) ?_; refine VD.c ((.convW .i64 (wN2 (l := ((bodyD s).drop (8 * j)).drop 4) (l' := (bodyD s).drop (8 * j + 4)) (by rw [List.drop_drop]) (byteL_drop hbb _) (by rw [List.length_drop]; omega)))) (VD.c (.build (((numN ((bodyD s).drop (8 * j)) : Nat) : Int), ((numN ((bodyD s).drop (8 * j + 4)) : Nat) : Int)) bt53) ?_); refine VD.new (.lit [(((numN ((bodyD s).drop (8 * j)) : Nat) : Int), ((numN ((bodyD s).drop (8 * j + 4)) : Nat) : Int))] el23) ?_; refine VD.mk (MakeV.app el23 el23 rfl rfl (by have := gapD_len (bodyD s) j; simp only [List.length_singleton]; omega)) ?_; rintro _ _ tl3 ⟨ww3, rfl, rfl⟩; refine VD.co (.faO (k := 3) m1) ?_; refine VD.perm swap1 ?_; refine VD.one m1 fun ho4 => ?_; refine VD.mk0 (MakeV.setF (k := 3) vt23 (.raw rfl (agg_one ho4) ho4) (Nat.le_of_ble_eq_true rfl) (.inl rfl) rfl rfl) ?_; rintro _ _ tl5 ⟨rfl, rfl⟩; refine VD.go (VC.text ?_); refine VO.c (.move rfl) ?_; refine VO.r (.cutL rfl rfl el26 (by omega)) ?_; refine VO.c (.assign rfl) ?_; refine VO.nil (VC.text ?_); refine VO.c (.move rfl) (VO.c (.sub rfl rfl (by omega)) (VO.c (.assign rfl) ?_)); refine VO.perm swap2 ?_; refine VO.perm swap1 ?_; refine VO.perm swap2 ?_; refine VO.nil ?_; refine ⟨_, [(0, .v y26 ((bodyD s).drop (8 * (j + 1)))), (2, .raw ww1), (6, .raw ww2), (8, I ((cntG s - (j + 1) : Nat) : Int))], ?_, ⟨slE rfl (by rw [List.drop_drop] <;> rfl), rfl, rfl, slI rfl (by omega), trivial⟩, (j + 1), ww3, rfl, rfl, (by rw [gapD_next] <;> rfl), (by omega)⟩; omega
  obtain rfl : j = cntG s := by omega
  have hlD : ((bodyD s).drop (8 * cntG s)).length = (bodyD s).length - 8 * cntG s := List.length_drop; have hbD : byteL ((bodyD s).drop (8 * cntG s)) := byteL_drop hbb _; refine VC.exit (VC.seq (VC.block ?_)); refine VC.cell0 68 (.flt .f32) ?_; refine VC.keep [(0, .v y26 (((bodyD s).drop (8 * cntG s)).drop (4 * 0))), (2, .raw ww1), (6, .raw ww2)] ⟨rfl, rfl, rfl, trivial⟩ ?_; refine VC.loop (I := fun kk ff ss => ∃ (k : Nat) (wl : Value), kk = cntL s - k ∧ ff = [(0, .v y26 (((bodyD s).drop (8 * cntG s)).drop (4 * k))), (2, .raw ww1), (6, .raw ww2)] ∧ ss = [(wl, .row 68 (.flt .f32) (levD ((bodyD s).drop (8 * cntG s)) k)), (wg, .row 53 y53 (gapD (bodyD s) (cntG s))), (ww2, .var [St (strI ((s.drop 5).take (((szD s : Nat) : Int)).toNat)), I ((numN (s.drop (5 + szD s)) : Nat) : Int), .raw wl, .raw wg]), (ww1, .var [St ByteArray.empty, I (0 : Int), .v y22 [], .v y23 []])] ∧ (k ≤ cntL s) ∧ (∀ i, i < k → numN (((bodyD s).drop (8 * cntG s)).drop (4 * i)) ≠ 2147483648)) ?_ _ _ _ ⟨0, (.slice none 0 0), rfl, rfl, rfl, (by omega), (by exact fun i h => absurd h (by omega))⟩; rintro kk ff ss ⟨k, wl, hk2, rfl, rfl, hk, hn⟩; refine VC.seq (VC.seq (VC.text ?_)); refine VO.c (.move rfl) ?_; refine VO.r (.len el26) ?_; refine VO.c (.gtr) (VO.go ?_); refine VC.condD rfl (fun c20 => ?_) (fun c20 => ?_)
  · have hlk : (((bodyD s).drop (8 * cntG s)).drop (4 * k)).length = ((bodyD s).drop (8 * cntG s)).length - 4 * k := List.length_drop
    have hk1 : k < cntL s := by omega
    have hbk : byteL (((bodyD s).drop (8 * cntG s)).drop (4 * k)) := byteL_drop hbD _; refine VC.skip (VC.seq (VC.block (VC.seq (VC.text ?_)))); refine VO.c (.move rfl) ?_; refine VO.call rfl rfl (VF.call (gNum_ok hbk (by omega))) ?_; refine VO.c (.assign rfl) ?_; refine VO.go (VC.seq (VC.seq (VC.text ?_))); refine VO.c (.move rfl) (VO.c (.eql) (VO.go ?_)); refine VC.condD rfl (fun c23 => ?_) (fun c23 => ?_)
    · have hd5 : decE s = 1 := dec7 kd hn0 (neg_at hk1 (by unfold numN; rw [c23]; rfl)); refine VC.seq (VC.text ?_); refine VO.c (.build (ByteArray.empty, 0, [], []) bt32) ?_; refine VO.perm swap3 ?_; refine VO.setV (cs' := [St ByteArray.empty, I 0, .v y22 [], .v y23 []]) vt32 .v ?_; refine VO.c (.assign rfl) (VO.go ?_); refine VC.ret ?_; exact VEnd.two rfl (.cell (x := (ByteArray.empty, 0, [], [])) rfl m0 vt32 .refl) evT (pvE (by exact (decR_bad (by rw [hd5]; decide)).symm)) (pvI (by exact hd5.symm))
    have hnk : numN (((bodyD s).drop (8 * cntG s)).drop (4 * k)) ≠ 2147483648 := fun e => c23 (by have := numN_eq hbk (by omega); rw [e] at this; exact this.symm); refine VC.skip (VC.drawn ?_); refine VD.co (.faO (k := 2) m2) ?_; refine VD.r [(wl, .row 68 (.flt .f32) (levD ((bodyD s).drop (8 * cntG s)) k)), (wg, .row 53 y53 (gapD (bodyD s) (cntG s))), (ww2, .var [St (strI ((s.drop 5).take (((szD s : Nat) : Int)).toNat)), I ((numN (s.drop (5 + szD s)) : Nat) : Int), .raw wl, .raw wg]), (ww1, .var [St ByteArray.empty, I (0 : Int), .v y22 [], .v y23 []])] (.ldF (k := 2) m2 vt22) (.inr ⟨rfl, rfl⟩) ?_; refine VD.c (.move rfl) ?_; refine VD.call rfl rfl (VF.call (mFrom_ok )) ?_; refine VD.new (.lit [(numE (((bodyD s).drop (8 * cntG s)).drop (4 * k))).toNat] el22) ?_; refine VD.mk (MakeV.app el22 el22 rfl rfl (by have := levD_len ((bodyD s).drop (8 * cntG s)) k; simp only [List.length_singleton]; omega)) ?_; rintro _ _ tl6 ⟨ww6, rfl, rfl⟩; refine VD.nw [127, 126] ?_; refine VD.co (.faO (k := 2) m2) ?_; refine VD.perm swap2 ?_; refine VD.one m1 fun ho7 => ?_; refine VD.mk0 (MakeV.setF (k := 2) vt22 (.raw rfl (agg_one ho7) ho7) (Nat.le_of_ble_eq_true rfl) (.inl rfl) rfl rfl) ?_; rintro _ _ tl8 ⟨rfl, rfl⟩; refine VD.nil ?_; refine VC.text ?_; refine VO.c (.move rfl) ?_; refine VO.r (.cutL rfl rfl el26 (by omega)) ?_; refine VO.c (.assign rfl) ?_; refine VO.perm swap3 ?_; refine VO.perm swap1 ?_; refine VO.perm swap3 ?_; refine VO.perm swap3 ?_; refine VO.nil ?_; refine ⟨_, [(0, .v y26 (((bodyD s).drop (8 * cntG s)).drop (4 * (k + 1)))), (2, .raw ww1), (6, .raw ww2)], ?_, ⟨slE rfl (by rw [List.drop_drop] <;> rfl), rfl, rfl, trivial⟩, (k + 1), ww6, rfl, rfl, (by rw [levD_next] <;> rfl), (by omega), (by exact fun i h => if e : i = k then (by subst e; exact hnk) else hn i (by omega))⟩; omega
  have hlk : (((bodyD s).drop (8 * cntG s)).drop (4 * k)).length = ((bodyD s).drop (8 * cntG s)).length - 4 * k := List.length_drop
  have hk2 : k = cntL s := by omega
  have hng := neg_no (n := cntL s) fun i hi => hn i (by omega)
  have hd6 : decE s = recE (recK s k) := by rw [recK_eq hk2]; exact dec8 kd hn0 hng
  refine VC.exit (VC.seq (VC.seq ?_)); refine VC.perm swap2 ?_; refine VC.perm swap2 ?_; refine VC.perm swap2 ?_; refine VC.shutL [(wl, .row 68 (.flt .f32) (levD ((bodyD s).drop (8 * cntG s)) k)), (wg, .row 53 y53 (gapD (bodyD s) (cntG s))), (ww2, .var [St (strI ((s.drop 5).take (((szD s : Nat) : Int)).toNat)), I ((numN (s.drop (5 + szD s)) : Nat) : Int), .raw wl, .raw wg])] [(6, .p y32 (recK s k))] rfl (.cons rfl (.var m2 (.cons .same (.cons .same (.cons (.row m0) (.cons (.row m1) .nil))))) .nil) ?_; refine VC.text ?_; refine VO.r (.ld vt32) ?_; refine VO.call rfl rfl (VF.call (gRec_ok (by show (levD _ _).length < 1000000; rw [levD_len]; omega) (by show (gapD _ _).length < 1000000; rw [gapD_len]; omega))) ?_; refine VO.c (.assign rfl) ?_; refine VO.go (VC.seq (VC.text ?_)); refine VO.c (.move rfl) (VO.c (.neq) (VO.go ?_)); refine VC.condD rfl (fun c27 => ?_) (fun c27 => ?_)
  · refine VC.seq (VC.text ?_); refine VO.c (.build (ByteArray.empty, 0, [], []) bt32) (VO.c (.move rfl) ?_); refine VO.setV (cs' := [St ByteArray.empty, I 0, .v y22 [], .v y23 []]) vt32 .v ?_; refine VO.c (.assign rfl) (VO.go ?_); refine VC.ret ?_; exact VEnd.two rfl (.cell (x := (ByteArray.empty, 0, [], [])) rfl m0 vt32 .refl) evT (pvE (by exact (decR_bad (by rw [hd6]; exact c27)).symm)) (pvI (by exact hd6.symm))
  refine VC.skip (VC.seq (VC.text ?_)); refine VO.r (.ld vt32) ?_; refine VO.setV (cs' := [St ((recK s k).1), I ((recK s k).2.1), .v y22 ((recK s k).2.2.1), .v y23 ((recK s k).2.2.2)]) vt32 .v ?_; refine VO.c (.assign rfl) (VO.go ?_); refine VC.ret ?_; exact VEnd.two rfl (.cell (x := recK s k) rfl m0 vt32 .refl) evT (pvE (by rw [recK_eq hk2]; exact (if_pos (by rw [hd6]; exact Classical.not_not.1 c27)).symm)) (pvI (by rw [hd6]; exact (Classical.not_not.1 c27).symm))
end Go.Proofs
namespace Go.Proofs
open Go.Fs Ieee
set_option maxHeartbeats 4000000
theorem name_of {s : List Int} {k : Nat} : (s.take (5 + k)).drop 5 = (s.drop 5).take k := by
  rw [List.drop_take, Nat.add_sub_cancel_left]
theorem gap_at {s : List Int} {i : Nat} : s.drop (5 + szD s + 12 + 8 * i) = (bodyD s).drop (8 * i) := by unfold bodyD; rw [List.drop_drop]
theorem gap_at4 {s : List Int} {i : Nat} : s.drop (5 + szD s + 12 + 8 * i + 4) = (bodyD s).drop (8 * i + 4) := by unfold bodyD; rw [List.drop_drop, Nat.add_assoc (5 + szD s + 12)]
theorem lev_at {s : List Int} {k : Nat} : s.drop (5 + szD s + 12 + 8 * cntG s + 4 * k) = ((bodyD s).drop (8 * cntG s)).drop (4 * k) := by unfold bodyD; rw [List.drop_drop, List.drop_drop, Nat.add_assoc (5 + szD s + 12)]
theorem rDec_ok {s : List Int} (hb : byteL s) (hl : s.length < 1000000) : VF Tryz.prog OA 13 [.v y26 s] (.tup [.v y25 (decR s), I (decE s)]) := by
  refine VF.enter Tryz.func13 rfl (fun _ _ => rfl) rfl ?_; show VC _ _ _ _ _ [(0, .v y26 s)] [] _; refine VC.seq (VC.text ?_); refine VO.cell (.alloc zt25) ?_; intro ww1; refine VO.c (.assign rfl) ?_; refine VO.go (VC.seq (VC.seq (VC.text ?_))); refine VO.c (.move rfl) ?_; refine VO.r (.len el26) ?_; refine VO.c (.gtr) (VO.go ?_); refine VC.condD rfl (fun c1 => ?_) (fun c1 => ?_)
  · have hd1 : decE s = 27 := dec1 (by omega); refine VC.seq (VC.text ?_); refine VO.c (.build (ByteArray.empty, 0, [], []) bt25) ?_; refine VO.setV (cs' := [St ByteArray.empty, I 0, .v y22 [], .v y23 []]) vt25 .v ?_; refine VO.c (.assign rfl) (VO.go ?_); refine VC.ret ?_; exact VEnd.two rfl (.cell (x := (ByteArray.empty, 0, [], [])) rfl m0 vt25 .refl) evT (pvE (by exact (decR_bad (by rw [hd1]; decide)).symm)) (pvI (by exact hd1.symm))
  have k1 : ¬ 4000000 < s.length := by omega
  refine VC.skip (VC.seq (VC.seq (VC.text ?_))); refine VO.c (.move rfl) ?_; refine VO.r (.len el26) ?_; refine VO.c (.lss) (VO.go ?_); refine VC.condD rfl (fun c3 => ?_) (fun c3 => ?_)
  · have hd2 : decE s = 29 := dec2 k1 (by omega); refine VC.seq (VC.text ?_); refine VO.c (.build (ByteArray.empty, 0, [], []) bt25) ?_; refine VO.setV (cs' := [St ByteArray.empty, I 0, .v y22 [], .v y23 []]) vt25 .v ?_; refine VO.c (.assign rfl) (VO.go ?_); refine VC.ret ?_; exact VEnd.two rfl (.cell (x := (ByteArray.empty, 0, [], [])) rfl m0 vt25 .refl) evT (pvE (by exact (decR_bad (by rw [hd2]; decide)).symm)) (pvI (by exact hd2.symm))
  have k2 : ¬ s.length < 5 := by omega
  refine VC.skip (VC.seq (VC.seq (VC.text ?_))); refine VO.c (.move rfl) ?_; refine VO.r (.cutH rfl rfl el26 (by omega)) ?_; refine VO.bts (e1 := 5) (acc := strI (s.take ((4 : Int)).toNat)) (by rw [bytesI_strI (byteL_take hb _)]; rfl) (by kernel_rfl) (by kernel_rfl) (by kernel_rfl) ?_; refine VO.c (.sneq) (VO.go ?_); refine VC.condD rfl (fun c5 => ?_) (fun c5 => ?_)
  · have hd3 : decE s = 1 := dec3 k1 k2 c5; refine VC.seq (VC.text ?_); refine VO.c (.build (ByteArray.empty, 0, [], []) bt25) ?_; refine VO.setV (cs' := [St ByteArray.empty, I 0, .v y22 [], .v y23 []]) vt25 .v ?_; refine VO.c (.assign rfl) (VO.go ?_); refine VC.ret ?_; exact VEnd.two rfl (.cell (x := (ByteArray.empty, 0, [], [])) rfl m0 vt25 .refl) evT (pvE (by exact (decR_bad (by rw [hd3]; decide)).symm)) (pvI (by exact hd3.symm))
  refine VC.skip (VC.seq (VC.text ?_)); have hz := (sz_eq hb (show 4 < s.length by omega)).2; refine VO.c (.move rfl) (VO.c (.ix (j := 4) rfl rfl el26 (by omega)) ?_); refine VO.r (.ld vt5) ?_; refine VO.c ((.convW .i64 (wSz hb (by omega)))) (VO.c (.add rfl rfl (by omega)) (VO.c (.assign rfl) ?_)); refine VO.go (VC.seq (VC.seq (VC.text ?_))); refine VO.c (.move rfl) ?_; refine VO.r (.len el26) ?_; refine VO.c (.move rfl) (VO.c (.add rfl rfl (by omega)) (VO.c (.lss) (VO.go ?_))); refine VC.condD rfl (fun c8 => ?_) (fun c8 => ?_)
  · have hd4 : decE s = 29 := dec4 k1 k2 c5 (by omega); refine VC.seq (VC.text ?_); refine VO.c (.build (ByteArray.empty, 0, [], []) bt25) ?_; refine VO.setV (cs' := [St ByteArray.empty, I 0, .v y22 [], .v y23 []]) vt25 .v ?_; refine VO.c (.assign rfl) (VO.go ?_); refine VC.ret ?_; exact VEnd.two rfl (.cell (x := (ByteArray.empty, 0, [], [])) rfl m0 vt25 .refl) evT (pvE (by exact (decR_bad (by rw [hd4]; decide)).symm)) (pvI (by exact hd4.symm))
  have hlen : 5 + szD s + 12 ≤ s.length := by omega
  have kd : DecOk s := ⟨k1, k2, c5, by omega⟩; obtain ⟨hG, hL⟩ := cnt_rng hb hlen; have hbl := body_len (s := s); have hbb : byteL (bodyD s) := byteL_drop hb _; refine VC.skip (VC.seq ?_); refine VC.late [(ww1, .var [St ByteArray.empty, I (0 : Int), .v y22 [], .v y23 []])] ⟨[], rfl⟩ ?_; refine VLt.c (.move rfl) ?_; refine VLt.c (.move rfl) ?_; refine VLt.sl rfl (.cut rfl rfl rfl el26 (by omega)) ?_; refine VLt.bts (e1 := 5) (acc := strI ((s.take (((5 + szD s : Nat) : Int)).toNat).drop ((5 : Int)).toNat)) (by rw [bytesI_strI (byteL_drop (byteL_take hb _) _)]; rfl) (by kernel_rfl) (by kernel_rfl) (by kernel_rfl) ?_; rw [show (s.take (((5 + szD s : Nat)) : Int).toNat).drop (5 : Int).toNat = (s.drop 5).take (szD s) from name_of]; refine VLt.c (.move rfl) ?_; refine VLt.c (.move rfl) ?_; refine VLt.nws [] ?_; refine VLt.sl rfl (.cutL rfl rfl el26 (by omega)) ?_; refine VLt.callO rfl rfl (VF.call (rNum4_ok (byteL_drop hb _) (by rw [List.length_drop]; omega))) ?_; refine VLt.c ((.convW .i64 (wN2 (l := s.drop (5 + szD s)) (l' := s.drop (5 + szD s)) rfl (byteL_drop hb _) (by rw [List.length_drop]; omega)))) ?_; refine VLt.c (.buildA (cs := [St (strI ((s.drop 5).take (szD s))), I ((numN (s.drop (5 + szD s)) : Nat) : Int), nilV, nilV]) bt25 rfl) ?_; refine VLt.cellU (.alloc zt25) ?_; intro ww2; refine VLt.mk0 (MakeV.setF (k := 0) vt25 (.aggs rfl rfl) (Nat.le_of_ble_eq_true rfl) (.inr ⟨rfl, rfl⟩) rfl rfl) (TurnV.store rfl (.inl rfl)) ⟨[], rfl⟩ ?_; rintro _ _ ⟨rfl, rfl⟩; refine ⟨⟨[(ww2, .var [St (strI ((s.drop 5).take (szD s))), I ((numN (s.drop (5 + szD s)) : Nat) : Int), nilV, nilV])], rfl⟩, ?_⟩; refine VLt.go ?_; refine VC.seq ?_; refine VC.keep [(0, .v y26 s), (2, .raw ww1), (4, I ((5 + szD s : Nat) : Int)), (5, .raw ww2)] ⟨rfl, rfl, rfl, rfl, trivial⟩ ?_; refine VC.drawn ?_; refine VD.c (.move rfl) (VD.c (.move rfl) (VD.c (.add rfl rfl (by omega)) ?_)); refine VD.r [] (.cutL rfl rfl el26 (by omega)) (.inl rfl) ?_; refine VD.call rfl rfl (VF.call (rNum4_ok (byteL_drop hb _) (by rw [List.length_drop]; omega))) ?_; refine VD.c ((.convW .i64 (show IntKind.i64.wrap (numE (s.drop (5 + szD s + 4))) = ((cntL s : Nat) : Int) from wN (byteL_drop hb _) (by rw [List.length_drop]; omega)))) (VD.nw [] (VD.c (.move rfl) (VD.c (.move rfl) ?_))); refine VD.c (.add rfl rfl (by omega)) ?_; refine VD.r [] (.cutL rfl rfl el26 (by omega)) (.inl rfl) ?_; refine VD.call rfl rfl (VF.call (rNum4_ok (byteL_drop hb _) (by rw [List.length_drop]; omega))) ?_; refine VD.c ((.convW .i64 (show IntKind.i64.wrap (numE (s.drop (5 + szD s + 8))) = ((cntG s : Nat) : Int) from wN (byteL_drop hb _) (by rw [List.length_drop]; omega)))) (VD.c (.assign rfl) (VD.nw [] (VD.c (.assign rfl) ?_))); refine VD.go (VC.seq (VC.text ?_)); refine VO.c (.move rfl) (VO.c (.add rfl rfl (by omega)) (VO.c (.assign rfl) ?_)); refine VO.go (VC.seq (VC.seq (VC.text ?_))); refine VO.c (.move rfl) ?_; refine VO.r (.len el26) ?_; refine VO.c (.move rfl) (VO.c (.move rfl) (VO.c (.mul rfl rfl (by omega)) (VO.c (.add rfl rfl (by omega)) ?_))); refine VO.c (.move rfl) (VO.c (.mul rfl rfl (by omega)) (VO.c (.add rfl rfl (by omega)) (VO.c (.lss) ?_))); refine VO.go ?_; refine VC.condD rfl (fun c13 => ?_) (fun c13 => ?_)
  · have hd5 : decE s = 29 := dec5 kd (by omega); refine VC.seq (VC.text ?_); refine VO.c (.build (ByteArray.empty, 0, [], []) bt25) ?_; refine VO.perm swap1 ?_; refine VO.setV (cs' := [St ByteArray.empty, I 0, .v y22 [], .v y23 []]) vt25 .v ?_; refine VO.c (.assign rfl) (VO.go ?_); refine VC.ret ?_; exact VEnd.two rfl (.cell (x := (ByteArray.empty, 0, [], [])) rfl m0 vt25 .refl) evT (pvE (by exact (decR_bad (by rw [hd5]; decide)).symm)) (pvI (by exact hd5.symm))
  refine VC.skip (VC.seq (VC.seq (VC.text ?_))); refine VO.c (.move rfl) ?_; refine VO.r (.len el26) ?_; refine VO.c (.move rfl) (VO.c (.move rfl) (VO.c (.mul rfl rfl (by omega)) (VO.c (.add rfl rfl (by omega)) ?_))); refine VO.c (.move rfl) (VO.c (.mul rfl rfl (by omega)) (VO.c (.add rfl rfl (by omega)) (VO.c (.gtr) ?_))); refine VO.go ?_; refine VC.condD rfl (fun c15 => ?_) (fun c15 => ?_)
  · have hd6 : decE s = 2 := dec6 kd (by omega); refine VC.seq ?_; refine VC.keep [(0, .v y26 s), (2, .raw ww1), (4, I ((5 + szD s + 12 : Nat) : Int)), (5, .raw ww2), (6, I ((cntL s : Nat) : Int)), (7, I ((cntG s : Nat) : Int))] ⟨rfl, rfl, rfl, rfl, rfl, rfl, trivial⟩ ?_; refine VC.text ?_; refine VO.c (.build (ByteArray.empty, 0, [], []) bt25) ?_; refine VO.perm swap1 ?_; refine VO.setV (cs' := [St ByteArray.empty, I 0, .v y22 [], .v y23 []]) vt25 .v ?_; refine VO.c (.assign rfl) (VO.go ?_); refine VC.ret ?_; exact VEnd.two rfl (.cell (x := (ByteArray.empty, 0, [], [])) rfl m0 vt25 .refl) evT (pvE (by exact (decR_bad (by rw [hd6]; decide)).symm)) (pvI (by exact hd6.symm))
  have hn0 : (bodyD s).length = 8 * cntG s + 4 * cntL s := by omega
  refine VC.skip (VC.seq (VC.seq ?_)); refine VC.keep [(0, .v y26 s), (2, .raw ww1), (4, I ((5 + szD s + 12 : Nat) : Int)), (5, .raw ww2), (6, I ((cntL s : Nat) : Int)), (7, I ((cntG s : Nat) : Int))] ⟨rfl, rfl, rfl, rfl, rfl, rfl, trivial⟩ ?_; refine VC.text ?_; refine VO.c (.assign rfl) ?_; refine VO.go (VC.block ?_); refine VC.cell0 53 y53 ?_; refine VC.keep [(0, .v y26 s), (2, .raw ww1), (4, I ((5 + szD s + 12 + 8 * 0 : Nat) : Int)), (5, .raw ww2), (6, I ((cntL s : Nat) : Int)), (7, I ((cntG s : Nat) : Int)), (8, I ((0 : Nat) : Int))] ⟨rfl, rfl, rfl, rfl, rfl, rfl, rfl, trivial⟩ ?_; refine VC.loop (I := fun kk ff ss => ∃ (j : Nat) (wg : Value), kk = cntG s - j ∧ ff = [(0, .v y26 s), (2, .raw ww1), (4, I ((5 + szD s + 12 + 8 * j : Nat) : Int)), (5, .raw ww2), (6, I ((cntL s : Nat) : Int)), (7, I ((cntG s : Nat) : Int)), (8, I ((j : Nat) : Int))] ∧ ss = [(wg, .row 53 y53 (gapD (bodyD s) j)), (ww2, .var [St (strI ((s.drop 5).take (szD s))), I ((numN (s.drop (5 + szD s)) : Nat) : Int), nilV, .raw wg]), (ww1, .var [St ByteArray.empty, I (0 : Int), .v y22 [], .v y23 []])] ∧ (j ≤ cntG s)) ?_ _ _ _ ⟨0, (.slice none 0 0), rfl, rfl, rfl, (by omega)⟩; rintro kk ff ss ⟨j, wg, hk0, rfl, rfl, hj⟩; refine VC.seq (VC.seq (VC.text ?_)); refine VO.c (.move rfl) (VO.c (.move rfl) (VO.c (.lss) (VO.go ?_))); refine VC.condD rfl (fun c18 => ?_) (fun c18 => ?_)
  · have hj1 : j < cntG s := by omega
    have hlj : ((bodyD s).drop (8 * j)).length = (bodyD s).length - 8 * j := List.length_drop; have hbj : byteL ((bodyD s).drop (8 * j)) := byteL_drop hbb _; refine VC.skip (VC.seq (VC.block (VC.seq (VC.drawn ?_)))); refine VD.co (.faO (k := 3) m1) ?_; refine VD.r [(wg, .row 53 y53 (gapD (bodyD s) j)), (ww2, .var [St (strI ((s.drop 5).take (szD s))), I ((numN (s.drop (5 + szD s)) : Nat) : Int), nilV, .raw wg]), (ww1, .var [St ByteArray.empty, I (0 : Int), .v y22 [], .v y23 []])] (.ldF (k := 3) m1 vt23) (.inr ⟨rfl, rfl⟩) ?_; refine VD.c (.move rfl) (VD.c (.move rfl) ?_); refine VD.r [] (.cutL rfl rfl el26 (by omega)) (.inl rfl) ?_; refine VD.call rfl rfl (VF.call (rNum4_ok (byteL_drop hb _) (by rw [List.length_drop]; omega))) ?_; refine VD.nw [] (VD.c ((.convW .i64 (wN2 (l := s.drop (5 + szD s + 12 + 8 * j)) (l' := (bodyD s).drop (8 * j)) gap_at hbj (by omega)))) (VD.c (.move rfl) (VD.c (.move rfl) ?_))); refine VD.c (.add rfl rfl (by omega)) ?_; refine VD.r [] (.cutL rfl rfl el26 (by omega)) (.inl rfl) ?_; refine VD.call rfl rfl (VF.call (rNum4_ok (byteL_drop hb _) (by rw [List.length_drop]; omega))) ?_; refine VD.c ((.convW .i64 (wN2 (l := s.drop (5 + szD s + 12 + 8 * j + 4)) (l' := (bodyD s).drop (8 * j + 4)) gap_at4 (byteL_drop hbb _) (by rw [List.length_drop]; omega)))) (VD.nw [] (VD.c (.build (((numN ((bodyD s).drop (8 * j)) : Nat) : Int), ((numN ((bodyD s).drop (8 * j + 4)) : Nat) : Int)) bt53) ?_)); refine VD.new (.lit [(((numN ((bodyD s).drop (8 * j)) : Nat) : Int), ((numN ((bodyD s).drop (8 * j + 4)) : Nat) : Int))] el23) ?_; refine VD.mk (MakeV.app el23 el23 rfl rfl (by have := gapD_len (bodyD s) j; simp only [List.length_singleton]; omega)) ?_; rintro _ _ tl3 ⟨ww3, rfl, rfl⟩; refine VD.co (.faO (k := 3) m1) ?_; refine VD.perm swap1 ?_; refine VD.one m1 fun ho4 => ?_; refine VD.mk0 (MakeV.setF (k := 3) vt23 (.raw rfl (agg_one ho4) ho4) (Nat.le_of_ble_eq_true rfl) (.inl rfl) rfl rfl) ?_; rintro _ _ tl5 ⟨rfl, rfl⟩; refine VD.go (VC.text ?_); refine VO.c (.move rfl) (VO.c (.add rfl rfl (by omega)) (VO.c (.assign rfl) ?_)); refine VO.nil (VC.text ?_); refine VO.c (.move rfl) (VO.c (.add rfl rfl (by omega)) (VO.c (.assign rfl) ?_)); refine VO.perm swap2 ?_; refine VO.perm swap1 ?_; refine VO.perm swap2 ?_; refine VO.nil ?_; refine ⟨_, [(0, .v y26 s), (2, .raw ww1), (4, I ((5 + szD s + 12 + 8 * (j + 1) : Nat) : Int)), (5, .raw ww2), (6, I ((cntL s : Nat) : Int)), (7, I ((cntG s : Nat) : Int)), (8, I (((j + 1) : Nat) : Int))], ?_, ⟨rfl, rfl, slI rfl (by omega), rfl, rfl, rfl, rfl, trivial⟩, (j + 1), ww3, rfl, rfl, (by rw [gapD_next] <;> rfl), (by omega)⟩; omega
  obtain rfl : j = cntG s := by omega
  have hlD : ((bodyD s).drop (8 * cntG s)).length = (bodyD s).length - 8 * cntG s := List.length_drop; have hbD : byteL ((bodyD s).drop (8 * cntG s)) := byteL_drop hbb _; refine VC.exit (VC.seq (VC.seq (VC.text ?_))); refine VO.c (.assign rfl) ?_; refine VO.go (VC.block ?_); refine VC.cell0 68 (.flt .f32) ?_; refine VC.keep [(0, .v y26 s), (2, .raw ww1), (4, I ((5 + szD s + 12 + 8 * cntG s + 4 * 0 : Nat) : Int)), (5, .raw ww2), (6, I ((cntL s : Nat) : Int)), (9, I ((0 : Nat) : Int))] ⟨rfl, rfl, rfl, rfl, rfl, rfl, trivial⟩ ?_; refine VC.loop (I := fun kk ff ss => ∃ (k : Nat) (wl : Value), kk = cntL s - k ∧ ff = [(0, .v y26 s), (2, .raw ww1), (4, I ((5 + szD s + 12 + 8 * cntG s + 4 * k : Nat) : Int)), (5, .raw ww2), (6, I ((cntL s : Nat) : Int)), (9, I ((k : Nat) : Int))] ∧ ss = [(wl, .row 68 (.flt .f32) (levD ((bodyD s).drop (8 * cntG s)) k)), (wg, .row 53 y53 (gapD (bodyD s) (cntG s))), (ww2, .var [St (strI ((s.drop 5).take (szD s))), I ((numN (s.drop (5 + szD s)) : Nat) : Int), .raw wl, .raw wg]), (ww1, .var [St ByteArray.empty, I (0 : Int), .v y22 [], .v y23 []])] ∧ (k ≤ cntL s) ∧ (∀ i, i < k → numN (((bodyD s).drop (8 * cntG s)).drop (4 * i)) ≠ 2147483648)) ?_ _ _ _ ⟨0, (.slice none 0 0), rfl, rfl, rfl, (by omega), (by exact fun i h => absurd h (by omega))⟩; rintro kk ff ss ⟨k, wl, hk2, rfl, rfl, hk, hn⟩; refine VC.seq (VC.seq (VC.text ?_)); refine VO.c (.move rfl) (VO.c (.move rfl) (VO.c (.lss) (VO.go ?_))); refine VC.condD rfl (fun c23 => ?_) (fun c23 => ?_)
  · have hk1 : k < cntL s := by omega
    have hlk : (((bodyD s).drop (8 * cntG s)).drop (4 * k)).length = ((bodyD s).drop (8 * cntG s)).length - 4 * k := List.length_drop; have hbk : byteL (((bodyD s).drop (8 * cntG s)).drop (4 * k)) := byteL_drop hbD _; refine VC.skip (VC.seq (VC.block (VC.seq (VC.text ?_)))); refine VO.c (.move rfl) (VO.c (.move rfl) ?_); refine VO.r (.cutL rfl rfl el26 (by omega)) ?_; refine VO.call rfl rfl (VF.call (rNum4_ok (byteL_drop hb _) (by rw [List.length_drop]; omega))) ?_; rw [show s.drop (((5 + szD s + 12 + 8 * cntG s + 4 * k : Nat)) : Int).toNat = ((bodyD s).drop (8 * cntG s)).drop (4 * k) from lev_at]; refine VO.c (.assign rfl) ?_; refine VO.go (VC.seq (VC.seq (VC.text ?_))); refine VO.c (.move rfl) (VO.c (.eql) (VO.go ?_)); refine VC.condD rfl (fun c26 => ?_) (fun c26 => ?_)
    · have hd7 : decE s = 1 := dec7 kd hn0 (neg_at hk1 (by unfold numN; rw [c26]; rfl)); refine VC.seq (VC.text ?_); refine VO.c (.build (ByteArray.empty, 0, [], []) bt25) ?_; refine VO.perm swap3 ?_; refine VO.setV (cs' := [St ByteArray.empty, I 0, .v y22 [], .v y23 []]) vt25 .v ?_; refine VO.c (.assign rfl) (VO.go ?_); refine VC.ret ?_; exact VEnd.two rfl (.cell (x := (ByteArray.empty, 0, [], [])) rfl m0 vt25 .refl) evT (pvE (by exact (decR_bad (by rw [hd7]; decide)).symm)) (pvI (by exact hd7.symm))
    have hnk : numN (((bodyD s).drop (8 * cntG s)).drop (4 * k)) ≠ 2147483648 := fun e => c26 (by have := numN_eq hbk (by omega); rw [e] at this; exact this.symm); refine VC.skip (VC.seq (VC.drawn ?_)); refine VD.co (.faO (k := 2) m2) ?_; refine VD.r [(wl, .row 68 (.flt .f32) (levD ((bodyD s).drop (8 * cntG s)) k)), (wg, .row 53 y53 (gapD (bodyD s) (cntG s))), (ww2, .var [St (strI ((s.drop 5).take (szD s))), I ((numN (s.drop (5 + szD s)) : Nat) : Int), .raw wl, .raw wg]), (ww1, .var [St ByteArray.empty, I (0 : Int), .v y22 [], .v y23 []])] (.ldF (k := 2) m2 vt22) (.inr ⟨rfl, rfl⟩) ?_; refine VD.c (.move rfl) ?_; refine VD.call rfl rfl (VF.call (mFrom_ok )) ?_; refine VD.new (.lit [(numE (((bodyD s).drop (8 * cntG s)).drop (4 * k))).toNat] el22) ?_; refine VD.mk (MakeV.app el22 el22 rfl rfl (by have := levD_len ((bodyD s).drop (8 * cntG s)) k; simp only [List.length_singleton]; omega)) ?_; rintro _ _ tl6 ⟨ww6, rfl, rfl⟩; refine VD.nw [123, 122] ?_; refine VD.co (.faO (k := 2) m2) ?_; refine VD.perm swap2 ?_; refine VD.one m1 fun ho7 => ?_; refine VD.mk0 (MakeV.setF (k := 2) vt22 (.raw rfl (agg_one ho7) ho7) (Nat.le_of_ble_eq_true rfl) (.inl rfl) rfl rfl) ?_; rintro _ _ tl8 ⟨rfl, rfl⟩; refine VD.go (VC.text ?_); refine VO.c (.move rfl) (VO.c (.add rfl rfl (by omega)) (VO.c (.assign rfl) ?_)); refine VO.nil (VC.text ?_); refine VO.c (.move rfl) (VO.c (.add rfl rfl (by omega)) (VO.c (.assign rfl) ?_)); refine VO.perm swap3 ?_; refine VO.perm swap1 ?_; refine VO.perm swap3 ?_; refine VO.perm swap3 ?_; refine VO.nil ?_; refine ⟨_, [(0, .v y26 s), (2, .raw ww1), (4, I ((5 + szD s + 12 + 8 * cntG s + 4 * (k + 1) : Nat) : Int)), (5, .raw ww2), (6, I ((cntL s : Nat) : Int)), (9, I (((k + 1) : Nat) : Int))], ?_, ⟨rfl, rfl, slI rfl (by omega), rfl, rfl, rfl, trivial⟩, (k + 1), ww6, rfl, rfl, (by rw [levD_next] <;> rfl), (by omega), (by exact fun i h => if e : i = k then (by subst e; exact hnk) else hn i (by omega))⟩; omega
  have hk2 : k = cntL s := by omega
  have hng := neg_no (n := cntL s) fun i hi => hn i (by omega)
  have hd8 : decE s = recE (recK s k) := by rw [recK_eq hk2]; exact dec8 kd hn0 hng
  refine VC.exit (VC.seq (VC.seq ?_)); refine VC.perm swap2 ?_; refine VC.perm swap2 ?_; refine VC.perm swap2 ?_; refine VC.shutL [(wl, .row 68 (.flt .f32) (levD ((bodyD s).drop (8 * cntG s)) k)), (wg, .row 53 y53 (gapD (bodyD s) (cntG s))), (ww2, .var [St (strI ((s.drop 5).take (szD s))), I ((numN (s.drop (5 + szD s)) : Nat) : Int), .raw wl, .raw wg])] [(5, .p y25 (recK s k))] rfl (.cons rfl (.var m2 (.cons .same (.cons .same (.cons (.row m0) (.cons (.row m1) .nil))))) .nil) ?_; refine VC.text ?_; refine VO.r (.ld vt25) ?_; refine VO.call rfl rfl (VF.call (rRec_ok (by show (levD _ _).length < 1000000; rw [levD_len]; omega) (by show (gapD _ _).length < 1000000; rw [gapD_len]; omega))) ?_; refine VO.c (.assign rfl) ?_; refine VO.go (VC.seq (VC.text ?_)); refine VO.c (.move rfl) (VO.c (.neq) (VO.go ?_)); refine VC.condD rfl (fun c31 => ?_) (fun c31 => ?_)
  · refine VC.seq (VC.text ?_); refine VO.c (.build (ByteArray.empty, 0, [], []) bt25) (VO.c (.move rfl) ?_); refine VO.setV (cs' := [St ByteArray.empty, I 0, .v y22 [], .v y23 []]) vt25 .v ?_; refine VO.c (.assign rfl) (VO.go ?_); refine VC.ret ?_; exact VEnd.two rfl (.cell (x := (ByteArray.empty, 0, [], [])) rfl m0 vt25 .refl) evT (pvE (by exact (decR_bad (by rw [hd8]; exact c31)).symm)) (pvI (by exact hd8.symm))
  refine VC.skip (VC.seq (VC.text ?_)); refine VO.r (.ld vt25) ?_; refine VO.setV (cs' := [St ((recK s k).1), I ((recK s k).2.1), .v y22 ((recK s k).2.2.1), .v y23 ((recK s k).2.2.2)]) vt25 .v ?_; refine VO.c (.assign rfl) (VO.go ?_); refine VC.ret ?_; exact VEnd.two rfl (.cell (x := recK s k) rfl m0 vt25 .refl) evT (pvE (by rw [recK_eq hk2]; exact (if_pos (by rw [hd8]; exact Classical.not_not.1 c31)).symm)) (pvI (by rw [hd8]; exact (Classical.not_not.1 c31).symm))
end Go.Proofs
namespace Go.Proofs
open Go.Fs Ieee
set_option maxHeartbeats 2000000
theorem encR_bytes {r : Rec1} : byteL (encR r) := fun x hx => by
  unfold encR at hx; rcases List.mem_append.1 hx with hx | hx
  · rcases List.mem_append.1 hx with hx | hx
    · unfold numB headB at hx; simp only [List.mem_append] at hx; rcases hx with (((((hx | hx) | hx) | hx) | hx) | hx)
      · simp only [List.mem_cons, List.not_mem_nil, or_false] at hx; omega
      · simp only [List.mem_cons, List.not_mem_nil, or_false] at hx; subst hx; omega
      · exact bytesI_mem x hx
      · exact fourE_mem x hx
      · exact fourE_mem x hx
      exact fourE_mem x hx
    obtain ⟨s, _, hx⟩ := List.mem_flatMap.1 hx; rcases List.mem_append.1 hx with hx | hx
    · exact fourE_mem x hx
    exact fourE_mem x hx
  obtain ⟨s, _, hx⟩ := List.mem_flatMap.1 hx; exact fourE_mem x hx
theorem sameLv_self {l : List Nat} (hv : ∀ x ∈ l, lvlE x = 0) : sameLv l l = true := by
  refine decide_eq_true ⟨rfl, fun i hi => ?_⟩; rw [getDat hi]; have h2 := lvl_ok (hv _ (List.getElem_mem hi)); rw [(fcmp32 h2.1 h2.1).2.1]; exact decide_eq_false (by simp)
theorem enc_bytes {r : Rec1} : byteL (if recE r = 0 then encR r else []) := by
  split
  · exact encR_bytes
  exact fun x hx => by cases hx
theorem told_dec {s : List Int} : toldE (decR s) (decE s) (decE s) (decR s) = true := by
  unfold toldE; by_cases h : decE s = 0
  · have hr : recE (recD s) = 0 := by
      unfold decE at h; split at h; cases h; split at h; cases h; split at h; cases h; split at h; cases h; split at h; cases h; split at h; cases h; split at h; cases h; exact h
    have hv := (rec_ok hr).2.2.2.1; have e : decR s = recD s := if_pos h; rw [if_neg (fun h2 => h2 h), decide_eq_true h, Bool.true_and, e]; unfold sameRec; rw [sameLv_self hv, decide_eq_true rfl, decide_eq_true rfl, decide_eq_true rfl] <;> rfl
  rw [if_pos h, decR_bad h, decide_eq_true rfl, Bool.and_true]; decide +kernel
theorem decR_len {s : List Int} (hb : byteL s) (hl : s.length ≤ 500) : (decR s).2.2.1.length < 1000000 ∧ (decR s).2.2.2.length < 1000000 := by
  by_cases h : decE s = 0
  · have hr : recE (recD s) = 0 := by
      unfold decE at h; split at h; cases h; split at h; cases h; split at h; cases h; split at h; cases h; split at h; cases h; split at h; cases h; split at h; cases h; exact h
    have hv := rec_ok hr; have e : decR s = recD s := if_pos h; rw [e]; omega
  rw [decR_bad h]; decide
theorem wf8u {n : Int} (h : (Lit.int .u8 n).wf = true) : 0 ≤ n ∧ n < 256 := by
  have h1 : (decide (IntKind.u8.min ≤ n) && decide (n ≤ IntKind.u8.max)) = true := h; obtain ⟨h2, h3⟩ := band h1; have h4 : (0 : Int) ≤ n := of_decide_eq_true h2; have h5 : n ≤ (255 : Int) := of_decide_eq_true h3; exact ⟨h4, by omega⟩
theorem wfE8 {xs : List Int} (h : Wf (.sl (.int .u8)) xs) : ∀ x ∈ xs, 0 ≤ x ∧ x < 256 := fun x hx => wf8u (h.2 _ hx)
theorem lawStr_ok {r : ByteArray × Int × (List Nat) × (List (Int × Int))} {s : List Int} (hb : byteL s) : VF Tryz.prog OA 3 [.v y25 r, .v y26 s] (B true) := by
  refine VF.enter Tryz.func3 rfl (fun _ _ => rfl) rfl ?_; show VC _ _ _ _ _ [(0, .v y25 r), (1, .v y26 s)] [] _; refine VC.seq (VC.text ?_); refine VO.new (.box) ?_; refine VO.c (.assign rfl) ?_; refine VO.go (VC.seq (VC.seq (VC.text ?_))); refine VO.call rfl rfl (VF.call (awake_ok )) ?_; refine VO.c (.not) (VO.c (.move rfl) ?_); refine VO.r (.ld vt25) ?_; refine VO.call rfl rfl (VF.call (rShort_ok )) ?_; refine VO.c (.not) (VO.c (.pickF rfl rfl) (VO.c (.move rfl) ?_)); refine VO.cg (r := (!(shortE r))) (w := false) [] trivial (fun _ => (.move rfl)) ?_; refine VO.rg (r := (!(shortE r))) (w := false) [(21, .v y26 s)] ⟨rfl, trivial⟩ (fun _ => (.len el26)) ?_; refine VO.cg (r := (!(shortE r))) (w := false) [(22, I ((s.length : Nat) : Int))] ⟨rfl, trivial⟩ (fun _ => (.gtr)) ?_; refine VO.c (.or) (VO.go ?_); refine VC.condB rfl (fun c1 => ?_) (fun c1 => ?_)
  · try simp only [Bool.and_eq_true, Bool.or_eq_true, Bool.and_eq_false_iff, Bool.or_eq_false_iff, Bool.not_eq_true', Bool.not_eq_false', decide_eq_true_eq, decide_eq_false_iff_not] at c1
    refine VC.seq (VC.text ?_); refine VO.call rfl rfl (VF.call (awake_ok )) ?_; refine VO.c (.assign rfl) (VO.go ?_); refine VC.ret ?_; exact VEnd.one rfl evT (pvE (by rfl))
  try simp only [Bool.and_eq_true, Bool.or_eq_true, Bool.and_eq_false_iff, Bool.or_eq_false_iff, Bool.not_eq_true', Bool.not_eq_false', decide_eq_true_eq, decide_eq_false_iff_not] at c1
  have hs := shortE_t c1.1
  have hl : r.2.2.1.length < 1000000 := by omega
  have hg : r.2.2.2.length < 1000000 := by omega
  have hsl : s.length ≤ 500 := by omega
  have hdl := decR_len hb hsl; refine VC.skip (VC.seq (VC.text ?_)); refine VO.r (.ld vt25) ?_; refine VO.call rfl rfl (VF.call (lRecord_ok (by first | assumption | omega | simp) (by first | assumption | omega | simp))) ?_; refine VO.call rfl rfl (VF.call (gEnc_ok hl hg)) ?_; refine VO.c (.move rfl) (VO.c (.extract) (VO.c (.extract) (VO.c (.assign rfl) ?_))); refine VO.c (.assign rfl) ?_; refine VO.go (VC.seq (VC.text ?_)); refine VO.cell (.lit0 el26) ?_; intro ww1; refine VO.c (.move rfl) ?_; refine VO.app rfl rfl el26 el26 (by simp; omega) ?_; intro ww2; refine VO.shut [(35, .v y26 s)] (.cons rfl (.row m0) .nil) ?_; refine VO.call rfl rfl (VF.call (gDec_ok hb (by omega))) ?_; refine VO.c (.move rfl) (VO.c (.extract) (VO.c (.extract) ?_)); refine VO.cell (.alloc zt32) ?_; intro ww3; refine VO.setV (cs' := [St ((decR s).1), I ((decR s).2.1), .v y22 ((decR s).2.2.1), .v y23 ((decR s).2.2.2)]) vt32 .v ?_; refine VO.shut [(7, .p y32 (decR s))] (.cons rfl (.var m0 .refl) .nil) ?_; refine VO.c (.assign rfl) ?_; refine VO.go (VC.seq (VC.text ?_)); refine VO.r (.ld vt25) ?_; refine VO.call rfl rfl (VF.call (rRec_ok (by first | assumption | omega | simp) (by first | assumption | omega | simp))) ?_; refine VO.c (.assign rfl) ?_; refine VO.go (VC.seq ?_); refine VC.keep [(1, .v y26 s), (2, .p y25 r), (5, .v y26 (if recE r = 0 then encR r else [])), (6, I (recE r)), (7, .p y32 (decR s)), (8, I (decE s)), (9, I (recE r))] ⟨rfl, rfl, rfl, rfl, rfl, rfl, rfl, trivial⟩ ?_; refine VC.text ?_; refine VO.c (.assign rfl) ?_; refine VO.go (VC.seq (VC.seq (VC.text ?_))); refine VO.c (.move rfl) (VO.c (.eql) (VO.go ?_)); refine VC.condD rfl (fun c7 => ?_) (fun c7 => ?_)
  · refine VC.text ?_; refine VO.r (.ld vt25) ?_; refine VO.call rfl rfl (VF.call (rEnc_ok (by first | assumption | omega | simp))) ?_; refine VO.bts (e1 := 5) (acc := strI (encR r)) (by rw [bytesI_strI (encR_bytes)]; rfl) (by kernel_rfl) (by kernel_rfl) (by kernel_rfl) ?_; refine VO.c (.assign rfl) ?_; refine VO.go (VC.seq (VC.text ?_)); refine VO.c (.move rfl) ?_; refine VO.call rfl rfl (VF.call (rDec_ok (by first | assumption | omega | simp) (by first | assumption | omega | simp))) ?_; refine VO.c (.move rfl) (VO.c (.extract) (VO.c (.extract) ?_)); refine VO.cell (.alloc zt25) ?_; intro ww4; refine VO.setV (cs' := [St ((decR s).1), I ((decR s).2.1), .v y22 ((decR s).2.2.1), .v y23 ((decR s).2.2.2)]) vt25 .v ?_; refine VO.shut [(11, .p y25 (decR s))] (.cons rfl (.var m0 .refl) .nil) ?_; refine VO.c (.assign rfl) ?_; refine VO.go (VC.seq (VC.text ?_)); refine VO.c (.move rfl) ?_; refine VO.bts (e1 := 5) (acc := strI (if recE r = 0 then encR r else [])) (by rw [bytesI_strI (enc_bytes)]; rfl) (by kernel_rfl) (by kernel_rfl) (by kernel_rfl) ?_; refine VO.c (.move rfl) (VO.c (.seql) (VO.c (.move rfl) ?_)); refine VO.cg (r := decide ((strI (if recE r = 0 then encR r else [])) = (strI (encR r)))) (w := true) [] trivial (fun _ => (.move rfl)) ?_; refine VO.cg (r := decide ((strI (if recE r = 0 then encR r else [])) = (strI (encR r)))) (w := true) [] trivial (fun _ => (.move rfl)) ?_; refine VO.cg (r := decide ((strI (if recE r = 0 then encR r else [])) = (strI (encR r)))) (w := true) [(56, I (recE r)), (57, I (recE r))] ⟨rfl, rfl, trivial⟩ (fun _ => (.eql)) ?_; refine VO.c (.and) (VO.c (.move rfl) ?_); refine VO.rg (r := ((decide ((strI (if recE r = 0 then encR r else [])) = (strI (encR r)))) && (decide (recE r = recE r)))) (w := true) [] trivial (fun _ => (.ld vt32)) ?_; refine VO.cg (r := ((decide ((strI (if recE r = 0 then encR r else [])) = (strI (encR r)))) && (decide (recE r = recE r)))) (w := true) [] trivial (fun _ => (.move rfl)) ?_; refine VO.cg (r := ((decide ((strI (if recE r = 0 then encR r else [])) = (strI (encR r)))) && (decide (recE r = recE r)))) (w := true) [] trivial (fun _ => (.move rfl)) ?_; refine VO.rg (r := ((decide ((strI (if recE r = 0 then encR r else [])) = (strI (encR r)))) && (decide (recE r = recE r)))) (w := true) [] trivial (fun _ => (.ld vt25)) ?_; refine VO.callg (r0 := ((decide ((strI (if recE r = 0 then encR r else [])) = (strI (encR r)))) && (decide (recE r = recE r)))) (w := true) [(61, .v y32 (decR s)), (62, I (decE s)), (63, I (decE s)), (64, .v y25 (decR s))] ⟨rfl, rfl, rfl, rfl, trivial⟩ rfl rfl .same .refl rfl (fun hgd => have g10_9 : ((decide ((strI (if recE r = 0 then encR r else [])) = (strI (encR r)))) && (decide (recE r = recE r))) = true := (by simpa using hgd); VF.call (lTold_ok (by first | assumption | omega | simp) (by first | assumption | omega | simp) (by first | assumption | omega | simp))) ?_; refine VO.c (.and) (VO.c (.assign rfl) (VO.go ?_)); refine VC.ret ?_; exact VEnd.one rfl evT (pvE (by first | (simp [c7, told_dec]; done) | (simp [c7, told_dec]; rfl)))
  refine VC.skip (VC.seq (VC.text ?_)); refine VO.c (.move rfl) ?_; refine VO.call rfl rfl (VF.call (rDec_ok (by first | assumption | omega | simp) (by first | assumption | omega | simp))) ?_; refine VO.c (.move rfl) (VO.c (.extract) (VO.c (.extract) ?_)); refine VO.cell (.alloc zt25) ?_; intro ww5; refine VO.setV (cs' := [St ((decR s).1), I ((decR s).2.1), .v y22 ((decR s).2.2.1), .v y23 ((decR s).2.2.2)]) vt25 .v ?_; refine VO.shut [(11, .p y25 (decR s))] (.cons rfl (.var m0 .refl) .nil) ?_; refine VO.c (.assign rfl) ?_; refine VO.go (VC.seq (VC.text ?_)); refine VO.c (.move rfl) ?_; refine VO.bts (e1 := 5) (acc := strI (if recE r = 0 then encR r else [])) (by rw [bytesI_strI (enc_bytes)]; rfl) (by kernel_rfl) (by kernel_rfl) (by kernel_rfl) ?_; refine VO.c (.move rfl) (VO.c (.seql) (VO.c (.move rfl) ?_)); refine VO.cg (r := decide ((strI (if recE r = 0 then encR r else [])) = ByteArray.empty)) (w := true) [] trivial (fun _ => (.move rfl)) ?_; refine VO.cg (r := decide ((strI (if recE r = 0 then encR r else [])) = ByteArray.empty)) (w := true) [] trivial (fun _ => (.move rfl)) ?_; refine VO.cg (r := decide ((strI (if recE r = 0 then encR r else [])) = ByteArray.empty)) (w := true) [(56, I (recE r)), (57, I (recE r))] ⟨rfl, rfl, trivial⟩ (fun _ => (.eql)) ?_; refine VO.c (.and) (VO.c (.move rfl) ?_); refine VO.rg (r := ((decide ((strI (if recE r = 0 then encR r else [])) = ByteArray.empty)) && (decide (recE r = recE r)))) (w := true) [] trivial (fun _ => (.ld vt32)) ?_; refine VO.cg (r := ((decide ((strI (if recE r = 0 then encR r else [])) = ByteArray.empty)) && (decide (recE r = recE r)))) (w := true) [] trivial (fun _ => (.move rfl)) ?_; refine VO.cg (r := ((decide ((strI (if recE r = 0 then encR r else [])) = ByteArray.empty)) && (decide (recE r = recE r)))) (w := true) [] trivial (fun _ => (.move rfl)) ?_; refine VO.rg (r := ((decide ((strI (if recE r = 0 then encR r else [])) = ByteArray.empty)) && (decide (recE r = recE r)))) (w := true) [] trivial (fun _ => (.ld vt25)) ?_; refine VO.callg (r0 := ((decide ((strI (if recE r = 0 then encR r else [])) = ByteArray.empty)) && (decide (recE r = recE r)))) (w := true) [(61, .v y32 (decR s)), (62, I (decE s)), (63, I (decE s)), (64, .v y25 (decR s))] ⟨rfl, rfl, rfl, rfl, trivial⟩ rfl rfl .same .refl rfl (fun hgd => have g10_9 : ((decide ((strI (if recE r = 0 then encR r else [])) = ByteArray.empty)) && (decide (recE r = recE r))) = true := (by simpa using hgd); VF.call (lTold_ok (by first | assumption | omega | simp) (by first | assumption | omega | simp) (by first | assumption | omega | simp))) ?_; refine VO.c (.and) (VO.c (.assign rfl) (VO.go ?_)); refine VC.ret ?_; exact VEnd.one rfl evT (pvE (by first | (simp [c7, told_dec]; done) | (simp [c7, told_dec]; rfl)))
end Go.Proofs
namespace Go.Fs
open Go.RowKit (Below)
variable {P : Program}
def orcB (fi fj fc : FuncId) (T : TypeId) : FuncId → List Value → Heap → Option (Value × Heap) := fun f xs h =>
  bif Nat.beq f fc then
    match xs with
    | [.pointer (some ⟨b, 0, none⟩)] =>
      match h.get b with
      | some (.row e [p, v] true false) =>
        bif Nat.beq e T then
          match p with
          | .pointer none => some (.tuple #[], h.set b (.row e [.pointer (some ⟨b, 0, none⟩), v] true false))
          | .pointer (some ⟨b', 0, none⟩) => bif Nat.beq b' b then some (.tuple #[], h) else none
          | _ => none
        else none
      | _ => none
    | _ => none
  else orcS fi fj f xs h
theorem orcB_sound {B : Nat} {w0 : World} {fi fj fc : FuncId} {T : TypeId} (hz : w0.drawn = 0) (hS : CallSound P B w0 (orcS fi fj)) (hc : Enters P fc)
    (hF : ∀ (b : Nat) (w : World), w.cell? ⟨b, 0, none⟩ = some (.pointer none) → w.shape? b = some (T, 2) → w.frozen? ⟨b, 0, none⟩ = false →
      Calls P fc #[.pointer (some ⟨b, 0, none⟩)] w fun e w' => e = .returned (.tuple #[]) ∧ w' = w.setCell ⟨b, 0, none⟩ (.pointer (some ⟨b, 0, none⟩)))
    (hU : ∀ (b : Nat) (w : World), w.cell? ⟨b, 0, none⟩ = some (.pointer (some ⟨b, 0, none⟩)) → Calls P fc #[.pointer (some ⟨b, 0, none⟩)] w fun e w' => e = .returned (.tuple #[]) ∧ w' = w) :
    CallSound P B w0 (orcB fi fj fc T) := by
  intro f xs h v h' hf; unfold orcB at hf
  cases hb : Nat.beq f fc with
  | false =>
    rw [hb] at hf
    exact hS f xs h v h' hf
  | true =>
    have := nbeq hb; subst this; rw [hb] at hf; simp only [cond_true] at hf; split at hf
    · rename_i b; split at hf
      · rename_i e p u hg; obtain ⟨he, hf2⟩ := bif_some hf; obtain rfl := nbeq he; refine ⟨hc, fun ρ S w args' hr ha nn => ?_⟩; obtain ⟨hsb, cur, k1, k2, k3, k4, k5, k6, k7⟩ := hr.objs b _ hg; have hcl : cur.length = 2 := (k6 rfl).symm
        match cur, hcl with
        | [p', u'], _ =>
        have hp : VR ρ S p p' := k7 0 (by simp); have hu : VR ρ S u u' := k7 1 (by simp)
        have hat : (ρ b).at 0 = ⟨(ρ b).block, 0, none⟩ := by unfold Loc.at; rw [k2]
        have harg : args' = [.pointer (some ⟨(ρ b).block, 0, none⟩)] := by
          have h1 := ha.1
          match args', h1 with
          | [a], _ =>
            have h2 : VR ρ S (.pointer (some ⟨b, 0, none⟩)) a := ha.2 0 (by simp); rw [h2.ptr_inv.2, hat]
        subst harg
        have hcell : w.cell? ⟨(ρ b).block, 0, none⟩ = some p' := by simp [World.cell?, k1]
        split at hf2
        · simp only [Option.some.injEq, Prod.mk.injEq] at hf2; obtain ⟨rfl, rfl⟩ := hf2; obtain rfl := hp.eq_of_af0 rfl; have hC : CallsIn Fence.wide nn P f #[.pointer (some ⟨(ρ b).block, 0, none⟩)] w _ := callsIn_wide.2 (hF (ρ b).block w hcell (by simp [World.shape?, k1]) (frozen_soft k1 (by rw [k3]; exact Nat.zero_lt_succ _))); refine hC.mono fun e2 w' hret => ?_; obtain ⟨rfl, rfl⟩ := hret; refine ⟨ρ, Moved.set hr hg rfl rfl rfl rfl rfl (by simp [World.setCell]) (fun k hk => ?_) ?_, VR.tuple' LR.nil⟩
          · simp only [World.setCell, Array.getElem?_modify]; rw [if_neg (fun e0 => hk e0.symm)]
          refine ⟨[.pointer (some ⟨(ρ b).block, 0, none⟩), u'], ?_, k2, k3, k4, Nat.le_refl _, fun _ => rfl, fun i hi => ?_⟩
          · simp only [World.setCell, Array.getElem?_modify, if_pos rfl, k1]; simp
          match i, hi with
          | 0, _ => show VR ρ S (.pointer (some ⟨b, 0, none⟩)) (.pointer (some ⟨(ρ b).block, 0, none⟩)); rw [← hat]; exact .ptr b 0 hsb
          | 1, _ => exact hu
        · rename_i b'; obtain ⟨hbb, hf3⟩ := bif_some hf2; obtain rfl := nbeq hbb; simp only [Option.some.injEq, Prod.mk.injEq] at hf3; obtain ⟨rfl, rfl⟩ := hf3; have hp2 := hp.ptr_inv.2; rw [hat] at hp2; subst hp2; have hC : CallsIn Fence.wide nn P f #[.pointer (some ⟨(ρ b').block, 0, none⟩)] w _ := callsIn_wide.2 (hU (ρ b').block w hcell); refine hC.mono fun e2 w' hret => ?_; obtain ⟨rfl, rfl⟩ := hret; exact ⟨ρ, Moved.same hr, VR.tuple' LR.nil⟩
        cases hf2
      cases hf
    cases hf
end Go.Fs
namespace Go.Fs
open Go.RowKit (Below)
variable {P : Program} {B : Nat} {w0 : World}
def fsStepX (P : Program) (orc : FuncId → List Value → Heap → Option (Value × Heap)) (rec : Rec) : Rec := fun rnd c fr h =>
  match c with
  | .region _ ops true => match drawnX P { next := h.next, low := h.next, objs := h.objs } (fsOp P (callOf P orc rec) (fsYield rec)) ops fr.n ⟨fr.t, { next := h.next, low := h.next, objs := h.objs }, [], [], 0, false⟩ with
    | some s => some (.normal, { t := s.t, n := fr.n, marks := fr.marks }, { next := s.h.next, low := min h.low s.h.low, objs := s.h.objs })
    | none => match drawnY P { next := h.next, low := h.next, objs := h.objs } (fsOp P (callOf P orc rec) (fsYield rec)) ops fr.n ⟨fr.t, { next := h.next, low := h.next, objs := h.objs }, [], [], 0, false⟩ (fsReads P { next := h.next, low := h.next, objs := h.objs } (fsOp P (callOf P orc rec) (fsYield rec)) ops fr.n ops.toList 0 ⟨fr.t, { next := h.next, low := h.next, objs := h.objs }, [], [], 0, false⟩ []) with
      | some s => some (.normal, { t := s.t, n := fr.n, marks := fr.marks }, { next := s.h.next, low := min h.low s.h.low, objs := s.h.objs })
      | none => fsStep P orc rec rnd c fr h
  | c => fsStep P orc rec rnd c fr h
def fsCodeX (P : Program) (orc : FuncId → List Value → Heap → Option (Value × Heap)) : Nat → Rec
  | 0 => fun _ _ _ _ => none
  | n + 1 => fsStepX P orc (fsCodeX P orc n)
theorem HR.low {ρ : Ren} {S : Nat → Prop} {h : Heap} {w : World} (hr : HR P ρ S B w0 h w) (l : Nat) : HR P ρ S B w0 { next := h.next, low := l, objs := h.objs } w :=
  { objs := hr.objs, inj := hr.inj, base := hr.base, ro := hr.ro, ids := hr.ids, pos := hr.pos, below := hr.below, drawn := hr.drawn, size := hr.size }
theorem Moved.lowered {ρ ρ' : Ren} {S : Nat → Prop} {h h' : Heap} {w w' : World} {l : Nat} (m : Moved P B w0 ρ ρ' S { next := h.next, low := l, objs := h.objs } h' w w') :
    Moved P B w0 ρ ρ' S h { next := h'.next, low := min h.low h'.low, objs := h'.objs } w w' where
  agree := m.agree
  next := m.next
  hr := m.hr.low _
  frame := ⟨m.frame.os, m.frame.tape, m.frame.output, m.frame.size, m.frame.block⟩
  low := Nat.min_le_left _ _
  keep := fun i hi hl => m.keep i hi (Nat.lt_of_lt_of_le hl (Nat.min_le_right _ _))
  old := m.old
  fresh := fun i o ho hi => by
    obtain ⟨h1, h2⟩ := m.fresh i o ho hi; refine ⟨h1, ?_⟩; rcases h2 with h2 | ⟨j, oj, h3, h4, h5, h6, h7⟩
    · exact .inl h2
    exact .inr ⟨j, oj, h3, h4, h5, Nat.le_trans (Nat.min_le_right _ _) h6, h7⟩
theorem stepX_sound (hP : ProgOk P) {orc : FuncId → List Value → Heap → Option (Value × Heap)} (horc : CallSound P B w0 orc) {m : Nat} {rec : Rec} (hrec : SoundR P B w0 m rec) : SoundR P B w0 (m + 1) (fsStepX P orc rec) := by
  have hcs : CallSnd P B w0 (callOf P orc rec) := call_sound hP horc hrec; have hys : YieldSound P B w0 (fsYield rec) := yield_sound hrec; have hold := step_sound hP horc hrec; intro rnd c fr h e fr' h' hok hf
  cases c with
  | region id ops draw =>
    cases draw with
    | false => exact hold rnd _ fr h e fr' h' hok hf
    | true =>
      intro ρ S w a nn Q hr ht hm hs k; simp only [fsStepX] at hf; split at hf
      · rename_i s hrun; simp only [Option.some.injEq, Prod.mk.injEq] at hf; obtain ⟨rfl, rfl, rfl⟩ := hf; refine wpIn_region_draw fun t => ?_; rw [hP.mixed]; exact drawn_wpX (h0 := { next := h.next, low := h.next, objs := h.objs }) (call := callOf P orc rec) (yield := fsYield rec) hcs hys hok hrun ((hr.drew _).low _) ht (fun ρ1 w1 a1 m1 ht1 hd1 => k _ _ _ ⟨(Moved.ofDrew m1).lowered, ht1, by rw [hd1]; exact hm.mono fun b hb => ⟨.inl hb, m1.agree b hb⟩⟩) t
      split at hf
      · rename_i s hrun; simp only [Option.some.injEq, Prod.mk.injEq] at hf; obtain ⟨rfl, rfl, rfl⟩ := hf; refine wpIn_region_draw fun t => ?_; rw [hP.mixed]; exact drawn_wpY (h0 := { next := h.next, low := h.next, objs := h.objs }) (call := callOf P orc rec) (yield := fsYield rec) hcs hys hok hrun ((hr.drew _).low _) ht (fun ρ1 w1 a1 m1 ht1 hd1 => k _ _ _ ⟨(Moved.ofDrew m1).lowered, ht1, by rw [hd1]; exact hm.mono fun b hb => ⟨.inl hb, m1.agree b hb⟩⟩) t
      exact hold rnd _ fr h e fr' h' hok hf ρ S w a nn Q hr ht hm hs k
  | _ => exact hold rnd _ fr h e fr' h' hok hf
theorem codeX_sound (hP : ProgOk P) {orc : FuncId → List Value → Heap → Option (Value × Heap)} (horc : CallSound P B w0 orc) : ∀ m, SoundR P B w0 m (fsCodeX P orc m)
  | 0 => fun rnd c fr h e fr' h' _ hf => by cases hf
  | m + 1 => stepX_sound hP horc (codeX_sound hP horc m)
end Go.Fs
namespace Go.Fs
variable {P : Program} {orc : FuncId → List Value → Heap → Option (Value × Heap)}
def runPre (P : Program) (orc : FuncId → List Value → Heap → Option (Value × Heap)) : Nat → Nat → Code → Fr → Heap → Option (Nat × Code × Fr × Heap)
  | 0, n, c, fr, h => some (n, c, fr, h)
  | k + 1, n, c, fr, h => match n, c with
    | n + 1, .seq a b => match fsCodeX P orc n none a fr h with
      | some (.normal, fr1, h1) => runPre P orc k n b fr1 h1
      | _ => none
    | _, _ => none
def endV (P : Program) (fn : Func) (h : Heap) (x : Ex × Fr × Heap) : Option Value :=
  bif x.1.goes then
    match dropMarks x.2.1.marks x.2.2 with
    | some h2 => (fsResults P x.2.1.t h2 fn.results.toList).map tupled
    | none => none
  else none
theorem enter_map {rec : Rec} {f : FuncId} {args : List Value} {h : Heap} {fn : Func} {c : Code} (hf : P.funcs[f]? = some fn) (hc : fn.body = some c) (hn : (Nat.blt 4000 fn.ntmps || Nat.blt fn.ntmps args.length) = false) :
    (fsEnter P rec f args h).map (·.1) = (rec none c ⟨fillTr .leaf 0 args, fn.ntmps, []⟩ { next := h.next, low := h.next, objs := h.objs }).bind (endV P fn h) := by
  unfold fsEnter fsEnterK endV; simp only [hf, hc, hn, cond_false]
  cases rec none c ⟨fillTr .leaf 0 args, fn.ntmps, []⟩ { next := h.next, low := h.next, objs := h.objs } with
  | none => rfl
  | some x =>
    obtain ⟨e, fr, h1⟩ := x; simp only [Option.bind_some]
    cases e.goes with
    | false => rfl
    | true =>
      simp only [cond_true]
      cases dropMarks fr.marks h1 with
      | none => rfl
      | some h2 =>
        simp only
        cases fsResults P fr.t h2 fn.results.toList with
        | none => rfl
        | some vs =>
          simp only [Option.map_some]; generalize (!false && (af (tupled vs) && Nat.ble h.next h2.low)) = q; cases q <;> rfl
def sufx : Nat → Code → Code
  | 0, c => c
  | k + 1, .seq _ b => sufx k b
  | _ + 1, c => c
end Go.Fs
namespace Go.Fs
open Go.RowKit (Below)
variable {P : Program}
def gv : Value → Bool
  | .func (.func _) ⟨[]⟩ ⟨[]⟩ => true
  | v => af0 v
theorem VR.of_gv {ρ : Ren} {S : Nat → Prop} {v : Value} (h : gv v = true) : VR ρ S v v := by
  unfold gv at h; split at h
  · exact .func _ _ _ _ _ rfl (fun i h => absurd h (by simp)) rfl (fun i h => absurd h (by simp))
  exact .lit h
def gHeap (n : Nat) (L : List (Nat × TypeId × List Value)) : Heap := ⟨n, n, L.map fun x => (x.1 + 1, .row x.2.1 x.2.2 false true)⟩
def globR (P : Program) : Ren := fun b => Loc.clean (b - 1) 0 0 (P.cellsOf (((P.globals[b - 1]?).map (·.type)).getD 0))
structure GlobW (P : Program) (B : Nat) (w : World) (x : Nat × TypeId × List Value) : Prop where
  type : (P.globals[x.1]?).map (·.type) = some x.2.1
  only : ∀ (g : Nat) gl, P.globals[g]? = some gl → gl.type = x.2.1 → g = x.1
  block : x.1 < B
  cells : ∀ i, i < x.2.2.length → w.cell? ⟨x.1, i, none⟩ = some (x.2.2.getD i undef)
  vals : x.2.2.all gv = true
theorem GlobW.below {B : Nat} {w w' : World} {x : Nat × TypeId × List Value} (h : GlobW P B w x) (hb : Below B w w') : GlobW P B w' x :=
  ⟨h.type, h.only, h.block, fun i hi => (World.cell?_of_block (a := ⟨x.1, i, none⟩) (hb.block _ h.block)).trans (h.cells i hi), h.vals⟩
theorem gHeap_get {n : Nat} : ∀ {L : List (Nat × TypeId × List Value)} {i : Nat} {o : AObj}, (gHeap n L).get i = some o → ∃ x ∈ L, i = x.1 + 1 ∧ o = .row x.2.1 x.2.2 false true
  | [], i, o, h => by cases h
  | x :: L, i, o, h => by
    simp only [gHeap, Heap.get, List.map_cons, look] at h
    cases hb : Nat.beq (x.1 + 1) i with
    | true =>
      rw [hb] at h
      exact ⟨x, List.mem_cons_self, (nbeq hb).symm, (Option.some.inj h).symm⟩
    | false =>
      rw [hb] at h; obtain ⟨y, hy, h1, h2⟩ := gHeap_get (n := n) (L := L) (i := i) (o := o) h; exact ⟨y, List.mem_cons_of_mem _ hy, h1, h2⟩
theorem gHeap_hr {w : World} {n : Nat} {L : List (Nat × TypeId × List Value)} (hn : ∀ x ∈ L, x.1 + 1 < n) (hp : 0 < n) (hL : ∀ x ∈ L, GlobW P w.heap.size w x) :
    HR P (globR P) (fun b => ∃ x ∈ L, b = x.1 + 1) w.heap.size (wz w) (gHeap n L) w where
  objs := fun i o hi => by
    obtain ⟨x, hx, rfl, rfl⟩ := gHeap_get hi; have h := hL x hx; refine ⟨⟨x, hx, rfl⟩, ?_, fun j hj => ?_, fun _ g gl h1 h2 => ?_⟩
    · show P.cellsOf (((P.globals[x.1 + 1 - 1]?).map (·.type)).getD 0) = _; rw [Nat.add_sub_cancel, h.type]; rfl
    · refine ⟨x.2.2.getD j undef, ?_, .of_gv (List.all_eq_true.1 h.vals _ (mem_getD hj))⟩; show w.cell? ⟨x.1 + 1 - 1, 0 + j, none⟩ = _; rw [Nat.add_sub_cancel, Nat.zero_add]; exact h.cells j hj
    exact ⟨(h.only g gl h1 h2).symm, rfl⟩
  inj := fun i j oi oj hi _ ho => by
    obtain ⟨x, hx, rfl, rfl⟩ := gHeap_get hi; cases ho
  base := fun i o hi ho => by
    obtain ⟨x, hx, rfl, rfl⟩ := gHeap_get hi; cases ho
  ro := fun i o hi _ => by
    obtain ⟨x, hx, rfl, rfl⟩ := gHeap_get hi; exact (hL x hx).block
  ids := fun b ⟨x, hx, hb⟩ => by
    subst hb; exact ⟨hn x hx, Nat.succ_ne_zero _⟩
  pos := hp
  below := z_below (Below.refl _ _)
  drawn := Nat.zero_le _
  size := Nat.le_refl _
end Go.Fs
namespace Go.Fs
open Go.RowKit (Below)
variable {P : Program} {ρ ρ' : Ren} {S S' : Nat → Prop} {B : Nat} {w0 w w' w1 w2 : World} {h h' h1 h2 : Heap}
def gcL (n0 : Nat) (keep : List Nat) : List (Nat × AObj) → List (Nat × AObj)
  | [] => []
  | x :: r => bif Nat.blt x.1 n0 || keep.any (Nat.beq x.1) then x :: gcL n0 keep r else gcL n0 keep r
def gcH (n0 : Nat) (keep : List Nat) (h : Heap) : Heap := ⟨h.next, h.low, gcL n0 keep h.objs⟩
theorem gc_some {n0 : Nat} {keep : List Nat} {i : Nat} {o : AObj} : ∀ {L : List (Nat × AObj)}, look (gcL n0 keep L) i = some o → look L i = some o
  | [], h => h
  | x :: L, h => by
    unfold gcL at h
    cases hk : (Nat.blt x.1 n0 || keep.any (Nat.beq x.1)) with
    | true =>
      rw [hk] at h; simp only [cond_true, look] at h ⊢
      cases hb : Nat.beq x.1 i with
      | true => rw [hb] at h; exact h
      | false => rw [hb] at h; exact gc_some h
    | false =>
      rw [hk] at h; simp only [cond_false] at h; simp only [look]
      cases hb : Nat.beq x.1 i with
      | false => exact gc_some h
      | true =>
        exfalso; have e := nbeq hb
        have hno : ∀ {L : List (Nat × AObj)}, look (gcL n0 keep L) i = none := by
          intro L
          induction L with
          | nil => rfl
          | cons y L ih =>
            unfold gcL
            cases hk2 : (Nat.blt y.1 n0 || keep.any (Nat.beq y.1)) with
            | false => exact ih
            | true =>
              simp only [cond_true, look]
              cases hb2 : Nat.beq y.1 i with
              | false => exact ih
              | true => rw [nbeq hb2, ← e, hk] at hk2; cases hk2
        rw [hno] at h; cases h
theorem gc_low {n0 : Nat} {keep : List Nat} {i : Nat} (hi : i < n0) : ∀ {L : List (Nat × AObj)}, look (gcL n0 keep L) i = look L i
  | [] => rfl
  | x :: L => by
    unfold gcL
    cases hb : Nat.beq x.1 i with
    | true =>
      have hx : Nat.blt x.1 n0 = true := by rw [nbeq hb]; show Nat.ble (i + 1) n0 = true; rw [Nat.ble_eq]; omega
      simp only [hx, Bool.true_or, cond_true, look, hb]
    | false =>
      cases hk : (Nat.blt x.1 n0 || keep.any (Nat.beq x.1)) with
      | true => simp only [cond_true, look, hb, cond_false]; exact gc_low hi
      | false => simp only [cond_false, look, hb]; exact gc_low hi
theorem HR.gc {n0 : Nat} {keep : List Nat} (hr : HR P ρ S B w0 h w) : HR P ρ S B w0 (gcH n0 keep h) w :=
  { objs := fun i o hi => hr.objs i o (gc_some hi), inj := fun i j oi oj hi hj => hr.inj i j oi oj (gc_some hi) (gc_some hj), base := fun i o hi => hr.base i o (gc_some hi), ro := fun i o hi => hr.ro i o (gc_some hi), ids := hr.ids, pos := hr.pos,
    below := hr.below, drawn := hr.drawn, size := hr.size }
theorem Moved.gc {n0 : Nat} {keep : List Nat} (hn : h.next ≤ n0) (m : Moved P B w0 ρ ρ' S h h1 w w1) : Moved P B w0 ρ ρ' S h (gcH n0 keep h1) w w1 where
  agree := m.agree
  next := m.next
  hr := m.hr.gc
  frame := m.frame
  low := m.low
  keep := fun i hi hl => (gc_low (by omega)).trans (m.keep i hi hl)
  old := fun i o hi hl => m.old i o (gc_some hi) hl
  fresh := fun i o hi hl => m.fresh i o (gc_some hi) hl
def runG (P : Program) (orc : FuncId → List Value → Heap → Option (Value × Heap)) (n0 : Nat) : List (Nat × List Nat) → Nat → Code → Fr → Heap → Option (Ex × Fr × Heap)
  | [], n, c, fr, h => fsCodeX P orc n none c fr h
  | (k, keep) :: ks, n, c, fr, h => match runPre P orc k n c fr h with
    | some (n1, c1, fr1, h1) => runG P orc n0 ks n1 c1 fr1 (gcH n0 keep h1)
    | none => none
theorem pre_sound (hP : ProgOk P) {orc : FuncId → List Value → Heap → Option (Value × Heap)} (horc : CallSound P B w0 orc) : ∀ {k n : Nat} {c : Code} {fr : Fr} {h : Heap} {n1 : Nat} {c1 : Code} {fr1 : Fr} {h1 : Heap}, codeOk c = true → runPre P orc k n c fr h = some (n1, c1, fr1, h1) →
    codeOk c1 = true ∧ ∀ {ρ : Ren} {S : Nat → Prop} {w : World} {a : Act} {nn : Nat} {Q : Exit → Act → World → Prop}, HR P ρ S B w0 h w → TrR ρ S fr.t fr.n a.tmps → MarksR ρ S fr.marks a.defers →
      (∀ ρ' w' a', Post P B w0 ρ ρ' S h w fr1 h1 w' a' → c1.wpIn (Wide none) nn P Q a' w') → c.wpIn (Wide none) nn P Q a w
  | 0, n, c, fr, h, n1, c1, fr1, h1, hok, hr => by
    simp only [runPre, Option.some.injEq, Prod.mk.injEq] at hr; obtain ⟨rfl, rfl, rfl, rfl⟩ := hr
    exact ⟨hok, fun hR ht hm k => k _ _ _ ⟨Moved.same hR, ht.mono fun b hb => ⟨.inl hb, rfl⟩, hm.mono fun b hb => ⟨.inl hb, rfl⟩⟩⟩
  | k + 1, n, c, fr, h, n1, c1, fr1, h1, hok, hr => by
    simp only [runPre] at hr; split at hr
    · rename_i n x y; split at hr
      · rename_i fr2 h2 hx; obtain ⟨ok1, ok2⟩ := band (show (codeOk x && codeOk y) = true from hok); obtain ⟨g1, g2⟩ := pre_sound hP horc ok2 hr; refine ⟨g1, fun {ρ S w a nn Q} hR ht hm kk => wpIn_seq ?_⟩; refine (codeX_sound hP horc n none x fr h _ fr2 h2 ok1 hx ρ S w a nn _ hR ht hm (fun l hl => by cases hl) fun ρ1 w1 a1 p1 => ?_).wpIn; show y.wpIn (Wide none) nn P Q a1 w1; exact g2 p1.moved.hr p1.tmps p1.marks fun ρ2 w2 a2 p2 => kk _ _ _ (Post.trans (fr1 := fr2) (a1 := a1) p1.moved p2)
      cases hr
    cases hr
theorem runG_sound (hP : ProgOk P) {orc : FuncId → List Value → Heap → Option (Value × Heap)} (horc : CallSound P B w0 orc) {n0 : Nat} : ∀ {ks : List (Nat × List Nat)} {n : Nat} {c : Code} {fr : Fr} {h : Heap} {e : Ex} {fr' : Fr} {h' : Heap}, codeOk c = true → runG P orc n0 ks n c fr h = some (e, fr', h') →
    ∀ {g : Heap} {ρ0 ρ : Ren} {S : Nat → Prop} {w w' : World} {a : Act} {nn : Nat} {Q : Exit → Act → World → Prop}, g.next ≤ n0 → Moved P B w0 ρ0 ρ S g h w w' → TrR ρ (Ext S g h) fr.t fr.n a.tmps → MarksR ρ (Ext S g h) fr.marks a.defers →
      (∀ ρ' w2 a', Post P B w0 ρ0 ρ' S g w fr' h' w2 a' → Q (exOf e) a' w2) → c.wpIn (Wide none) nn P Q a w'
  | [], n, c, fr, h, e, fr', h', hok, hr, g, ρ0, ρ, S, w, w', a, nn, Q, hg, m, ht, hm, k =>
    (codeX_sound hP horc n none c fr h e fr' h' hok hr ρ _ w' a nn Q m.hr ht hm (fun l hl => by cases hl) fun ρ1 w1 a1 p1 => k _ _ _ (Post.trans (fr1 := fr) (a1 := a) m p1)).wpIn
  | (j, keep) :: ks, n, c, fr, h, e, fr', h', hok, hr, g, ρ0, ρ, S, w, w', a, nn, Q, hg, m, ht, hm, k => by
    simp only [runG] at hr; split at hr
    · rename_i n1 c1 fr1 h1 hx; obtain ⟨g1, g2⟩ := pre_sound hP horc hok hx; refine g2 m.hr ht hm fun ρ1 w1 a1 p1 => ?_; have q := Post.trans (fr1 := fr) (a1 := a) m p1; exact runG_sound hP horc g1 hr hg (q.moved.gc hg) q.tmps q.marks k
    cases hr
def fsG (P : Program) (orc : FuncId → List Value → Heap → Option (Value × Heap)) (n0 n : Nat) (ks : List (Nat × List Nat)) : Rec := fun rnd c fr h =>
  match rnd, c with
  | none, .seq x y => bif Nat.ble h.next n0 then runG P orc n0 ks n (.seq x y) fr h else none
  | _, _ => none
def isSeq : Code → Bool
  | .seq _ _ => true
  | _ => false
theorem fsG_eq {orc : FuncId → List Value → Heap → Option (Value × Heap)} {n0 n : Nat} {ks : List (Nat × List Nat)} {c : Code} {fr : Fr} {h : Heap} (hc : isSeq c = true) (hn : Nat.ble h.next n0 = true) : fsG P orc n0 n ks none c fr h = runG P orc n0 ks n c fr h := by
  cases c with
  | seq x y =>
    show (bif Nat.ble h.next n0 then _ else _) = _
    rw [hn]; rfl
  | _ => cases hc
theorem fsG_sound (hP : ProgOk P) {orc : FuncId → List Value → Heap → Option (Value × Heap)} (horc : CallSound P B w0 orc) {n0 n : Nat} {ks : List (Nat × List Nat)} : SoundR P B w0 0 (fsG P orc n0 n ks) := by
  intro rnd c fr h e fr' h' hok hf ρ S w a nn Q hr ht hm hs k; unfold fsG at hf; split at hf
  · rename_i x y; obtain ⟨hn, hq⟩ := bif_some hf; show Code.wpIn (Wide none) nn P (.seq x y) Q a w; exact runG_sound hP horc hok hq (nble hn) (Moved.same hr) (ht.mono fun b hb => ⟨.inl hb, rfl⟩) (hm.mono fun b hb => ⟨.inl hb, rfl⟩) k
  cases hf
theorem run_viaG {orc : FuncId → List Value → Heap → Option (Value × Heap)} {n0 k n : Nat} {keep : List Nat} {ks : List (Nat × List Nat)} {c : Code} {fr : Fr} {h : Heap} {n' : Nat} {c' : Code} {fr' : Fr} {h' : Heap} (hr : (runPre P orc k n c fr h).map (fun x => (x.1, x.2.1, x.2.2.1, gcH n0 keep x.2.2.2)) = some (n', c', fr', h')) : runG P orc n0 ((k, keep) :: ks) n c fr h = runG P orc n0 ks n' c' fr' h' := by
  simp only [runG]
  cases hx : runPre P orc k n c fr h with
  | none => rw [hx] at hr; cases hr
  | some x =>
    obtain ⟨n1, c1, fr1, h1⟩ := x; rw [hx] at hr; simp only [Option.map_some, Option.some.injEq, Prod.mk.injEq] at hr; obtain ⟨rfl, rfl, rfl, rfl⟩ := hr; rfl
theorem gcG_closed (hP : ProgOk P) {w : World} {orc : FuncId → List Value → Heap → Option (Value × Heap)} (horc : CallSound P w.heap.size (wz w) orc) {ρ : Ren} {S : Nat → Prop} {g : Heap} (hr : HR P ρ S w.heap.size (wz w) g w) {n0 n : Nat} {ks : List (Nat × List Nat)} {f : FuncId} {args : List Value} {v : Value} (ha : args.all af = true)
    (hf : (fsEnter P (fsG P orc n0 n ks) f args g).map (·.1) = some v) (hv : af v = true) :
    Calls P f args.toArray w fun | .returned v', w' => v' = v ∧ Below w.heap.size w w' | _, _ => False := by
  obtain ⟨⟨v0, h1⟩, h2, h3⟩ := Option.map_eq_some_iff.1 hf; simp only at h3; subst h3; have hc := ((enter_sound hP (fsG_sound hP horc)) f args _ _ _ h2).2 _ _ w args hr ⟨rfl, fun i hi => .of_af (List.all_eq_true.1 ha _ (mem_getD hi))⟩ 0; refine Calls.mono (callsIn_wide.1 hc) fun e w' he => ?_
  cases e with
  | returned v' =>
    obtain ⟨ρ', m1, hv1⟩ := he
    exact ⟨hv1.eq_of_af hv, below_z m1.hr.below⟩
  | panicked c => exact he.elim
  | outgrown => exact he.elim
theorem awakeGc_calls (hP : ProgOk P) {B : Nat} {w0 : World} {O : FuncId → List Value → Heap → Option (Value × Heap)} {fa : FuncId} {n : Nat} {L : List (Nat × TypeId × List Value)} (hn : ∀ x ∈ L, x.1 + 1 < n) (hp : 0 < n) (hL : ∀ x ∈ L, GlobW P B w0 x) (hB : ∀ w, Below B w0 w → B ≤ w.heap.size) (hS : ∀ w, Below B w0 w → CallSound P w.heap.size (wz w) O) {n0 m : Nat} {ks : List (Nat × List Nat)}
    (hrun : (fsEnter P (fsG P O n0 m ks) fa [] (gHeap n L)).map (·.1) = some (.bool true)) (w : World) (hw : Below B w0 w) :
    Calls P fa #[] w fun | .returned v', w' => v' = .bool true ∧ Below w.heap.size w w' | _, _ => False :=
  gcG_closed hP (hS w hw) (gHeap_hr hn hp fun x hx => let h := (hL x hx).below hw; ⟨h.type, h.only, Nat.lt_of_lt_of_le h.block (hB w hw), h.cells, h.vals⟩) (args := []) rfl hrun rfl
end Go.Fs
namespace Go.Fs
open Go.RowKit (Below)
variable {P : Program} {B : Nat} {w0 : World}
theorem orcI_sound {fi : FuncId} (hz : w0.drawn = 0) (hi : Enters P fi)
    (hI : ∀ (n : Int) (w : World), Below B w0 w → -9223372036854775808 ≤ n → n ≤ 9223372036854775807 → Calls P fi #[.int .i64 n] w fun e w' => e = .returned (.string ⟨(Lib.itoa n).toArray⟩) ∧ Below w.heap.size w w') : CallSound P B w0 (orcS fi fi) := by
  intro f xs h v h' hf; unfold orcS at hf
  cases hfi : Nat.beq f fi with
  | true =>
    have := nbeq hfi; subst this; rw [hfi] at hf; simp only [cond_true] at hf; split at hf
    · rename_i n; obtain ⟨hc, hf2⟩ := bif_some hf; obtain ⟨h0, h1⟩ := band hc; have h0 := of_decide_eq_true h0; have h1 := of_decide_eq_true h1; simp only [Option.some.injEq, Prod.mk.injEq] at hf2; obtain ⟨rfl, rfl⟩ := hf2; refine ⟨hi, fun ρ S w args' hr ha nn => ?_⟩; have he : args' = [.int .i64 n] := ha.eq_of_af (by rfl); subst he; have hC : CallsIn Fence.wide nn P f #[.int .i64 n] w _ := callsIn_wide.2 (hI n w hr.below (by omega) (by omega)); refine hC.mono fun e w' hret => ?_; obtain ⟨rfl, hb⟩ := hret; exact ⟨ρ, Moved.grewWorld hr hb (by rw [hz]; exact Nat.zero_le _), by rw [itoaF_eq h0 h1]; exact .lit rfl⟩
    cases hf
  | false =>
    rw [hfi] at hf; simp only [cond_false] at hf; cases hf
end Go.Fs
namespace Go.Proofs
open Go.Shelf
def Tryz.laysM243_ren : Go.Shelf.Ren := ⟨fun | 243 => 96 | 246 => 120 | 283 => 150 | 284 => 151 | 285 => 152 | 286 => 153 | 129 => 146 | 317 => 185 | 318 => 186 | 319 => 187 | 320 => 188 | 337 => 203 | 338 => 204 | n => n, fun | 3 => 3 | 9 => 9 | 2 => 2 | 4 => 4 | 171 => 207 | 0 => 0 | 53 => 202 | 37 => 26 | 5 => 5 | 173 => 209 | 212 => 239 | 51 => 83 | 20 => 20 | 213 => 240 | 46 => 144 | 232 => 260 | 233 => 261 | n => n, fun | 17 => 2 | 18 => 5 | 19 => 6 | n => n⟩
theorem Tryz.laysM243 : Go.Proofs.LaysM.n243 Tryz.prog Tryz.laysM243_ren := {
  mixed := by kernel_rfl
  f129 := Tryz.func146.trans (congrArg some (by kernel_rfl))
  f243 := Tryz.func96.trans (congrArg some (by kernel_rfl))
  f246 := Tryz.func120.trans (congrArg some (by kernel_rfl))
  f283 := Tryz.func150.trans (congrArg some (by kernel_rfl))
  f284 := Tryz.func151.trans (congrArg some (by kernel_rfl))
  f285 := Tryz.func152.trans (congrArg some (by kernel_rfl))
  f286 := Tryz.func153.trans (congrArg some (by kernel_rfl))
  f317 := Tryz.func185.trans (congrArg some (by kernel_rfl))
  f318 := Tryz.func186.trans (congrArg some (by kernel_rfl))
  f319 := Tryz.func187.trans (congrArg some (by kernel_rfl))
  f320 := Tryz.func188.trans (congrArg some (by kernel_rfl))
  f337 := Tryz.func203.trans (congrArg some (by kernel_rfl))
  f338 := Tryz.func204.trans (congrArg some (by kernel_rfl))
  t0 := Tryz.underlying0
  a0 := Tryz.isAgg0
  z0 := Tryz.sizeOf0
  v0 := Tryz.zeroValue0
  t2 := Tryz.underlying2
  a2 := Tryz.isAgg2
  z2 := Tryz.sizeOf2
  v2 := Tryz.zeroValue2
  t3 := Tryz.underlying3
  a3 := Tryz.isAgg3
  z3 := Tryz.sizeOf3
  v3 := Tryz.zeroValue3
  t4 := Tryz.underlying4
  a4 := Tryz.isAgg4
  z4 := Tryz.sizeOf4
  v4 := Tryz.zeroValue4
  t5 := Tryz.underlying5
  a5 := Tryz.isAgg5
  z5 := Tryz.sizeOf5
  v5 := Tryz.zeroValue5
  t9 := Tryz.underlying9
  a9 := Tryz.isAgg9
  z9 := Tryz.sizeOf9
  v9 := Tryz.zeroValue9
  t20 := Tryz.underlying20
  a20 := Tryz.isAgg20
  z20 := Tryz.sizeOf20
  v20 := Tryz.zeroValue20
  t37 := Tryz.underlying26
  a37 := Tryz.isAgg26
  z37 := Tryz.sizeOf26
  v37 := Tryz.zeroValue26
  t46 := Tryz.underlying144
  a46 := Tryz.isAgg144
  z46 := Tryz.sizeOf144
  v46 := Tryz.zeroValue144
  t51 := Tryz.underlying83
  a51 := Tryz.isAgg83
  z51 := Tryz.sizeOf83
  v51 := Tryz.zeroValue83
  t53 := Tryz.underlying202
  a53 := Tryz.isAgg202
  z53 := Tryz.sizeOf202
  v53 := Tryz.zeroValue202
  t171 := Tryz.underlying207
  a171 := Tryz.isAgg207
  z171 := Tryz.sizeOf207
  v171 := Tryz.zeroValue207
  t173 := Tryz.underlying209
  a173 := Tryz.isAgg209
  z173 := Tryz.sizeOf209
  v173 := Tryz.zeroValue209
  t212 := Tryz.underlying239
  a212 := Tryz.isAgg239
  z212 := Tryz.sizeOf239
  v212 := Tryz.zeroValue239
  t213 := Tryz.underlying240
  a213 := Tryz.isAgg240
  z213 := Tryz.sizeOf240
  t232 := Tryz.underlying260
  a232 := Tryz.isAgg260
  z232 := Tryz.sizeOf260
  v232 := Tryz.zeroValue260
  t233 := Tryz.underlying261
  a233 := Tryz.isAgg261
  z233 := Tryz.sizeOf261
  v233 := Tryz.zeroValue261
  g17 := by kernel_rfl
  g18 := by kernel_rfl
  g19 := by kernel_rfl
  i0 := by kernel_rfl
  i2 := by kernel_rfl
  i3 := by kernel_rfl
  i4 := by kernel_rfl
  i5 := by kernel_rfl
  i9 := by kernel_rfl
  i20 := by kernel_rfl
  i37 := by kernel_rfl
  i46 := by kernel_rfl
  i51 := by kernel_rfl
  i53 := by kernel_rfl
  i171 := by kernel_rfl
  i173 := by kernel_rfl
  i212 := by kernel_rfl
  i232 := by kernel_rfl
  i233 := by kernel_rfl
  m17 := by kernel_rfl
  m18 := by kernel_rfl
  m19 := by kernel_rfl }
open Go.RowKit Go.Sort Go.Lib in
/-- internal/strconv.Itoa: "Itoa is equivalent to FormatInt(int64(i), 10).": i's decimal numeral, for every int. (LAID: no walk: one application.) -/
theorem Tryz.internal_strconv_Itoa (n : Int) (h0 : -9223372036854775808 ≤ n) (h1 : n ≤ 9223372036854775807) (w : World) (htab : Lib.TabIs Tryz.prog w "internal/strconv.uint64pow10" .u64 Lib.pow10Tab) :
    Calls Tryz.prog 96 #[.int .i64 n] w fun e w' => e = .returned (.string ⟨(Lib.itoa n).toArray⟩) ∧ ∃ k os, w' = grow (w.drewN k) os := Any.internal_strconv_Itoa Tryz.laysM243 n h0 h1 w htab
def Tryz.laysM171_ren : Go.Shelf.Ren := ⟨fun | 171 => 55 | 243 => 96 | 246 => 120 | 283 => 150 | 284 => 151 | 285 => 152 | 286 => 153 | 129 => 146 | 317 => 185 | 318 => 186 | 319 => 187 | 320 => 188 | 337 => 203 | 338 => 204 | n => n, fun | 3 => 3 | 9 => 9 | 2 => 2 | 4 => 4 | 171 => 207 | 0 => 0 | 53 => 202 | 37 => 26 | 5 => 5 | 173 => 209 | 212 => 239 | 51 => 83 | 20 => 20 | 213 => 240 | 46 => 144 | 232 => 260 | 233 => 261 | n => n, fun | 17 => 2 | 18 => 5 | 19 => 6 | n => n⟩
theorem Tryz.laysM171 : Go.Proofs.LaysM.n171 Tryz.prog Tryz.laysM171_ren := {
  mixed := by kernel_rfl
  f129 := Tryz.func146.trans (congrArg some (by kernel_rfl))
  f171 := Tryz.func55.trans (congrArg some (by kernel_rfl))
  f243 := Tryz.func96.trans (congrArg some (by kernel_rfl))
  f246 := Tryz.func120.trans (congrArg some (by kernel_rfl))
  f283 := Tryz.func150.trans (congrArg some (by kernel_rfl))
  f284 := Tryz.func151.trans (congrArg some (by kernel_rfl))
  f285 := Tryz.func152.trans (congrArg some (by kernel_rfl))
  f286 := Tryz.func153.trans (congrArg some (by kernel_rfl))
  f317 := Tryz.func185.trans (congrArg some (by kernel_rfl))
  f318 := Tryz.func186.trans (congrArg some (by kernel_rfl))
  f319 := Tryz.func187.trans (congrArg some (by kernel_rfl))
  f320 := Tryz.func188.trans (congrArg some (by kernel_rfl))
  f337 := Tryz.func203.trans (congrArg some (by kernel_rfl))
  f338 := Tryz.func204.trans (congrArg some (by kernel_rfl))
  t0 := Tryz.underlying0
  a0 := Tryz.isAgg0
  z0 := Tryz.sizeOf0
  v0 := Tryz.zeroValue0
  t2 := Tryz.underlying2
  a2 := Tryz.isAgg2
  z2 := Tryz.sizeOf2
  v2 := Tryz.zeroValue2
  t3 := Tryz.underlying3
  a3 := Tryz.isAgg3
  z3 := Tryz.sizeOf3
  v3 := Tryz.zeroValue3
  t4 := Tryz.underlying4
  a4 := Tryz.isAgg4
  z4 := Tryz.sizeOf4
  v4 := Tryz.zeroValue4
  t5 := Tryz.underlying5
  a5 := Tryz.isAgg5
  z5 := Tryz.sizeOf5
  v5 := Tryz.zeroValue5
  t9 := Tryz.underlying9
  a9 := Tryz.isAgg9
  z9 := Tryz.sizeOf9
  v9 := Tryz.zeroValue9
  t20 := Tryz.underlying20
  a20 := Tryz.isAgg20
  z20 := Tryz.sizeOf20
  v20 := Tryz.zeroValue20
  t37 := Tryz.underlying26
  a37 := Tryz.isAgg26
  z37 := Tryz.sizeOf26
  v37 := Tryz.zeroValue26
  t46 := Tryz.underlying144
  a46 := Tryz.isAgg144
  z46 := Tryz.sizeOf144
  v46 := Tryz.zeroValue144
  t51 := Tryz.underlying83
  a51 := Tryz.isAgg83
  z51 := Tryz.sizeOf83
  v51 := Tryz.zeroValue83
  t53 := Tryz.underlying202
  a53 := Tryz.isAgg202
  z53 := Tryz.sizeOf202
  v53 := Tryz.zeroValue202
  t171 := Tryz.underlying207
  a171 := Tryz.isAgg207
  z171 := Tryz.sizeOf207
  v171 := Tryz.zeroValue207
  t173 := Tryz.underlying209
  a173 := Tryz.isAgg209
  z173 := Tryz.sizeOf209
  v173 := Tryz.zeroValue209
  t212 := Tryz.underlying239
  a212 := Tryz.isAgg239
  z212 := Tryz.sizeOf239
  v212 := Tryz.zeroValue239
  t213 := Tryz.underlying240
  a213 := Tryz.isAgg240
  z213 := Tryz.sizeOf240
  t232 := Tryz.underlying260
  a232 := Tryz.isAgg260
  z232 := Tryz.sizeOf260
  v232 := Tryz.zeroValue260
  t233 := Tryz.underlying261
  a233 := Tryz.isAgg261
  z233 := Tryz.sizeOf261
  v233 := Tryz.zeroValue261
  g17 := by kernel_rfl
  g18 := by kernel_rfl
  g19 := by kernel_rfl
  i0 := by kernel_rfl
  i2 := by kernel_rfl
  i3 := by kernel_rfl
  i4 := by kernel_rfl
  i5 := by kernel_rfl
  i9 := by kernel_rfl
  i20 := by kernel_rfl
  i37 := by kernel_rfl
  i46 := by kernel_rfl
  i51 := by kernel_rfl
  i53 := by kernel_rfl
  i171 := by kernel_rfl
  i173 := by kernel_rfl
  i212 := by kernel_rfl
  i232 := by kernel_rfl
  i233 := by kernel_rfl
  m17 := by kernel_rfl
  m18 := by kernel_rfl
  m19 := by kernel_rfl }
open Go.RowKit Go.Sort Go.Lib in
/-- strconv.Itoa: "Itoa is equivalent to FormatInt(int64(i), 10).": i's DECIMAL NUMERAL ('Lib.itoa': a '-' where i is negative, then the digits), FOR EVERY int. The world behind the call: the world before it, new blocks behind the heap (the library's 'var a [24]byte'), draws. (LAID: no walk: one application.) -/
theorem Tryz.strconv_Itoa (n : Int) (h0 : -9223372036854775808 ≤ n) (h1 : n ≤ 9223372036854775807) (w : World) (htab : Lib.TabIs Tryz.prog w "internal/strconv.uint64pow10" .u64 Lib.pow10Tab) :
    Calls Tryz.prog 55 #[.int .i64 n] w fun e w' => e = .returned (.string ⟨(Lib.itoa n).toArray⟩) ∧ ∃ k os, w' = grow (w.drewN k) os := Any.strconv_Itoa Tryz.laysM171 n h0 h1 w htab
def Tryz.laysC172_ren : Go.Shelf.Ren := ⟨fun | 172 => 101 | 244 => 124 | 245 => 125 | 247 => 163 | 279 => 164 | 280 => 165 | 281 => 166 | 282 => 167 | 287 => 194 | 316 => 195 | 171 => 55 | 205 => 196 | 321 => 206 | 322 => 207 | 243 => 96 | 246 => 120 | 283 => 150 | 284 => 151 | 285 => 152 | 286 => 153 | 129 => 146 | 317 => 185 | 318 => 186 | 319 => 187 | 320 => 188 | 337 => 203 | 338 => 204 | n => n, fun | 9 => 9 | 3 => 3 | 75 => 101 | 76 => 102 | 4 => 4 | 5 => 5 | 167 => 218 | 37 => 26 | 0 => 0 | 85 => 219 | 2 => 2 | 168 => 221 | 53 => 202 | 175 => 244 | 46 => 144 | 210 => 248 | 127 => 151 | 145 => 258 | 143 => 256 | 21 => 21 | 171 => 207 | 173 => 209 | 212 => 239 | 51 => 83 | 20 => 20 | 213 => 240 | 232 => 260 | 233 => 261 | 80 => 107 | n => n, fun | 15 => 3 | 16 => 4 | 17 => 2 | 18 => 5 | 19 => 6 | n => n⟩
theorem Tryz.laysC172 : Go.Proofs.LaysC.n172 Tryz.prog Tryz.laysC172_ren := {
  mixed := by kernel_rfl
  f129 := Tryz.func146.trans (congrArg some (by kernel_rfl))
  f171 := Tryz.func55.trans (congrArg some (by kernel_rfl))
  f172 := Tryz.func101.trans (congrArg some (by kernel_rfl))
  f205 := Tryz.func196.trans (congrArg some (by kernel_rfl))
  f243 := Tryz.func96.trans (congrArg some (by kernel_rfl))
  f244 := Tryz.func124.trans (congrArg some (by kernel_rfl))
  f245 := Tryz.func125.trans (congrArg some (by kernel_rfl))
  f246 := Tryz.func120.trans (congrArg some (by kernel_rfl))
  f247 := Tryz.func163.trans (congrArg some (by kernel_rfl))
  f279 := Tryz.func164.trans (congrArg some (by kernel_rfl))
  f280 := Tryz.func165.trans (congrArg some (by kernel_rfl))
  f281 := Tryz.func166.trans (congrArg some (by kernel_rfl))
  f282 := Tryz.func167.trans (congrArg some (by kernel_rfl))
  f283 := Tryz.func150.trans (congrArg some (by kernel_rfl))
  f284 := Tryz.func151.trans (congrArg some (by kernel_rfl))
  f285 := Tryz.func152.trans (congrArg some (by kernel_rfl))
  f286 := Tryz.func153.trans (congrArg some (by kernel_rfl))
  f287 := Tryz.func194.trans (congrArg some (by kernel_rfl))
  f316 := Tryz.func195.trans (congrArg some (by kernel_rfl))
  f317 := Tryz.func185.trans (congrArg some (by kernel_rfl))
  f318 := Tryz.func186.trans (congrArg some (by kernel_rfl))
  f319 := Tryz.func187.trans (congrArg some (by kernel_rfl))
  f320 := Tryz.func188.trans (congrArg some (by kernel_rfl))
  f321 := Tryz.func206.trans (congrArg some (by kernel_rfl))
  f322 := Tryz.func207.trans (congrArg some (by kernel_rfl))
  f337 := Tryz.func203.trans (congrArg some (by kernel_rfl))
  f338 := Tryz.func204.trans (congrArg some (by kernel_rfl))
  t0 := Tryz.underlying0
  a0 := Tryz.isAgg0
  z0 := Tryz.sizeOf0
  v0 := Tryz.zeroValue0
  t2 := Tryz.underlying2
  a2 := Tryz.isAgg2
  z2 := Tryz.sizeOf2
  v2 := Tryz.zeroValue2
  t3 := Tryz.underlying3
  a3 := Tryz.isAgg3
  z3 := Tryz.sizeOf3
  v3 := Tryz.zeroValue3
  t4 := Tryz.underlying4
  a4 := Tryz.isAgg4
  z4 := Tryz.sizeOf4
  v4 := Tryz.zeroValue4
  t5 := Tryz.underlying5
  a5 := Tryz.isAgg5
  z5 := Tryz.sizeOf5
  v5 := Tryz.zeroValue5
  t9 := Tryz.underlying9
  a9 := Tryz.isAgg9
  z9 := Tryz.sizeOf9
  v9 := Tryz.zeroValue9
  t20 := Tryz.underlying20
  a20 := Tryz.isAgg20
  z20 := Tryz.sizeOf20
  v20 := Tryz.zeroValue20
  t21 := Tryz.underlying21
  a21 := Tryz.isAgg21
  z21 := Tryz.sizeOf21
  v21 := Tryz.zeroValue21
  t37 := Tryz.underlying26
  a37 := Tryz.isAgg26
  z37 := Tryz.sizeOf26
  v37 := Tryz.zeroValue26
  t46 := Tryz.underlying144
  a46 := Tryz.isAgg144
  z46 := Tryz.sizeOf144
  v46 := Tryz.zeroValue144
  t51 := Tryz.underlying83
  a51 := Tryz.isAgg83
  z51 := Tryz.sizeOf83
  v51 := Tryz.zeroValue83
  t53 := Tryz.underlying202
  a53 := Tryz.isAgg202
  z53 := Tryz.sizeOf202
  v53 := Tryz.zeroValue202
  t75 := Tryz.underlying101
  a75 := Tryz.isAgg101
  z75 := Tryz.sizeOf101
  v75 := Tryz.zeroValue101
  t76 := Tryz.underlying102
  a76 := Tryz.isAgg102
  z76 := Tryz.sizeOf102
  v76 := Tryz.zeroValue102
  t85 := Tryz.underlying219
  a85 := Tryz.isAgg219
  z85 := Tryz.sizeOf219
  v85 := Tryz.zeroValue219
  t127 := Tryz.underlying151
  a127 := Tryz.isAgg151
  z127 := Tryz.sizeOf151
  v127 := Tryz.zeroValue151
  t143 := Tryz.underlying256
  a143 := Tryz.isAgg256
  z143 := Tryz.sizeOf256
  v143 := Tryz.zeroValue256
  t145 := Tryz.underlying258
  a145 := Tryz.isAgg258
  z145 := Tryz.sizeOf258
  v145 := Tryz.zeroValue258
  t167 := Tryz.underlying218
  a167 := Tryz.isAgg218
  z167 := Tryz.sizeOf218
  v167 := Tryz.zeroValue218
  t168 := Tryz.underlying221
  a168 := Tryz.isAgg221
  z168 := Tryz.sizeOf221
  v168 := Tryz.zeroValue221
  t171 := Tryz.underlying207
  a171 := Tryz.isAgg207
  z171 := Tryz.sizeOf207
  v171 := Tryz.zeroValue207
  t173 := Tryz.underlying209
  a173 := Tryz.isAgg209
  z173 := Tryz.sizeOf209
  v173 := Tryz.zeroValue209
  t175 := Tryz.underlying244
  a175 := Tryz.isAgg244
  z175 := Tryz.sizeOf244
  v175 := Tryz.zeroValue244
  t210 := Tryz.underlying248
  a210 := Tryz.isAgg248
  z210 := Tryz.sizeOf248
  v210 := Tryz.zeroValue248
  t212 := Tryz.underlying239
  a212 := Tryz.isAgg239
  z212 := Tryz.sizeOf239
  v212 := Tryz.zeroValue239
  t213 := Tryz.underlying240
  a213 := Tryz.isAgg240
  z213 := Tryz.sizeOf240
  t232 := Tryz.underlying260
  a232 := Tryz.isAgg260
  z232 := Tryz.sizeOf260
  v232 := Tryz.zeroValue260
  t233 := Tryz.underlying261
  a233 := Tryz.isAgg261
  z233 := Tryz.sizeOf261
  v233 := Tryz.zeroValue261
  g15 := by kernel_rfl
  g16 := by kernel_rfl
  g17 := by kernel_rfl
  g18 := by kernel_rfl
  g19 := by kernel_rfl
  t80 := Tryz.underlying107
  a80 := Tryz.isAgg107
  z80 := Tryz.sizeOf107
  v80 := Tryz.zeroValue107
  i0 := by kernel_rfl
  i2 := by kernel_rfl
  i3 := by kernel_rfl
  i4 := by kernel_rfl
  i5 := by kernel_rfl
  i9 := by kernel_rfl
  i20 := by kernel_rfl
  i21 := by kernel_rfl
  i37 := by kernel_rfl
  i46 := by kernel_rfl
  i51 := by kernel_rfl
  i53 := by kernel_rfl
  i75 := by kernel_rfl
  i76 := by kernel_rfl
  i80 := by kernel_rfl
  i85 := by kernel_rfl
  i127 := by kernel_rfl
  i143 := by kernel_rfl
  i145 := by kernel_rfl
  i167 := by kernel_rfl
  i168 := by kernel_rfl
  i171 := by kernel_rfl
  i173 := by kernel_rfl
  i175 := by kernel_rfl
  i210 := by kernel_rfl
  i212 := by kernel_rfl
  i232 := by kernel_rfl
  i233 := by kernel_rfl
  m15 := by kernel_rfl
  m16 := by kernel_rfl
  m17 := by kernel_rfl
  m18 := by kernel_rfl
  m19 := by kernel_rfl
  c0 := by kernel_rfl
  c2 := by kernel_rfl
  c3 := by kernel_rfl
  c4 := by kernel_rfl
  c5 := by kernel_rfl
  c9 := by kernel_rfl
  c20 := by kernel_rfl
  c21 := by kernel_rfl
  c37 := by kernel_rfl
  c46 := by kernel_rfl
  c51 := by kernel_rfl
  c53 := by kernel_rfl
  c75 := by kernel_rfl
  c76 := by kernel_rfl
  c80 := by kernel_rfl
  c85 := by kernel_rfl
  c127 := by kernel_rfl
  c143 := by kernel_rfl
  c145 := by kernel_rfl
  c167 := by kernel_rfl
  c168 := by kernel_rfl
  c171 := by kernel_rfl
  c173 := by kernel_rfl
  c175 := by kernel_rfl
  c210 := by kernel_rfl
  c212 := by kernel_rfl
  c213 := by kernel_rfl
  c232 := by kernel_rfl
  c233 := by kernel_rfl }
open Go.RowKit in
/-- strconv.Atoi, AT EVERY STRING THAT SPELLS AN int ('Lib.atoiAll .. = .ok v'; of whatever length: leading zeros count): v, AND NO ERROR. The world: asl it was, or with the one new row that '[]byte(..)' lays. (LAID: no walk: one application.) -/
theorem Tryz.strconv_Atoi_ok (s : ByteArray) (hmax : s.size ≤ 9223372036854775806) (v : Int) (h : Lib.atoiAll s.data.toList = .ok v) (w : World) :
    Calls Tryz.prog 101 #[.string s] w fun e w' => e = .returned (.tuple #[.int .i64 v, .nilIface]) ∧ (w' = w ∨ ∃ t, w' = Lib.bytesWorld w 5 t) := Any.strconv_Atoi_ok Tryz.laysC172 s hmax v h w
open Go.RowKit in
theorem Tryz.strconv_Atoi_syntax_var (s : ByteArray) (hlim : s.size ≤ 281474976710656) (h : Lib.atoiAll s.data.toList = Lib.NumEnd.syntax) (tp : TypeId) (p : Value) (w : World) (hvar : w.var? Tryz.prog "strconv.ErrSyntax" = some #[.iface tp p]) :
    Calls Tryz.prog 101 #[.string s] w fun e w' => ∃ N, e = .returned (.tuple #[.int .i64 0, .iface 221 (.pointer (some ⟨N, 0, none⟩))]) ∧ w.heap.size ≤ N ∧ w'.heap[N]? = some (.cells #[.string ⟨#[65, 116, 111, 105]⟩, .string s, .iface tp p] 248 (0, 0)) ∧ Below w.heap.size w w' := Any.strconv_Atoi_syntax_var Tryz.laysC172 s hlim h tp p w hvar
open Go.RowKit in
theorem Tryz.strconv_Atoi_range_var (s : ByteArray) (hlim : s.size ≤ 281474976710656) (h : Lib.atoiAll s.data.toList = .range) (tp : TypeId) (p : Value) (w : World) (hvar : w.var? Tryz.prog "strconv.ErrRange" = some #[.iface tp p]) :
    Calls Tryz.prog 101 #[.string s] w fun e w' => ∃ N, e = .returned (.tuple #[.int .i64 (Lib.atoiSat s.data.toList), .iface 221 (.pointer (some ⟨N, 0, none⟩))]) ∧ w.heap.size ≤ N ∧ w'.heap[N]? = some (.cells #[.string ⟨#[65, 116, 111, 105]⟩, .string s, .iface tp p] 248 (0, 0)) ∧ Below w.heap.size w w' := Any.strconv_Atoi_range_var Tryz.laysC172 s hlim h tp p w hvar
def Tryz.lays101_ren : Go.Shelf.Ren := ⟨fun | 101 => 102 | 208 => 126 | 206 => 168 | n => n, fun | 9 => 9 | 4 => 4 | 3 => 3 | n => n, fun | n => n⟩
theorem Tryz.lays101 : Go.Proofs.Lays.n101 Tryz.prog Tryz.lays101_ren := {
  mixed := by kernel_rfl
  f101 := Tryz.func102.trans (congrArg some (by kernel_rfl))
  f206 := Tryz.func168.trans (congrArg some (by kernel_rfl))
  f208 := Tryz.func126.trans (congrArg some (by kernel_rfl))
  t3 := Tryz.underlying3
  a3 := Tryz.isAgg3
  z3 := Tryz.sizeOf3
  v3 := Tryz.zeroValue3
  t4 := Tryz.underlying4
  a4 := Tryz.isAgg4
  z4 := Tryz.sizeOf4
  v4 := Tryz.zeroValue4
  t9 := Tryz.underlying9
  a9 := Tryz.isAgg9
  z9 := Tryz.sizeOf9
  v9 := Tryz.zeroValue9 }
open Go.RowKit Go.Lib in
/-- strings.TrimPrefix: "TrimPrefix returns s without the provided leading prefix string. If s doesn't start with prefix, s is returned unchanged.": IT RETURNS 'Lib.trimPrefix s prefix'; the world is asl it was. (LAID: no walk: one application.) -/
theorem Tryz.strings_TrimPrefix (s p : ByteArray) (w : World) :
    Calls Tryz.prog 102 #[.string s, .string p] w fun e w' => e = .returned (.string ⟨(Lib.trimPrefix s.data.toList p.data.toList).toArray⟩) ∧ w' = w := Any.strings_TrimPrefix Tryz.lays101 s p w
end Go.Proofs
namespace Go.Proofs
open Go.Fs
open Go.Shelf
open Go.RowKit (Below)
theorem tzAll : (Tryz.prog.funcs.toList.all fun fn => match fn.body with | some c => codeOk c && !(fn.name == "runtime.NumGoroutine") | none => true) = true := by kernel_rfl
theorem tzMixed : Tryz.prog.follows .mixedOrders = true := by kernel_rfl
theorem tzOk : ProgOk Tryz.prog where
  mixed := tzMixed
  name := fun f fn hf hb => by
    have := List.all_eq_true.1 tzAll fn (by rw [Array.mem_toList_iff]; exact Array.mem_of_getElem? hf)
    cases hx : fn.body with
    | none => rw [hx] at hb; cases hb
    | some c => rw [hx] at this; simpa using (band this).2
  code := fun f fn c hf hb => by
    have := List.all_eq_true.1 tzAll fn (by rw [Array.mem_toList_iff]; exact Array.mem_of_getElem? hf); rw [hb] at this; exact (band this).1
theorem tzItoa : Fs.Enters Tryz.prog 96 := ⟨_, Tryz.func96, rfl, by kernel_rfl⟩
theorem tzCheck : Fs.Enters Tryz.prog 95 := ⟨_, Tryz.func95, rfl, by kernel_rfl⟩
theorem tzAwakeE : Fs.Enters Tryz.prog 6 := ⟨_, Tryz.func6, rfl, by kernel_rfl⟩
def tzRen : Go.Shelf.Ren := ⟨fun | 240 => 95 | 276 => 119 | n => n, fun | 0 => 0 | 4 => 4 | 9 => 9 | 20 => 20 | 70 => 97 | 72 => 99 | 164 => 180 | 37 => 26 | n => n, fun | n => n⟩
theorem tzLays : Go.Proofs.Lays.n240 Tryz.prog tzRen := {
  mixed := by kernel_rfl
  f240 := Tryz.func95.trans (congrArg some (by kernel_rfl))
  f276 := Tryz.func119.trans (congrArg some (by kernel_rfl))
  t0 := Tryz.underlying0
  a0 := Tryz.isAgg0
  z0 := Tryz.sizeOf0
  v0 := Tryz.zeroValue0
  t4 := Tryz.underlying4
  a4 := Tryz.isAgg4
  z4 := Tryz.sizeOf4
  v4 := Tryz.zeroValue4
  t9 := Tryz.underlying9
  a9 := Tryz.isAgg9
  z9 := Tryz.sizeOf9
  v9 := Tryz.zeroValue9
  t20 := Tryz.underlying20
  a20 := Tryz.isAgg20
  z20 := Tryz.sizeOf20
  v20 := Tryz.zeroValue20
  t70 := Tryz.underlying97
  a70 := Tryz.isAgg97
  z70 := Tryz.sizeOf97
  v70 := Tryz.zeroValue97
  t72 := Tryz.underlying99
  a72 := Tryz.isAgg99
  z72 := Tryz.sizeOf99
  v72 := Tryz.zeroValue99
  t164 := Tryz.underlying180
  a164 := Tryz.isAgg180
  z164 := Tryz.sizeOf180
  v164 := Tryz.zeroValue180 }
theorem tzX72 : Builder.X72 Tryz.prog tzRen := { sizeBuilder := by kernel_rfl, liesBuilder := by kernel_rfl }
/-- No package variable is read. -/
def tzG : List (Nat × TypeId × List Value) := []
abbrev OB := orcB 96 96 95 99
theorem tzOrc {B : Nat} {w0 : World} (hz : w0.drawn = 0) (hB : w0.heap.size ≤ B) (ht : ∀ w, Below B w0 w → Lib.TabIs Tryz.prog w "internal/strconv.uint64pow10" .u64 Lib.pow10Tab) : CallSound Tryz.prog B w0 (orcS 96 96) :=
  orcI_sound hz tzItoa (fun n w hw h0 h1 => (Tryz.internal_strconv_Itoa n h0 h1 w (ht w hw)).mono fun e w' ⟨he, k, os, hw'⟩ => ⟨he, by rw [hw']; exact Lib.below_grow _ _ (Nat.le_refl _) _ _⟩)
theorem tzOrcB {B : Nat} {w0 : World} (hz : w0.drawn = 0) (hB : w0.heap.size ≤ B) (ht : ∀ w, Below B w0 w → Lib.TabIs Tryz.prog w "internal/strconv.uint64pow10" .u64 Lib.pow10Tab) : CallSound Tryz.prog B w0 OB :=
  orcB_sound hz (tzOrc hz hB ht) tzCheck (fun b w h0 h1 h2 => Any.Builder_copyCheck_fresh tzLays tzX72 b w h0 h1 h2) (fun b w h0 => Any.Builder_copyCheck_used tzLays tzX72 b w h0)
end Go.Proofs
namespace Go.Proofs
open Go.Fs
noncomputable def tzC : Code := match Tryz.f6.body with | some c => c | none => .skip
noncomputable def tzx0 : Tr := (.node (.bool false) (.node (.bool false) .leaf .leaf) .leaf)
noncomputable def tzx1 : Tr := (.node (.int .i64 0) (.node (.int .i64 0) .leaf .leaf) .leaf)
noncomputable def tzx2 : Tr := (.node (.int .i64 0) (.node (.slice none 0 0) .leaf .leaf) .leaf)
noncomputable def tzx3 : Tr := (.node (.agg #[.int .i64 0, .int .i64 0, .int .i64 1]) .leaf .leaf)
noncomputable def tzx4 : Tr := (.node (.tuple #[.slice (some ⟨62, 0, none⟩) 7 0, .int .i64 0]) .leaf .leaf)
noncomputable def tzx5 : Tr := (.node (.tuple #[.slice (some ⟨291, 0, none⟩) 1 0, .int .i64 0]) .leaf .leaf)
noncomputable def tzx6 : Tr := (.node (.tuple #[.slice (some ⟨318, 0, none⟩) 3 0, .int .i64 0]) .leaf .leaf)
noncomputable def tzx7 : Tr := (.node (.tuple #[.slice (some ⟨268, 0, none⟩) 3 0, .int .i64 0]) .leaf .leaf)
noncomputable def tzx8 : Tr := (.node (.slice (some ⟨1, 0, none⟩) 2 0) (.node (.bool false) .leaf .leaf) .leaf)
noncomputable def tzx9 : Tr := (.node (.slice (some ⟨2, 0, none⟩) 1 0) (.node (.bool false) .leaf .leaf) .leaf)
noncomputable def tzx10 : Tr := (.node (.int .i64 0) (.node (.slice (some ⟨55, 0, none⟩) 2 0) .leaf .leaf) .leaf)
noncomputable def tzx11 : Tr := (.node (.slice (some ⟨54, 0, none⟩) 2 0) (.node (.int .i64 7) .leaf .leaf) .leaf)
noncomputable def tzx12 : Tr := (.node (.slice (some ⟨55, 0, none⟩) 2 0) (.node (.bool false) .leaf .leaf) .leaf)
noncomputable def tzx13 : Tr := (.node (.slice (some ⟨51, 0, none⟩) 2 0) (.node (.bool false) .leaf .leaf) .leaf)
noncomputable def tzx14 : Tr := (.node (.bool true) (.node (.slice (some ⟨149, 0, none⟩) 7 0) .leaf .leaf) .leaf)
noncomputable def tzx15 : Tr := (.node (.int .i64 0) (.node (.agg #[.int .i64 5, .int .i64 6]) .leaf .leaf) .leaf)
noncomputable def tzx16 : Tr := (.node (.agg #[.int .i64 2, .int .i64 4]) (.node (.bool false) .leaf .leaf) .leaf)
noncomputable def tzx17 : Tr := (.node (.slice (some ⟨114, 0, none⟩) 1 0) (.node (.bool false) .leaf .leaf) .leaf)
noncomputable def tzx18 : Tr := (.node (.int .i64 0) (.node (.slice (some ⟨151, 0, none⟩) 1 0) .leaf .leaf) .leaf)
noncomputable def tzx19 : Tr := (.node (.int .i64 0) (.node (.slice (some ⟨154, 0, none⟩) 3 0) .leaf .leaf) .leaf)
noncomputable def tzx20 : Tr := (.node (.agg #[.int .i64 6, .int .i64 7]) (.node (.bool false) .leaf .leaf) .leaf)
noncomputable def tzx21 : Tr := (.node (.int .i64 0) tzx3 .leaf)
noncomputable def tzx22 : Tr := (.node (.slice (some ⟨55, 0, none⟩) 2 0) (.node (.pointer (some ⟨144, 5, none⟩)) .leaf .leaf) .leaf)
noncomputable def tzx23 : Tr := (.node (.slice (some ⟨62, 0, none⟩) 7 0) (.node (.pointer (some ⟨146, 3, none⟩)) .leaf .leaf) .leaf)
noncomputable def tzx24 : Tr := (.node (.agg #[.int .i64 0, .int .i64 2]) (.node (.pointer (some ⟨146, 2, none⟩)) .leaf .leaf) .leaf)
noncomputable def tzx25 : Tr := (.node (.slice (some ⟨53, 0, none⟩) 2 0) (.node (.slice (some ⟨118, 0, none⟩) 7 0) .leaf .leaf) .leaf)
noncomputable def tzx26 : Tr := (.node (.slice (some ⟨118, 0, none⟩) 7 0) (.node (.slice (some ⟨151, 0, none⟩) 1 0) .leaf .leaf) .leaf)
noncomputable def tzx27 : Tr := (.node (.agg #[.int .i64 7, .int .i64 9]) (.node (.slice (some ⟨144, 0, none⟩) 7 0) .leaf .leaf) .leaf)
noncomputable def tzx28 : Tr := (.node (.tuple #[.slice (some ⟨62, 0, none⟩) 7 0, .int .i64 0]) (.node (.bool false) .leaf .leaf) .leaf)
noncomputable def tzx29 : Tr := (.node (.agg #[.string ⟨#[97]⟩, .int .i64 0, .slice (some ⟨152, 0, none⟩) 3 0, .slice none 0 0]) .leaf .leaf)
noncomputable def tzx30 : Tr := (.node (.tuple #[.slice (some ⟨62, 0, none⟩) 7 0, .int .i64 0]) (.node (.float .f32 1069547520) .leaf .leaf) .leaf)
noncomputable def tzx31 : Tr := (.node (.agg #[.string ⟨#[114, 97, 110, 103, 101]⟩, .int .i64 0, .int .i64 48]) (.node (.bool false) .leaf .leaf) .leaf)
noncomputable def tzx32 : Tr := (.node (.agg #[.string ⟨#[98]⟩, .int .i64 0, .slice (some ⟨153, 0, none⟩) 3 0, .slice (some ⟨151, 0, none⟩) 1 0]) .leaf .leaf)
noncomputable def tzx33 : Tr := (.node (.agg #[.string ⟨#[97]⟩, .int .i64 0, .slice (some ⟨233, 0, none⟩) 3 0, .slice (some ⟨239, 0, none⟩) 1 0]) .leaf .leaf)
noncomputable def tzx34 : Tr := (.node (.tuple #[.slice (some ⟨118, 0, none⟩) 7 0, .int .i64 0]) (.node (.slice (some ⟨150, 0, none⟩) 1 0) .leaf .leaf) .leaf)
noncomputable def tzx35 : Tr := (.node (.tuple #[.slice (some ⟨118, 0, none⟩) 7 0, .int .i64 0]) (.node (.agg #[.int .i64 2, .int .i64 3]) .leaf .leaf) .leaf)
noncomputable def tzx36 : Tr := (.node (.agg #[.string ⟨#[99]⟩, .int .i64 0, .slice (some ⟨154, 0, none⟩) 3 0, .slice (some ⟨151, 0, none⟩) 1 0]) .leaf .leaf)
noncomputable def tzx37 : Tr := (.node (.agg #[.string ⟨#[106, 117, 109, 112]⟩, .int .i64 16, .int .i64 0]) (.node (.pointer (some ⟨146, 2, none⟩)) .leaf .leaf) .leaf)
noncomputable def tzx38 : Tr := (.node (.agg #[.string ⟨#[115, 116, 117, 99, 107]⟩, .int .i64 2, .int .i64 0]) (.node (.slice (some ⟨144, 0, none⟩) 7 0) .leaf .leaf) .leaf)
noncomputable def tzx39 : Tr := (.node (.int .i64 0) tzx33 .leaf)
noncomputable def tzx40 : Tr := (.node (.int .i64 0) tzx36 .leaf)
noncomputable def tzx41 : Tr := (.node (.tuple #[.agg #[.string ⟨#[104, 111, 111, 107]⟩, .int .i64 10, .slice (some ⟨95, 0, none⟩) 7 0, .slice (some ⟨109, 0, none⟩) 2 0], .int .i64 0]) .leaf .leaf)
noncomputable def tzx42 : Tr := (.node (.agg #[.string ⟨#[104, 111, 111, 107]⟩, .int .i64 10, .slice (some ⟨75, 0, none⟩) 7 0, .slice (some ⟨76, 0, none⟩) 1 0]) (.node (.bool false) .leaf .leaf) .leaf)
noncomputable def tzx43 : Tr := (.node (.agg #[.string ⟨#[104, 111, 111, 107]⟩, .int .i64 10, .slice (some ⟨57, 0, none⟩) 7 0, .slice (some ⟨58, 0, none⟩) 1 0]) (.node (.bool false) .leaf .leaf) .leaf)
noncomputable def tzx44 : Tr := (.node (.agg #[.string ⟨#[104, 111, 111, 107]⟩, .int .i64 10, .slice (some ⟨112, 0, none⟩) 7 0, .slice (some ⟨113, 0, none⟩) 1 0]) (.node (.bool true) .leaf .leaf) .leaf)
noncomputable def tzx45 : Tr := (.node (.slice (some ⟨141, 0, none⟩) 1 0) tzx32 .leaf)
noncomputable def tzx46 : Tr := (.node (.agg #[.string ⟨#[104, 111, 111, 107]⟩, .int .i64 10, .slice (some ⟨144, 0, none⟩) 7 0, .slice none 0 0]) (.node (.slice (some ⟨151, 0, none⟩) 1 0) .leaf .leaf) .leaf)
noncomputable def tzx47 : Tr := (.node (.int .i64 0) tzx22 tzx1)
noncomputable def tzx48 : Tr := (.node (.int .i64 0) tzx11 tzx18)
noncomputable def tzx49 : Tr := (.node (.agg #[.string ⟨#[104, 111, 111, 107]⟩, .int .i64 10, .slice (some ⟨95, 0, none⟩) 7 0, .slice (some ⟨109, 0, none⟩) 2 0]) (.node (.slice (some ⟨141, 0, none⟩) 1 0) .leaf .leaf) .leaf)
noncomputable def tzx50 : Tr := (.node (.tuple #[.agg #[.string ⟨#[104, 111, 111, 107]⟩, .int .i64 10, .slice (some ⟨95, 0, none⟩) 7 0, .slice (some ⟨109, 0, none⟩) 2 0], .int .i64 0]) (.node (.bool false) .leaf .leaf) .leaf)
noncomputable def tzx51 : Tr := (.node (.tuple #[.agg #[.string ⟨#[104, 111, 111, 107]⟩, .int .i64 10, .slice (some ⟨95, 0, none⟩) 7 0, .slice (some ⟨109, 0, none⟩) 2 0], .int .i64 0]) (.node (.int .i64 0) .leaf .leaf) .leaf)
noncomputable def tzx52 : Tr := (.node (.tuple #[.agg #[.string ⟨#[97]⟩, .int .i64 0, .slice (some ⟨233, 0, none⟩) 3 0, .slice (some ⟨239, 0, none⟩) 1 0], .agg #[.int .i64 0, .int .i64 0, .int .i64 1], .int .i64 0]) .leaf .leaf)
noncomputable def tzx53 : Tr := (.node (.slice (some ⟨1, 0, none⟩) 2 0) tzx16 tzx17)
noncomputable def tzx54 : Tr := (.node (.int .i64 0) tzx52 .leaf)
noncomputable def tzx55 : Tr := (.node (.slice (some ⟨34, 0, none⟩) 2 0) tzx27 tzx19)
noncomputable def tzx56 : Tr := (.node (.tuple #[.agg #[.string ⟨#[104, 111, 111, 107]⟩, .int .i64 10, .slice (some ⟨144, 0, none⟩) 7 0, .slice none 0 0], .slice (some ⟨141, 0, none⟩) 1 0, .int .i64 0]) (.node (.slice (some ⟨152, 0, none⟩) 3 0) .leaf .leaf) .leaf)
noncomputable def tzx57 : Tr := (.node (.tuple #[.agg #[.string ⟨#[104, 111, 111, 107]⟩, .int .i64 10, .slice (some ⟨144, 0, none⟩) 7 0, .slice none 0 0], .slice (some ⟨141, 0, none⟩) 1 0, .int .i64 0]) (.node (.slice (some ⟨153, 0, none⟩) 3 0) .leaf .leaf) .leaf)
noncomputable def tzx58 : Tr := (.node (.agg #[.string ⟨#[104, 111, 111, 107]⟩, .int .i64 10, .slice (some ⟨128, 0, none⟩) 7 0, .slice (some ⟨129, 0, none⟩) 1 0]) tzx29 .leaf)
noncomputable def tzx59 : Tr := (.node (.slice (some ⟨2, 0, none⟩) 1 0) tzx20 tzx35)
noncomputable def tzx60 : Tr := (.node (.tuple #[.slice (some ⟨17, 0, none⟩) 1 0, .int .i64 0]) tzx25 tzx26)
noncomputable def tzx61 : Tr := (.node (.slice (some ⟨51, 0, none⟩) 2 0) tzx38 tzx21)
noncomputable def tzx62 : Tr := (.node (.tuple #[.slice (some ⟨51, 0, none⟩) 2 0, .int .i64 0]) (.node (.bool true) (.node (.bool false) .leaf .leaf) .leaf) tzx40)
noncomputable def tzx63 : Tr := (.node (.slice (some ⟨2, 0, none⟩) 1 0) tzx13 tzx46)
noncomputable def tzx64 : Tr := (.node (.agg #[.string ⟨#[97]⟩, .int .i64 0, .slice (some ⟨152, 0, none⟩) 3 0, .slice none 0 0, .string ⟨#[98]⟩, .int .i64 0, .slice (some ⟨153, 0, none⟩) 3 0, .slice (some ⟨151, 0, none⟩) 1 0, .string ⟨#[99]⟩, .int .i64 0, .slice (some ⟨154, 0, none⟩) 3 0, .slice (some ⟨151, 0, none⟩) 1 0]) .leaf .leaf)
noncomputable def tzx65 : Tr := (.node (.int .i64 0) (.node (.bool false) (.node (.bool true) .leaf .leaf) .leaf) tzx56)
noncomputable def tzx66 : Tr := (.node (.slice (some ⟨2, 0, none⟩) 1 0) tzx0 tzx54)
noncomputable def tzx67 : Tr := (.node (.int .i64 0) tzx64 .leaf)
noncomputable def tzx68 : Tr := (.node (.slice (some ⟨1, 0, none⟩) 2 0) tzx0 tzx57)
noncomputable def tzx69 : Tr := (.node (.tuple #[.slice (some ⟨34, 0, none⟩) 2 0, .int .i64 0]) tzx24 tzx45)
noncomputable def tzx70 : Tr := (.node (.slice (some ⟨17, 0, none⟩) 1 0) tzx14 tzx54)
noncomputable def tzx71 : Tr := (.node (.tuple #[.slice (some ⟨51, 0, none⟩) 2 0, .int .i64 0]) tzx37 tzx39)
noncomputable def tzx72 : Tr := (.node (.tuple #[.slice (some ⟨34, 0, none⟩) 2 0, .int .i64 0]) tzx0 tzx58)
noncomputable def tzx73 : Tr := (.node (.slice (some ⟨1, 0, none⟩) 2 0) tzx0 tzx67)
noncomputable def tzK9 : List Nat := [109, 95, 110, 62]
noncomputable def tzT9 : Tr := (.node (.bool false) (.node (.slice (some ⟨1, 0, none⟩) 2 0) (.node (.slice (some ⟨17, 0, none⟩) 1 0) (.node (.slice (some ⟨51, 0, none⟩) 2 0) (.node (.tuple #[]) (.node (.tuple #[]) (.node (.int .i64 0) .leaf .leaf) tzx4) (.node (.int .i64 0) (.node (.bool false) .leaf .leaf) .leaf)) (.node (.tuple #[]) (.node (.slice (some ⟨1, 0, none⟩) 2 0) (.node (.bool false) .leaf .leaf) (.node (.int .i64 0) .leaf .leaf)) tzx8)) (.node (.int .i64 0) (.node (.tuple #[]) (.node (.tuple #[]) (.node (.slice (some ⟨17, 0, none⟩) 1 0) .leaf .leaf) (.node (.agg #[.string ⟨#[104, 111, 111, 107]⟩, .int .i64 10, .slice (some ⟨75, 0, none⟩) 7 0, .slice (some ⟨76, 0, none⟩) 1 0]) .leaf .leaf)) (.node (.tuple #[.slice (some ⟨34, 0, none⟩) 2 0, .int .i64 0]) (.node (.agg #[.int .i64 0, .int .i64 2]) .leaf .leaf) .leaf)) (.node (.tuple #[]) (.node (.slice (some ⟨1, 0, none⟩) 2 0) (.node (.agg #[.int .i64 2, .int .i64 4]) .leaf .leaf) .leaf) tzx10))) (.node (.slice (some ⟨34, 0, none⟩) 2 0) (.node (.slice (some ⟨55, 0, none⟩) 2 0) (.node (.tuple #[]) (.node (.tuple #[]) (.node (.bool false) .leaf .leaf) (.node (.int .i64 0) .leaf .leaf)) tzx8) (.node (.tuple #[]) tzx9 (.node (.tuple #[.slice (some ⟨51, 0, none⟩) 2 0, .int .i64 0]) (.node (.agg #[.string ⟨#[106, 117, 109, 112]⟩, .int .i64 16, .int .i64 0]) .leaf .leaf) .leaf))) (.node (.int .i64 0) (.node (.tuple #[]) (.node (.agg #[.int .i64 0, .int .i64 4]) (.node (.slice (some ⟨52, 0, none⟩) 1 0) .leaf .leaf) tzx41) (.node (.int .i64 0) (.node (.slice (some ⟨54, 0, none⟩) 2 0) .leaf .leaf) .leaf)) (.node (.tuple #[]) (.node (.tuple #[.slice (some ⟨17, 0, none⟩) 1 0, .int .i64 0]) (.node (.slice (some ⟨53, 0, none⟩) 2 0) .leaf .leaf) .leaf) (.node (.int .i64 0) (.node (.agg #[.string ⟨#[104, 111, 111, 107]⟩, .int .i64 10, .slice (some ⟨57, 0, none⟩) 7 0, .slice (some ⟨58, 0, none⟩) 1 0]) .leaf .leaf) .leaf))))) (.node (.slice (some ⟨2, 0, none⟩) 1 0) (.node (.int .i64 0) (.node (.int .i64 0) (.node (.tuple #[]) (.node (.tuple #[]) (.node (.int .i64 0) .leaf .leaf) (.node (.slice (some ⟨62, 0, none⟩) 7 0) .leaf .leaf)) (.node (.tuple #[.slice (some ⟨34, 0, none⟩) 2 0, .int .i64 0]) (.node (.bool false) .leaf .leaf) .leaf)) (.node (.tuple #[]) (.node (.agg #[.int .i64 2, .int .i64 7]) (.node (.bool false) .leaf .leaf) .leaf) tzx9)) (.node (.pointer (some ⟨110, 0, none⟩)) (.node (.tuple #[]) (.node (.tuple #[]) (.node (.agg #[.int .i64 0, .int .i64 9]) .leaf .leaf) (.node (.slice (some ⟨55, 0, none⟩) 2 0) .leaf .leaf)) (.node (.slice (some ⟨34, 0, none⟩) 2 0) (.node (.agg #[.int .i64 7, .int .i64 9]) .leaf .leaf) .leaf)) (.node (.tuple #[]) (.node (.slice (some ⟨2, 0, none⟩) 1 0) (.node (.agg #[.int .i64 6, .int .i64 7]) .leaf .leaf) .leaf) (.node (.int .i64 0) tzx4 .leaf)))) (.node (.int .i64 0) (.node (.slice (some ⟨62, 0, none⟩) 7 0) (.node (.tuple #[]) (.node (.tuple #[]) (.node (.bool false) .leaf .leaf) tzx41) (.node (.slice (some ⟨2, 0, none⟩) 1 0) (.node (.slice (some ⟨51, 0, none⟩) 2 0) .leaf .leaf) .leaf)) (.node (.tuple #[]) (.node (.tuple #[.slice (some ⟨17, 0, none⟩) 1 0, .int .i64 0]) (.node (.slice (some ⟨34, 0, none⟩) 2 0) .leaf .leaf) .leaf) (.node (.slice (some ⟨51, 0, none⟩) 2 0) (.node (.agg #[.string ⟨#[115, 116, 117, 99, 107]⟩, .int .i64 2, .int .i64 0]) .leaf .leaf) .leaf))) (.node (.tuple #[]) (.node (.tuple #[]) (.node (.agg #[.int .i64 6, .int .i64 9]) (.node (.bool true) .leaf .leaf) (.node (.agg #[.string ⟨#[104, 111, 111, 107]⟩, .int .i64 10, .slice (some ⟨95, 0, none⟩) 7 0, .slice (some ⟨109, 0, none⟩) 2 0]) .leaf .leaf)) (.node (.tuple #[.slice (some ⟨51, 0, none⟩) 2 0, .int .i64 0]) (.node (.bool true) .leaf .leaf) .leaf)) (.node (.tuple #[]) (.node (.slice (some ⟨17, 0, none⟩) 1 0) (.node (.bool true) .leaf .leaf) .leaf) tzx10)))))
noncomputable def tzF9 : Fr := ⟨tzT9, 304, []⟩
noncomputable def tzO9_0 : List (Nat × AObj) := [(110, .row 32 [.string ⟨#[104, 111, 111, 107]⟩, .int .i64 10, .slice (some ⟨95, 0, none⟩) 7 0, .slice (some ⟨109, 0, none⟩) 2 0] true false), (109, .row 53 [.int .i64 2, .int .i64 4, .int .i64 5, .int .i64 6] true true), (95, .row 68 [.float .f32 1065353216, .float .f32 1065353216, .float .f32 0, .float .f32 0, .float .f32 1069547520, .float .f32 0, .float .f32 1073741824] true false), (62, .row 3 [.int .i64 0, .int .i64 0, .int .i64 2, .int .i64 1, .int .i64 0, .int .i64 0, .int .i64 0] true false)]
noncomputable def tzL9 : List (Nat × AObj) := tzO9_0
noncomputable def tzH9 : Heap := ⟨111, 1, tzL9⟩
noncomputable def tzK14 : List Nat := [241, 239, 233, 240, 151]
noncomputable def tzT14 : Tr := (.node (.bool false) (.node (.slice (some ⟨1, 0, none⟩) 2 0) (.node (.slice (some ⟨17, 0, none⟩) 1 0) (.node (.slice (some ⟨51, 0, none⟩) 2 0) (.node (.int .i64 0) (.node (.tuple #[]) (.node (.int .i64 0) (.node (.slice (some ⟨147, 0, none⟩) 7 0) .leaf .leaf) .leaf) tzx28) tzx65) (.node (.tuple #[]) (.node (.slice (some ⟨1, 0, none⟩) 2 0) (.node (.bool false) (.node (.agg #[.int .i64 5, .int .i64 6]) .leaf .leaf) .leaf) tzx15) tzx73)) (.node (.int .i64 0) (.node (.slice (some ⟨151, 0, none⟩) 1 0) (.node (.tuple #[]) (.node (.slice (some ⟨17, 0, none⟩) 1 0) (.node (.bool false) .leaf .leaf) .leaf) tzx42) tzx69) (.node (.tuple #[]) tzx53 tzx47))) (.node (.slice (some ⟨34, 0, none⟩) 2 0) (.node (.slice (some ⟨55, 0, none⟩) 2 0) (.node (.slice (some ⟨141, 0, none⟩) 1 0) (.node (.tuple #[]) tzx0 tzx2) tzx68) (.node (.tuple #[]) (.node (.slice (some ⟨2, 0, none⟩) 1 0) (.node (.bool false) (.node (.bool true) .leaf .leaf) .leaf) tzx44) tzx71)) (.node (.int .i64 0) (.node (.pointer (some ⟨241, 0, none⟩)) (.node (.agg #[.int .i64 0, .int .i64 4]) (.node (.slice (some ⟨52, 0, none⟩) 1 0) (.node (.slice (some ⟨109, 0, none⟩) 2 0) .leaf .leaf) .leaf) tzx50) tzx48) (.node (.tuple #[]) tzx60 (.node (.int .i64 0) tzx43 (.node (.bool false) .leaf .leaf)))))) (.node (.slice (some ⟨2, 0, none⟩) 1 0) (.node (.int .i64 0) (.node (.int .i64 0) (.node (.pointer (some ⟨146, 0, none⟩)) (.node (.tuple #[]) (.node (.int .i64 0) (.node (.bool true) .leaf .leaf) .leaf) tzx23) tzx72) (.node (.tuple #[]) (.node (.agg #[.int .i64 2, .int .i64 7]) (.node (.bool false) (.node (.slice (some ⟨148, 0, none⟩) 2 0) .leaf .leaf) .leaf) tzx34) tzx66)) (.node (.pointer (some ⟨110, 0, none⟩)) (.node (.pointer (some ⟨240, 0, none⟩)) (.node (.tuple #[]) (.node (.agg #[.int .i64 0, .int .i64 9]) (.node (.pointer (some ⟨110, 3, none⟩)) .leaf .leaf) .leaf) tzx12) tzx55) (.node (.tuple #[]) tzx59 (.node (.int .i64 0) tzx30 (.node (.bool false) .leaf .leaf))))) (.node (.int .i64 0) (.node (.slice (some ⟨62, 0, none⟩) 7 0) (.node (.int .i64 0) (.node (.tuple #[]) tzx0 tzx51) tzx63) (.node (.tuple #[]) (.node (.tuple #[.slice (some ⟨17, 0, none⟩) 1 0, .int .i64 0]) (.node (.slice (some ⟨34, 0, none⟩) 2 0) (.node (.bool false) .leaf .leaf) .leaf) tzx31) tzx61)) (.node (.slice (some ⟨118, 0, none⟩) 7 0) (.node (.int .i64 0) (.node (.agg #[.int .i64 6, .int .i64 9]) (.node (.bool true) (.node (.agg #[.int .i64 2, .int .i64 4]) .leaf .leaf) .leaf) tzx49) tzx62) (.node (.tuple #[]) tzx70 (.node (.int .i64 0) tzx12 (.node (.slice (some ⟨62, 0, none⟩) 7 0) .leaf .leaf)))))))
noncomputable def tzF14 : Fr := ⟨tzT14, 304, []⟩
noncomputable def tzO14_0 : List (Nat × AObj) := [(241, .row 69 [.int .i64 0, .int .i64 0, .int .i64 1] true false), (240, .row 32 [.string ⟨#[97]⟩, .int .i64 0, .slice (some ⟨233, 0, none⟩) 3 0, .slice (some ⟨239, 0, none⟩) 1 0] true false), (239, .row 53 [.int .i64 2, .int .i64 3] true true), (233, .row 68 [.float .f32 1065353216, .float .f32 1077936128, .float .f32 0] true false), (151, .row 53 [.int .i64 2, .int .i64 3] true false)]
noncomputable def tzL14 : List (Nat × AObj) := tzO14_0
noncomputable def tzH14 : Heap := ⟨242, 1, tzL14⟩
noncomputable def tzK17 : List Nat := [318, 291, 268, 241, 239, 233, 240, 151]
noncomputable def tzT17 : Tr := (.node (.bool false) (.node (.slice (some ⟨1, 0, none⟩) 2 0) (.node (.slice (some ⟨17, 0, none⟩) 1 0) (.node (.slice (some ⟨51, 0, none⟩) 2 0) (.node (.int .i64 0) (.node (.tuple #[]) (.node (.int .i64 0) (.node (.slice (some ⟨147, 0, none⟩) 7 0) .leaf .leaf) (.node (.slice (some ⟨268, 0, none⟩) 3 0) .leaf .leaf)) tzx28) tzx65) (.node (.slice (some ⟨268, 0, none⟩) 3 0) (.node (.slice (some ⟨1, 0, none⟩) 2 0) (.node (.bool false) (.node (.agg #[.int .i64 5, .int .i64 6]) .leaf .leaf) (.node (.agg #[.string ⟨#[104, 111, 111, 107]⟩, .int .i64 10, .slice (some ⟨293, 0, none⟩) 7 0, .slice (some ⟨294, 0, none⟩) 1 0]) .leaf .leaf)) tzx15) tzx73)) (.node (.int .i64 0) (.node (.slice (some ⟨151, 0, none⟩) 1 0) (.node (.tuple #[]) (.node (.slice (some ⟨17, 0, none⟩) 1 0) (.node (.bool false) .leaf .leaf) tzx5) tzx42) tzx69) (.node (.slice (some ⟨318, 0, none⟩) 3 0) tzx53 tzx47))) (.node (.slice (some ⟨34, 0, none⟩) 2 0) (.node (.slice (some ⟨55, 0, none⟩) 2 0) (.node (.slice (some ⟨141, 0, none⟩) 1 0) (.node (.tuple #[]) (.node (.bool false) (.node (.bool false) .leaf .leaf) tzx5) tzx2) tzx68) (.node (.slice (some ⟨291, 0, none⟩) 1 0) (.node (.slice (some ⟨2, 0, none⟩) 1 0) (.node (.bool false) (.node (.bool true) .leaf .leaf) (.node (.slice (some ⟨318, 0, none⟩) 3 0) .leaf .leaf)) tzx44) tzx71)) (.node (.int .i64 0) (.node (.pointer (some ⟨241, 0, none⟩)) (.node (.agg #[.int .i64 0, .int .i64 4]) (.node (.slice (some ⟨52, 0, none⟩) 1 0) (.node (.slice (some ⟨109, 0, none⟩) 2 0) .leaf .leaf) (.node (.int .i64 0) .leaf .leaf)) tzx50) tzx48) (.node (.tuple #[]) tzx60 (.node (.int .i64 0) tzx43 (.node (.bool false) (.node (.agg #[.string ⟨#[104, 111, 111, 107]⟩, .int .i64 10, .slice (some ⟨243, 0, none⟩) 7 0, .slice (some ⟨244, 0, none⟩) 1 0]) .leaf .leaf) .leaf)))))) (.node (.slice (some ⟨2, 0, none⟩) 1 0) (.node (.int .i64 0) (.node (.int .i64 0) (.node (.pointer (some ⟨146, 0, none⟩)) (.node (.tuple #[]) (.node (.int .i64 0) (.node (.bool true) .leaf .leaf) (.node (.int .i64 0) .leaf .leaf)) tzx23) tzx72) (.node (.int .i64 0) (.node (.agg #[.int .i64 2, .int .i64 7]) (.node (.bool false) (.node (.slice (some ⟨148, 0, none⟩) 2 0) .leaf .leaf) tzx6) tzx34) tzx66)) (.node (.pointer (some ⟨110, 0, none⟩)) (.node (.pointer (some ⟨240, 0, none⟩)) (.node (.tuple #[]) (.node (.agg #[.int .i64 0, .int .i64 9]) (.node (.pointer (some ⟨110, 3, none⟩)) .leaf .leaf) (.node (.slice (some ⟨291, 0, none⟩) 1 0) .leaf .leaf)) tzx12) tzx55) (.node (.int .i64 0) tzx59 (.node (.int .i64 0) tzx30 (.node (.bool false) tzx7 .leaf))))) (.node (.int .i64 0) (.node (.slice (some ⟨62, 0, none⟩) 7 0) (.node (.int .i64 0) (.node (.tuple #[]) (.node (.bool false) (.node (.bool false) .leaf .leaf) (.node (.agg #[.string ⟨#[104, 111, 111, 107]⟩, .int .i64 10, .slice (some ⟨270, 0, none⟩) 7 0, .slice (some ⟨271, 0, none⟩) 1 0]) .leaf .leaf)) tzx51) tzx63) (.node (.int .i64 0) (.node (.tuple #[.slice (some ⟨17, 0, none⟩) 1 0, .int .i64 0]) (.node (.slice (some ⟨34, 0, none⟩) 2 0) (.node (.bool false) .leaf .leaf) (.node (.int .i64 0) .leaf .leaf)) tzx31) tzx61)) (.node (.slice (some ⟨118, 0, none⟩) 7 0) (.node (.int .i64 0) (.node (.agg #[.int .i64 6, .int .i64 9]) (.node (.bool true) (.node (.agg #[.int .i64 2, .int .i64 4]) .leaf .leaf) tzx6) tzx49) tzx62) (.node (.tuple #[]) tzx70 (.node (.int .i64 0) tzx12 (.node (.slice (some ⟨62, 0, none⟩) 7 0) tzx7 .leaf)))))))
noncomputable def tzF17 : Fr := ⟨tzT17, 304, []⟩
noncomputable def tzO17_0 : List (Nat × AObj) := [(318, .row 3 [.int .i64 0, .int .i64 4, .int .i64 6] true true), (291, .row 3 [.int .i64 0] true true), (268, .row 3 [.int .i64 0, .int .i64 3, .int .i64 6] true true)]
noncomputable def tzL17 : List (Nat × AObj) := tzO17_0 ++ tzL14
noncomputable def tzH17 : Heap := ⟨319, 1, tzL17⟩
end Go.Proofs
namespace Go.Proofs
open Go.Fs
theorem tzP9 : (runPre Tryz.prog OB 9 100000 (tzC) ⟨fillTr .leaf 0 [], Tryz.f6.ntmps, []⟩ (gHeap 1 tzG)).map (fun x => (x.1, x.2.1, x.2.2.1, gcH 1 tzK9 x.2.2.2)) = some (99991, sufx 9 tzC, tzF9, tzH9) := by kernel_rfl
end Go.Proofs
namespace Go.Proofs
open Go.Fs
theorem tzP14 : (runPre Tryz.prog OB 5 99991 (sufx 9 tzC) tzF9 tzH9).map (fun x => (x.1, x.2.1, x.2.2.1, gcH 1 tzK14 x.2.2.2)) = some (99986, sufx 14 tzC, tzF14, tzH14) := by kernel_rfl
end Go.Proofs
namespace Go.Proofs
open Go.Fs
theorem tzP17 : (runPre Tryz.prog OB 3 99986 (sufx 14 tzC) tzF14 tzH14).map (fun x => (x.1, x.2.1, x.2.2.1, gcH 1 tzK17 x.2.2.2)) = some (99983, sufx 17 tzC, tzF17, tzH17) := by kernel_rfl
end Go.Proofs
namespace Go.Proofs
open Go.Fs
theorem tzPe : (fsCodeX Tryz.prog OB 99983 none (sufx 17 tzC) tzF17 tzH17).bind (endV Tryz.prog Tryz.f6 (gHeap 1 tzG)) = some (.bool true) := by kernel_rfl
end Go.Proofs
namespace Go.Proofs
open Go.Fs
noncomputable def tzKs : List (Nat × List Nat) := [(9, tzK9), (5, tzK14), (3, tzK17)]
theorem tzRun : (fsEnter Tryz.prog (fsG Tryz.prog OB 1 100000 tzKs) 6 [] (gHeap 1 tzG)).map (·.1) = some (.bool true) := by
  rw [enter_map (c := tzC) Tryz.func6 rfl (by rfl)]; rw [fsG_eq (by kernel_rfl) (by kernel_rfl)]; unfold tzKs; show (runG Tryz.prog OB 1 _ 100000 tzC ⟨fillTr .leaf 0 [], Tryz.f6.ntmps, []⟩ (gHeap 1 tzG)).bind _ = _; rw [run_viaG tzP9]; rw [run_viaG tzP14]; rw [run_viaG tzP17]; exact tzPe
end Go.Proofs
namespace Go.Proofs.YteooaaiacpcfoaaGreatDoor
open Go.ChangeShapes Go.WideShapes Go.ChangeAt Go.RowKit Go.Fs
theorem own : ownKnob Tryz.prog.godebug = none := by kernel_rfl
theorem laidOut : laidOutB Tryz.prog = true := by kernel_rfl
def laid3 : List (String × DataW Unit) := [("math/bits.deBruijn32tab", Rows.laid_math_bits_deBruijn32tab), ("math/bits.deBruijn64tab", Rows.laid_math_bits_deBruijn64tab), ("internal/strconv.uint64pow10", Rows.laid_internal_strconv_uint64pow10)]
theorem gPow : ∃ g : Nat, Tryz.prog.globalNamed "internal/strconv.uint64pow10" = some g ∧ (Tryz.prog.globals[g]?).map (·.type) = some 239 := ⟨2, by kernel_rfl, by kernel_rfl⟩
theorem powTab {W : World} (h : laidMet Tryz.prog laid3 W) : Lib.TabIs Tryz.prog W "internal/strconv.uint64pow10" .u64 Lib.pow10Tab := by
  obtain ⟨g, h1, h2⟩ := gPow; exact Lib.tabIs_of_head (rest := []) h1 h2 Tryz.underlying239 Tryz.underlying202 (by kernel_rfl) (by kernel_rfl) (laidMet.tail (laidMet.tail h))
theorem tzGlob {W : World} : ∀ x ∈ tzG, GlobW Tryz.prog W.heap.size W x := fun x hx => by cases hx
theorem tzGT : GT (⟨1, 1, []⟩ : Heap) [] := fun v hv => by cases hv
theorem seatHr {W : World} (h : laidMet Tryz.prog laid3 W) : HR Tryz.prog (fun _ => Loc.clean 0 0 0 0) (fun _ => False) W.heap.size (Go.Fs.wz W) ⟨1, 1, []⟩ W := hr_empty (Nat.zero_le _)
/-- The oracle is sound wherever the table of powers lies. -/
theorem orcOk {W : World} (ht : Lib.TabIs Tryz.prog W "internal/strconv.uint64pow10" .u64 Lib.pow10Tab) : CallSound Tryz.prog W.heap.size (Go.Fs.wz W) OA := by
  have hT : ∀ w, Below W.heap.size W w → Lib.TabIs Tryz.prog w "internal/strconv.uint64pow10" .u64 Lib.pow10Tab := Lib.tabBelow_of_tabIs ht
  have hS : ∀ w, Below W.heap.size W w → CallSound Tryz.prog w.heap.size (Go.Fs.wz w) OB := fun w hw =>
    tzOrcB rfl (Nat.le_refl _) fun w' hw' => hT w' (hw.trans ((below_z hw').mono hw.size))
  refine orcA_sound rfl (tzOrc rfl (Nat.le_refl _) fun w' hw' => hT w' (below_z hw')) tzAwakeE fun w hw => ?_; exact awakeGc_calls tzOk (n := 1) (L := tzG) (fun x hx => by cases hx) (by decide) tzGlob (fun w hw => hw.size) (fun w' hw' => hS w' hw') tzRun w (below_z hw)
noncomputable def doorWorld (os : Os) : World := World.doorLaid Tryz.prog 24 os
end Go.Proofs.YteooaaiacpcfoaaGreatDoor
