/-
  The statements on the network: in how many bits two pieces part; NetTrue.
-/
import Derived.Test.YtllopddalmdbjaaNeK
set_option linter.unusedVariables false
set_option linter.unusedSimpArgs false
namespace Go.Proofs.Ytllopddalmdbjaa
open Go Go.Sl

def pop (x : Nat) : Nat := x % 2 + x / 2 % 2 + x / 4 % 2 + x / 8 % 2 + x / 16 % 2 + x / 32 % 2 + x / 64 % 2 + x / 128 % 2
theorem pop_half {x : Nat} (h : x < 256) : pop x = x % 2 + pop (x / 2) := by unfold pop; omega
theorem pop_le (x : Nat) : pop x ≤ 8 := by unfold pop; omega
def xorAt (xs ys : List UInt8) (k : Nat) : Nat := (xs[k]?.getD 0).toNat ^^^ (ys[k]?.getD 0).toNat
def bitsK (xs ys : List UInt8) : Nat → Nat
  | 0 => 0
  | k + 1 => bitsK xs ys k + pop (xorAt xs ys k)
def bitsN (xs ys : List UInt8) : Nat := if xs.length = ys.length then bitsK xs ys xs.length else 9
theorem bitsK_le (xs ys : List UInt8) : ∀ k, bitsK xs ys k ≤ 8 * k
  | 0 => Nat.le_refl _
  | k + 1 => by have := bitsK_le xs ys k; have := pop_le (xorAt xs ys k); simp only [bitsK]; omega
theorem xorAt_self (xs : List UInt8) (k : Nat) : xorAt xs xs k = 0 := by simp [xorAt]
theorem bitsK_self (xs : List UInt8) : ∀ k, bitsK xs xs k = 0
  | 0 => rfl
  | k + 1 => by simp only [bitsK, bitsK_self xs k, xorAt_self]; rfl
theorem bitsN_self (xs : List UInt8) : bitsN xs xs = 0 := by unfold bitsN; rw [if_pos rfl, bitsK_self]
theorem xorAt_flip {xs : List UInt8} {i : Nat} (hi : i < xs.length) (k : Nat) : xorAt xs (NetS.flip xs i) k = if k = i then 1 else 0 := by
  unfold xorAt NetS.flip
  by_cases h : k = i
  · subst h
    rw [if_pos rfl]
    simp only [List.getElem?_set_self hi, Option.getD_some]
    rw [UInt8.toNat_xor, ← Nat.xor_assoc, Nat.xor_self, Nat.zero_xor]; rfl
  · rw [if_neg h, List.getElem?_set_ne (fun e => h e.symm), Nat.xor_self]
theorem bitsK_flip {xs : List UInt8} {i : Nat} (hi : i < xs.length) : ∀ k, bitsK xs (NetS.flip xs i) k = if i < k then 1 else 0
  | 0 => rfl
  | k + 1 => by
    simp only [bitsK, bitsK_flip hi k, xorAt_flip hi]
    by_cases h : k = i
    · subst h; rw [if_pos rfl, if_neg (by omega), if_pos (by omega)]; rfl
    · rw [if_neg h]
      by_cases h2 : i < k
      · rw [if_pos h2, if_pos (by omega)]; rfl
      · rw [if_neg h2, if_neg (by omega)]; rfl
theorem bitsN_flip {xs : List UInt8} {i : Nat} (hi : i < xs.length) : bitsN xs (NetS.flip xs i) ≤ 1 := by
  unfold bitsN
  rw [if_pos (flip_len xs i).symm, bitsK_flip hi]
  split <;> omega

theorem bits_ct {xs ys : List UInt8} {v1 v2 : Value} {h1 h2 : Hp} (hx : Rs xs v1 h1) (hy : Rs ys v2 h2) (hl : xs.length ≤ 1099511627776) :
    Ct Try.prog 44 [v1, v2] [h1, h2] (fun r H' => r = .int .i64 (bitsN xs ys : Int) ∧ H' = [h1, h2]) := by
  obtain ⟨p1, c1, rfl⟩ := hx.len
  obtain ⟨p2, c2, rfl⟩ := hy.len
  refine Ct.mk' Try.func44 rfl rfl rfl (fun g R => ?_)
  try simp only [List.cons_append]
  simp only [List.nil_append]
  by_cases hne : xs.length = ys.length
  · have hne' : (xs.length : Int) = (ys.length : Int) := by omega
    have hb : bitsN xs ys = bitsK xs ys xs.length := if_pos hne
    rw [hb]
    repeat' (first | refine go ?_ | refine mv ?_ | (refine I.ld ?_; first | refine ld rfl ?_ | refine lE rfl (by assumption) ?_ | refine lA rfl ?_ | refine lF rfl (by assumption) ?_) | refine asg ?_ | (refine I.gd ?_; first | refine gy ?_ | refine gn ?_ | refine gnN ?_ | refine gu ?_ | refine guN ?_ | refine gT ?_ | refine gF ?_ | refine gS (fun _ => ?_) (fun _ => ?_)) | (refine I.fa ?_; first | refine fa ?_ | refine fE rfl ?_) | (refine I.nc ?_; first | refine nc ?_ | refine nE rfl ?_) | (refine I.bin ?_; first | refine cm rfl rfl ?_ | refine ad ?_ | refine su ?_ | refine np rfl rfl ?_ | refine eS ?_ | refine nS ?_) | (refine I.pk ?_; first | refine pT ?_ | refine pF ?_) | (refine I.cond ?_; first | refine cT ?_ | refine cF ?_ | refine cP ?_ | refine cN ?_) | refine mN ?_ | refine WX.nil ?_ | refine mU ?_ | refine mA ?_ | (refine I.bi ?_; first | refine ln rfl (by assumption) ?_ | refine l1 ?_ | refine lS ?_ | refine mi ?_ | refine ma ?_) | (refine I.ix ?_; first | refine ix rfl rfl ?_ | refine iI rfl rfl ?_ | refine iP ?_) | (refine I.st ?_; first | refine st rfl rfl ?_ | refine sG rfl rfl ?_) | refine ex ?_ | (refine I.un ?_; first | refine nD ?_ | refine nt ?_) | refine zY ?_ | refine bd ?_ | refine bx rfl (fun _ => ?_) | refine al (fun _ => ?_) | refine sl rfl rfl (by assumption) ?_ | refine cv rfl (by assumption) ?_)
    refine W.loop (α := Nat) (fun k => k ≤ xs.length) (fun k => [(0, .slice p1 xs.length c1), (1, .slice p2 ys.length c2), (5, .int .i64 (bitsK xs ys k : Int)), (6, .int .i64 (k : Int))]) (fun _ => [h1, h2, R]) (fun k => xs.length - k) 0 (Nat.zero_le _) (by repeat (first | exact Fsub.nil | refine Fsub.cons rfl ?_)) (Hsub.of_picks inferInstance) ?_
    intro k hk
    have hbk := bitsK_le xs ys k
    by_cases hlt : k < xs.length
    · obtain ⟨a, ha⟩ : ∃ a, xs[k]? = some a := ⟨_, List.getElem?_eq_getElem hlt⟩
      obtain ⟨b, hb⟩ : ∃ b, ys[k]? = some b := ⟨_, List.getElem?_eq_getElem (by omega)⟩
      have hxa : xorAt xs ys k = a.toNat ^^^ b.toNat := by simp [xorAt, ha, hb]
      have hx256 : a.toNat ^^^ b.toNat < 256 := Nat.xor_lt_two_pow (n := 8) (byte_lt a) (byte_lt b)
      have hsu : bitsK xs ys (k + 1) = bitsK xs ys k + pop (a.toNat ^^^ b.toNat) := by simp only [bitsK, hxa]
      repeat' (first | refine go ?_ | refine mv ?_ | (refine I.ld ?_; first | refine ld rfl ?_ | refine lE rfl (by assumption) ?_ | refine lA rfl ?_ | refine lF rfl (by assumption) ?_) | refine asg ?_ | (refine I.gd ?_; first | refine gy ?_ | refine gn ?_ | refine gnN ?_ | refine gu ?_ | refine guN ?_ | refine gT ?_ | refine gF ?_ | refine gS (fun _ => ?_) (fun _ => ?_)) | (refine I.fa ?_; first | refine fa ?_ | refine fE rfl ?_) | (refine I.nc ?_; first | refine nc ?_ | refine nE rfl ?_) | (refine I.bin ?_; first | refine cm rfl rfl ?_ | refine ad ?_ | refine su ?_ | refine np rfl rfl ?_ | refine eS ?_ | refine nS ?_) | (refine I.pk ?_; first | refine pT ?_ | refine pF ?_) | (refine I.cond ?_; first | refine cT ?_ | refine cF ?_ | refine cP ?_ | refine cN ?_) | refine mN ?_ | refine WX.nil ?_ | refine mU ?_ | refine mA ?_ | (refine I.bi ?_; first | refine ln rfl (by assumption) ?_ | refine l1 ?_ | refine lS ?_ | refine mi ?_ | refine ma ?_) | (refine I.ix ?_; first | refine ix rfl rfl ?_ | refine iI rfl rfl ?_ | refine iP ?_) | (refine I.st ?_; first | refine st rfl rfl ?_ | refine sG rfl rfl ?_) | refine ex ?_ | (refine I.un ?_; first | refine nD ?_ | refine nt ?_) | refine zY ?_ | refine bd ?_ | refine bx rfl (fun _ => ?_) | refine al (fun _ => ?_) | refine sl rfl rfl (by assumption) ?_ | refine cv rfl (by assumption) ?_)
      refine W.quiet Try.mix (by kernel_rfl) ?_
      repeat' (first | refine go ?_ | refine mv ?_ | (refine I.ld ?_; first | refine ld rfl ?_ | refine lE rfl (by assumption) ?_ | refine lA rfl ?_ | refine lF rfl (by assumption) ?_) | refine asg ?_ | (refine I.gd ?_; first | refine gy ?_ | refine gn ?_ | refine gnN ?_ | refine gu ?_ | refine guN ?_ | refine gT ?_ | refine gF ?_ | refine gS (fun _ => ?_) (fun _ => ?_)) | (refine I.fa ?_; first | refine fa ?_ | refine fE rfl ?_) | (refine I.nc ?_; first | refine nc ?_ | refine nE rfl ?_) | (refine I.bin ?_; first | refine cm rfl rfl ?_ | refine ad ?_ | refine su ?_ | refine np rfl rfl ?_ | refine eS ?_ | refine nS ?_) | (refine I.pk ?_; first | refine pT ?_ | refine pF ?_) | (refine I.cond ?_; first | refine cT ?_ | refine cF ?_ | refine cP ?_ | refine cN ?_) | refine mN ?_ | refine WX.nil ?_ | refine mU ?_ | refine mA ?_ | (refine I.bi ?_; first | refine ln rfl (by assumption) ?_ | refine l1 ?_ | refine lS ?_ | refine mi ?_ | refine ma ?_) | (refine I.ix ?_; first | refine ix rfl rfl ?_ | refine iI rfl rfl ?_ | refine iP ?_) | (refine I.st ?_; first | refine st rfl rfl ?_ | refine sG rfl rfl ?_) | refine ex ?_ | (refine I.un ?_; first | refine nD ?_ | refine nt ?_) | refine zY ?_ | refine bd ?_ | refine bx rfl (fun _ => ?_) | refine al (fun _ => ?_) | refine sl rfl rfl (by assumption) ?_ | refine cv rfl (by assumption) ?_ | (refine I.bin ?_; refine WX.xor8 rfl rfl (byte_lt a) (byte_lt b) rfl ?_))
      refine W.loop (α := Nat × Nat) (fun x => x.2 < 256 ∧ x.1 + pop x.2 = bitsK xs ys (k + 1) ∧ x.1 ≤ bitsK xs ys (k + 1)) (fun x => [(0, .slice p1 xs.length c1), (1, .slice p2 ys.length c2), (5, .int .i64 (x.1 : Int)), (6, .int .i64 (k : Int)), (7, .int .u8 (x.2 : Int))]) (fun _ => [h1, h2, R]) (fun x => x.2)
        (bitsK xs ys k, a.toNat ^^^ b.toNat) ⟨hx256, by rw [hsu], by simp only []; omega⟩ (by repeat (first | exact Fsub.nil | refine Fsub.cons rfl ?_)) (Hsub.of_picks inferInstance) ?_
      rintro ⟨c, x⟩ ⟨hx, hc, hcl⟩
      simp only [] at hx hc hcl ⊢
      have hpl := pop_le (a.toNat ^^^ b.toNat)
      by_cases h0 : x = 0
      · have h0' : (x : Int) = 0 := by omega
        obtain rfl : c = bitsK xs ys (k + 1) := by rw [h0] at hc; simpa [pop] using hc
        repeat' (first | refine go ?_ | refine mv ?_ | (refine I.ld ?_; first | refine ld rfl ?_ | refine lE rfl (by assumption) ?_ | refine lA rfl ?_ | refine lF rfl (by assumption) ?_) | refine asg ?_ | (refine I.gd ?_; first | refine gy ?_ | refine gn ?_ | refine gnN ?_ | refine gu ?_ | refine guN ?_ | refine gT ?_ | refine gF ?_ | refine gS (fun _ => ?_) (fun _ => ?_)) | (refine I.fa ?_; first | refine fa ?_ | refine fE rfl ?_) | (refine I.nc ?_; first | refine nc ?_ | refine nE rfl ?_) | (refine I.bin ?_; first | refine cm rfl rfl ?_ | refine ad ?_ | refine su ?_ | refine np rfl rfl ?_ | refine eS ?_ | refine nS ?_) | (refine I.pk ?_; first | refine pT ?_ | refine pF ?_) | (refine I.cond ?_; first | refine cT ?_ | refine cF ?_ | refine cP ?_ | refine cN ?_) | refine mN ?_ | refine WX.nil ?_ | refine mU ?_ | refine mA ?_ | (refine I.bi ?_; first | refine ln rfl (by assumption) ?_ | refine l1 ?_ | refine lS ?_ | refine mi ?_ | refine ma ?_) | (refine I.ix ?_; first | refine ix rfl rfl ?_ | refine iI rfl rfl ?_ | refine iP ?_) | (refine I.st ?_; first | refine st rfl rfl ?_ | refine sG rfl rfl ?_) | refine ex ?_ | (refine I.un ?_; first | refine nD ?_ | refine nt ?_) | refine zY ?_ | refine bd ?_ | refine bx rfl (fun _ => ?_) | refine al (fun _ => ?_) | refine sl rfl rfl (by assumption) ?_ | refine cv rfl (by assumption) ?_)
        exact D.round (k + 1) (by omega) (by omega) (by repeat (first | exact Fsub.nil | refine Fsub.cons rfl ?_)) (Hsub.of_picks inferInstance)
      · have h0' : ¬ (x : Int) = 0 := by omega
        have hph := pop_half hx
        have hx2 : x &&& 1 = x % 2 := Nat.and_one_is_mod x
        repeat' (first | refine go ?_ | refine mv ?_ | (refine I.ld ?_; first | refine ld rfl ?_ | refine lE rfl (by assumption) ?_ | refine lA rfl ?_ | refine lF rfl (by assumption) ?_) | refine asg ?_ | (refine I.gd ?_; first | refine gy ?_ | refine gn ?_ | refine gnN ?_ | refine gu ?_ | refine guN ?_ | refine gT ?_ | refine gF ?_ | refine gS (fun _ => ?_) (fun _ => ?_)) | (refine I.fa ?_; first | refine fa ?_ | refine fE rfl ?_) | (refine I.nc ?_; first | refine nc ?_ | refine nE rfl ?_) | (refine I.bin ?_; first | refine cm rfl rfl ?_ | refine ad ?_ | refine su ?_ | refine np rfl rfl ?_ | refine eS ?_ | refine nS ?_) | (refine I.pk ?_; first | refine pT ?_ | refine pF ?_) | (refine I.cond ?_; first | refine cT ?_ | refine cF ?_ | refine cP ?_ | refine cN ?_) | refine mN ?_ | refine WX.nil ?_ | refine mU ?_ | refine mA ?_ | (refine I.bi ?_; first | refine ln rfl (by assumption) ?_ | refine l1 ?_ | refine lS ?_ | refine mi ?_ | refine ma ?_) | (refine I.ix ?_; first | refine ix rfl rfl ?_ | refine iI rfl rfl ?_ | refine iP ?_) | (refine I.st ?_; first | refine st rfl rfl ?_ | refine sG rfl rfl ?_) | refine ex ?_ | (refine I.un ?_; first | refine nD ?_ | refine nt ?_) | refine zY ?_ | refine bd ?_ | refine bx rfl (fun _ => ?_) | refine al (fun _ => ?_) | refine sl rfl rfl (by assumption) ?_ | refine cv rfl (by assumption) ?_ | (refine I.bin ?_; refine WX.and8 (b := 1) rfl rfl hx (by decide) rfl ?_) | (refine I.cv ?_; refine WX.conv rfl rfl (IntWalk.i64_in _ (by omega)) ?_) | (refine I.bin ?_; refine WX.shrN (m := 1) rfl rfl (by decide) rfl ?_))
        refine D.as 5 (.int .i64 ((c + x % 2 : Nat) : Int)) rfl (by rw [hx2]; congr 1) ?_
        refine D.as 7 (.int .u8 ((x / 2 : Nat) : Int)) rfl rfl ?_
        exact D.round (c + x % 2, x / 2) ⟨by simp only []; omega, by simp only []; omega, by simp only []; omega⟩ (by simp only []; omega) (by repeat (first | exact Fsub.nil | refine Fsub.cons rfl ?_)) (Hsub.of_picks inferInstance)
    · obtain rfl : k = xs.length := by omega
      repeat' (first | refine go ?_ | refine mv ?_ | (refine I.ld ?_; first | refine ld rfl ?_ | refine lE rfl (by assumption) ?_ | refine lA rfl ?_ | refine lF rfl (by assumption) ?_) | refine asg ?_ | (refine I.gd ?_; first | refine gy ?_ | refine gn ?_ | refine gnN ?_ | refine gu ?_ | refine guN ?_ | refine gT ?_ | refine gF ?_ | refine gS (fun _ => ?_) (fun _ => ?_)) | (refine I.fa ?_; first | refine fa ?_ | refine fE rfl ?_) | (refine I.nc ?_; first | refine nc ?_ | refine nE rfl ?_) | (refine I.bin ?_; first | refine cm rfl rfl ?_ | refine ad ?_ | refine su ?_ | refine np rfl rfl ?_ | refine eS ?_ | refine nS ?_) | (refine I.pk ?_; first | refine pT ?_ | refine pF ?_) | (refine I.cond ?_; first | refine cT ?_ | refine cF ?_ | refine cP ?_ | refine cN ?_) | refine mN ?_ | refine WX.nil ?_ | refine mU ?_ | refine mA ?_ | (refine I.bi ?_; first | refine ln rfl (by assumption) ?_ | refine l1 ?_ | refine lS ?_ | refine mi ?_ | refine ma ?_) | (refine I.ix ?_; first | refine ix rfl rfl ?_ | refine iI rfl rfl ?_ | refine iP ?_) | (refine I.st ?_; first | refine st rfl rfl ?_ | refine sG rfl rfl ?_) | refine ex ?_ | (refine I.un ?_; first | refine nD ?_ | refine nt ?_) | refine zY ?_ | refine bd ?_ | refine bx rfl (fun _ => ?_) | refine al (fun _ => ?_) | refine sl rfl rfl (by assumption) ?_ | refine cv rfl (by assumption) ?_)
      exact D.fin1 [h1, h2] _ rfl rfl ⟨rfl, rfl⟩
  · have hne' : ¬ (xs.length : Int) = (ys.length : Int) := by omega
    have hb : bitsN xs ys = 9 := if_neg hne
    rw [hb]
    repeat' (first | refine go ?_ | refine mv ?_ | (refine I.ld ?_; first | refine ld rfl ?_ | refine lE rfl (by assumption) ?_ | refine lA rfl ?_ | refine lF rfl (by assumption) ?_) | refine asg ?_ | (refine I.gd ?_; first | refine gy ?_ | refine gn ?_ | refine gnN ?_ | refine gu ?_ | refine guN ?_ | refine gT ?_ | refine gF ?_ | refine gS (fun _ => ?_) (fun _ => ?_)) | (refine I.fa ?_; first | refine fa ?_ | refine fE rfl ?_) | (refine I.nc ?_; first | refine nc ?_ | refine nE rfl ?_) | (refine I.bin ?_; first | refine cm rfl rfl ?_ | refine ad ?_ | refine su ?_ | refine np rfl rfl ?_ | refine eS ?_ | refine nS ?_) | (refine I.pk ?_; first | refine pT ?_ | refine pF ?_) | (refine I.cond ?_; first | refine cT ?_ | refine cF ?_ | refine cP ?_ | refine cN ?_) | refine mN ?_ | refine WX.nil ?_ | refine mU ?_ | refine mA ?_ | (refine I.bi ?_; first | refine ln rfl (by assumption) ?_ | refine l1 ?_ | refine lS ?_ | refine mi ?_ | refine ma ?_) | (refine I.ix ?_; first | refine ix rfl rfl ?_ | refine iI rfl rfl ?_ | refine iP ?_) | (refine I.st ?_; first | refine st rfl rfl ?_ | refine sG rfl rfl ?_) | refine ex ?_ | (refine I.un ?_; first | refine nD ?_ | refine nt ?_) | refine zY ?_ | refine bd ?_ | refine bx rfl (fun _ => ?_) | refine al (fun _ => ?_) | refine sl rfl rfl (by assumption) ?_ | refine cv rfl (by assumption) ?_)
    exact D.fin1 [h1, h2] _ rfl rfl ⟨rfl, rfl⟩
end Go.Proofs.Ytllopddalmdbjaa
