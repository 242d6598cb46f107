/- The reference's step of the machine in all plain modes (quillwortref06.plain), joined: it computes rPlain. -/
import Derived.Test.YtjkiapgboljabaaRefP1
import Derived.Test.YtjkiapgboljabaaRefP2
import Derived.Test.YtjkiapgboljabaaRefP3
namespace Go.Proofs.Ytjkiapgboljabaa
open Go.RowKit
set_option linter.unusedVariables false
set_option linter.unusedSimpArgs false
set_option maxRecDepth 100000
theorem bf (b v : UInt8) (h : b ≠ v) : ((b.toNat : Int) == (v.toNat : Int)) = false := by
  rw [beq_eq_false_iff_ne]
  intro e
  exact h (UInt8.toNat_inj.1 (by omega))
theorem no_opens (b : UInt8) (h1 : b ≠ 92) (h2 : b ≠ 36) (h3 : b ≠ 96) : opensL b = [] := by
  have := byte_all (fun b => b == 92 || b == 36 || b == 96 || opensL b == []) (by decide +kernel) b
  simpa [h1, h2, h3] using this
theorem plain_r (S : List UInt8) (A : Option Addr) (n k : Nat) (st : Stk) (f : Bool) (c b : UInt8) (at_ : Int) (w : World) (h : Rs w S A n k st) (hd : UInt8 × Int) (hst : st = hd :: st.tail) (hl : st.length ≤ 1000) :
    Calls Try.prog 82 #[.agg #[.string ⟨S.toArray⟩, .slice A n k, .bool f], .int .u8 (c.toNat : Int), .int .u8 (b.toNat : Int), .int .i64 at_] w (Ro w (rPlain st f c b at_).1 (rPlain st f c b at_).2) := by
  rcases Decidable.em (c = 84) with rfl | hnc84
  · exact pl_84 S A n k st f b at_ w h hd hst hl 
  rcases Decidable.em (c = 67) with rfl | hnc67
  · exact pl_67 S A n k st f b at_ w h hd hst hl 
  rcases Decidable.em (c = 80) with rfl | hnc80
  · exact pl_80 S A n k st f b at_ w h hd hst hl 
  rcases Decidable.em (c = 88) with rfl | hnc88
  · rcases Decidable.em (b = 10) with rfl | hnb10
    · exact pl_88a S A n k st f  at_ w h hd hst hl 
    exact pl_88b S A n k st f b at_ w h hd hst hl  (bf b 10 (by assumption))
  rcases Decidable.em (c = 83) with rfl | hnc83
  · rcases Decidable.em (b = 39) with rfl | hnb39
    · exact pl_83a S A n k st f  at_ w h hd hst hl 
    exact pl_83b S A n k st f b at_ w h hd hst hl  (bf b 39 (by assumption))
  rcases Decidable.em (c = 35) with rfl | hnc35
  · rcases Decidable.em (b = 10) with rfl | hnb10
    · exact pl_35a S A n k st f  at_ w h hd hst hl 
    exact pl_35b S A n k st f b at_ w h hd hst hl  (bf b 10 (by assumption))
  rcases Decidable.em (c = 66) with rfl | hnc66
  · rcases Decidable.em (b = 96) with rfl | hnb96
    · exact pl_66a S A n k st f  at_ w h hd hst hl 
    rcases Decidable.em (b = 92) with rfl | hnb92
    · exact pl_66b S A n k st f  at_ w h hd hst hl 
    exact pl_66c S A n k st f b at_ w h hd hst hl  (bf b 96 (by assumption)) (bf b 92 (by assumption))
  rcases Decidable.em (c = 65) with rfl | hnc65
  · rcases Decidable.em (b = 92) with rfl | hnb92
    · exact pl_o92 S A n k st f 65 at_ w h hd hst hl rfl rfl rfl rfl rfl rfl rfl
    rcases Decidable.em (b = 36) with rfl | hnb36
    · exact pl_o36 S A n k st f 65 at_ w h hd hst hl rfl rfl rfl rfl rfl rfl rfl
    rcases Decidable.em (b = 96) with rfl | hnb96
    · exact pl_o96 S A n k st f 65 at_ w h hd hst hl rfl rfl rfl rfl rfl rfl rfl
    rcases Decidable.em (b = 40) with rfl | hnb40
    · exact pl_65_40 S A n k st f  at_ w h hd hst hl 
    rcases Decidable.em (b = 41) with rfl | hnb41
    · exact pl_65_41 S A n k st f  at_ w h hd hst hl 
    exact pl_65_x S A n k st f b at_ w h hd hst hl  (bf b 92 (by assumption)) (bf b 36 (by assumption)) (bf b 96 (by assumption)) (no_opens b (by assumption) (by assumption) (by assumption)) (bf b 40 (by assumption)) (bf b 41 (by assumption))
  rcases Decidable.em (c = 82) with rfl | hnc82
  · rcases Decidable.em (b = 92) with rfl | hnb92
    · exact pl_o92 S A n k st f 82 at_ w h hd hst hl rfl rfl rfl rfl rfl rfl rfl
    rcases Decidable.em (b = 36) with rfl | hnb36
    · exact pl_o36 S A n k st f 82 at_ w h hd hst hl rfl rfl rfl rfl rfl rfl rfl
    rcases Decidable.em (b = 96) with rfl | hnb96
    · exact pl_o96 S A n k st f 82 at_ w h hd hst hl rfl rfl rfl rfl rfl rfl rfl
    rcases Decidable.em (b = 40) with rfl | hnb40
    · exact pl_82_40 S A n k st f  at_ w h hd hst hl 
    rcases Decidable.em (b = 41) with rfl | hnb41
    · exact pl_82_41 S A n k st f  at_ w h hd hst hl 
    exact pl_82_x S A n k st f b at_ w h hd hst hl  (bf b 92 (by assumption)) (bf b 36 (by assumption)) (bf b 96 (by assumption)) (no_opens b (by assumption) (by assumption) (by assumption)) (bf b 40 (by assumption)) (bf b 41 (by assumption))
  rcases Decidable.em (c = 68) with rfl | hnc68
  · rcases Decidable.em (b = 92) with rfl | hnb92
    · exact pl_o92 S A n k st f 68 at_ w h hd hst hl rfl rfl rfl rfl rfl rfl rfl
    rcases Decidable.em (b = 36) with rfl | hnb36
    · exact pl_o36 S A n k st f 68 at_ w h hd hst hl rfl rfl rfl rfl rfl rfl rfl
    rcases Decidable.em (b = 96) with rfl | hnb96
    · exact pl_o96 S A n k st f 68 at_ w h hd hst hl rfl rfl rfl rfl rfl rfl rfl
    rcases Decidable.em (b = 34) with rfl | hnb34
    · exact pl_68_34 S A n k st f  at_ w h hd hst hl 
    exact pl_68_x S A n k st f b at_ w h hd hst hl  (bf b 92 (by assumption)) (bf b 36 (by assumption)) (bf b 96 (by assumption)) (no_opens b (by assumption) (by assumption) (by assumption)) (bf b 34 (by assumption))
  rcases Decidable.em (c = 86) with rfl | hnc86
  · rcases Decidable.em (b = 92) with rfl | hnb92
    · exact pl_o92 S A n k st f 86 at_ w h hd hst hl rfl rfl rfl rfl rfl rfl rfl
    rcases Decidable.em (b = 36) with rfl | hnb36
    · exact pl_o36 S A n k st f 86 at_ w h hd hst hl rfl rfl rfl rfl rfl rfl rfl
    rcases Decidable.em (b = 96) with rfl | hnb96
    · exact pl_o96 S A n k st f 86 at_ w h hd hst hl rfl rfl rfl rfl rfl rfl rfl
    rcases Decidable.em (b = 34) with rfl | hnb34
    · exact pl_e_34 S A n k st f 86 at_ w h hd hst hl rfl rfl rfl rfl rfl rfl rfl rfl rfl rfl
    rcases Decidable.em (b = 125) with rfl | hnb125
    · exact pl_e_125 S A n k st f 86 at_ w h hd hst hl rfl rfl rfl rfl rfl rfl rfl rfl rfl rfl
    rcases Decidable.em (b = 39) with rfl | hnb39
    · exact pl_86_39 S A n k st f  at_ w h hd hst hl 
    exact pl_e_x S A n k st f 86 b at_ w h hd hst hl rfl rfl rfl rfl rfl rfl rfl rfl rfl rfl (bf b 92 (by assumption)) (bf b 36 (by assumption)) (bf b 96 (by assumption)) (no_opens b (by assumption) (by assumption) (by assumption)) (bf b 34 (by assumption)) (bf b 125 (by assumption)) (bf b 39 (by assumption))
  rcases Decidable.em (b = 92) with rfl | hnb92
  · exact pl_o92 S A n k st f c at_ w h hd hst hl (bf c 84 (by assumption)) (bf c 67 (by assumption)) (bf c 80 (by assumption)) (bf c 88 (by assumption)) (bf c 83 (by assumption)) (bf c 35 (by assumption)) (bf c 66 (by assumption))
  rcases Decidable.em (b = 36) with rfl | hnb36
  · exact pl_o36 S A n k st f c at_ w h hd hst hl (bf c 84 (by assumption)) (bf c 67 (by assumption)) (bf c 80 (by assumption)) (bf c 88 (by assumption)) (bf c 83 (by assumption)) (bf c 35 (by assumption)) (bf c 66 (by assumption))
  rcases Decidable.em (b = 96) with rfl | hnb96
  · exact pl_o96 S A n k st f c at_ w h hd hst hl (bf c 84 (by assumption)) (bf c 67 (by assumption)) (bf c 80 (by assumption)) (bf c 88 (by assumption)) (bf c 83 (by assumption)) (bf c 35 (by assumption)) (bf c 66 (by assumption))
  rcases Decidable.em (b = 34) with rfl | hnb34
  · exact pl_e_34 S A n k st f c at_ w h hd hst hl (bf c 84 (by assumption)) (bf c 67 (by assumption)) (bf c 80 (by assumption)) (bf c 88 (by assumption)) (bf c 83 (by assumption)) (bf c 35 (by assumption)) (bf c 66 (by assumption)) (bf c 65 (by assumption)) (bf c 82 (by assumption)) (bf c 68 (by assumption))
  rcases Decidable.em (b = 125) with rfl | hnb125
  · exact pl_e_125 S A n k st f c at_ w h hd hst hl (bf c 84 (by assumption)) (bf c 67 (by assumption)) (bf c 80 (by assumption)) (bf c 88 (by assumption)) (bf c 83 (by assumption)) (bf c 35 (by assumption)) (bf c 66 (by assumption)) (bf c 65 (by assumption)) (bf c 82 (by assumption)) (bf c 68 (by assumption))
  rcases Decidable.em (b = 39) with rfl | hnb39
  · exact pl_e_39 S A n k st f c at_ w h hd hst hl (bf c 84 (by assumption)) (bf c 67 (by assumption)) (bf c 80 (by assumption)) (bf c 88 (by assumption)) (bf c 83 (by assumption)) (bf c 35 (by assumption)) (bf c 66 (by assumption)) (bf c 65 (by assumption)) (bf c 82 (by assumption)) (bf c 68 (by assumption)) (bf c 86 (by assumption))
  exact pl_e_x S A n k st f c b at_ w h hd hst hl (bf c 84 (by assumption)) (bf c 67 (by assumption)) (bf c 80 (by assumption)) (bf c 88 (by assumption)) (bf c 83 (by assumption)) (bf c 35 (by assumption)) (bf c 66 (by assumption)) (bf c 65 (by assumption)) (bf c 82 (by assumption)) (bf c 68 (by assumption)) (bf b 92 (by assumption)) (bf b 36 (by assumption)) (bf b 96 (by assumption)) (no_opens b (by assumption) (by assumption) (by assumption)) (bf b 34 (by assumption)) (bf b 125 (by assumption)) (bf b 39 (by assumption))
end Go.Proofs.Ytjkiapgboljabaa
