/- What the functions of package match come to: walks. -/
import Derived.Test.YtgbajkdomcmblaaMachI
namespace Go.Proofs.Ytgbajkdomcmblaa
open Go Go.RowKit Vc
set_option linter.unusedVariables false
set_option linter.unusedSimpArgs false
private theorem mixed : Try.prog.follows .mixedOrders = true := by kernel_rfl
private theorem fo58_1 : fieldOff Try.prog 58 1 = some 1 := by kernel_rfl
private theorem fo58_2 : fieldOff Try.prog 58 2 = some 2 := by kernel_rfl
private theorem fo58_3 : fieldOff Try.prog 58 3 = some 3 := by kernel_rfl
private theorem fo143_0 : fieldOff Try.prog 143 0 = some 0 := by kernel_rfl
private theorem fo143_1 : fieldOff Try.prog 143 1 = some 1 := by kernel_rfl
private theorem fo143_2 : fieldOff Try.prog 143 2 = some 2 := by kernel_rfl
private theorem fo143_3 : fieldOff Try.prog 143 3 = some 3 := by kernel_rfl
private theorem es29 : elemSize Try.prog 29 = some 1 := by kernel_rfl
private theorem sc3 : scalar Try.prog 3 = true := by kernel_rfl
private theorem sc29 : scalar Try.prog 29 = true := by kernel_rfl
private theorem sc101 : scalar Try.prog 101 = true := by kernel_rfl
private theorem ag58 : aggSize Try.prog 58 = some 4 := by kernel_rfl
private theorem ti3 : tinfo Try.prog 3 = some (some (.int .i64 0), 1, 8) := by kernel_rfl
private theorem ti29 : tinfo Try.prog 29 = some (some (.slice none 0 0), 1, 24) := by kernel_rfl
private theorem ti46 : tinfo Try.prog 46 = some (some (.int .i64 0), 1, 8) := by kernel_rfl
private theorem ti58 : tinfo Try.prog 58 = some (some (.agg #[.int .i64 0, .int .i64 0, .slice none 0 0, .int .i64 0]), 4, 48) := by kernel_rfl
theorem take_spec (w : World) (M : MS) (hm : MB w M) {S : MS} {g : Nat} {rs : List PRule} {wait : List Int} {a : Int} (hM : MatchR w M S g rs wait a) (hg : GoodR rs) (ha : 0 ≤ a) (hab : a + wait.length ≤ 1000000000000) (e : Bool) :
    Fc Try.prog 93 #[.pointer (some ⟨g, 0, none⟩), .bool e] w fun v w' => ∃ M' S', PutR w M S w' M' S' v (takeP rs e wait a).1 ∧ MatchR w' M' S' g rs (takeP rs e wait a).2.1 (takeP rs e wait a).2.2 := by
  have e0 := Stp.refl w (S : MS)
  have hs00 : Ms M M := fun _ h => h
  obtain ⟨tr, Aw, cw, st, hS, hb, hSg, hO, hSo, hT⟩ := hM
  have hmm : Ms (vb g) M := Ms.one (hS _ hSg)
  have hwm : Wr w.heap.size S (vb g) := fun q_ hq_ => .inl (by rw [hq_]; exact hSg)
  have hwo : Wr w.heap.size S (ob (.slice Aw wait.length cw)) := fun q_ hq_ => .inl (hSo q_ hq_)
  have hdj : Dj (ob (.slice Aw wait.length cw)) (vb g) := fun q_ hq_ h => Own.apartBk hO hb (by decide) (h ▸ hq_)
  have hwl := Own.len hO
  refine Fc.enter (n := 88) [(0, .pointer (some ⟨g, 0, none⟩)), (1, .bool e)] Try.func93 rfl rfl (Nat.le_of_ble_eq_true rfl) (.cons rfl (.cons rfl (.nil _))) ?_
  refine CW.seq ?_
  refine CW.region ?_
  refine WL.assign rfl ?_
  refine WL.nil ?_
  refine CW.seq ?_
  refine CW.region ?_
  refine WL.assign rfl ?_
  refine WL.nil ?_
  refine CW.seq ?_
  refine CW.block ?_
  have hO1 : Own TokR 4 58 w M 0 (.slice none 0 0) [] := Own.nil
  have dj2 : Dj (ob (.slice none 0 0)) (ob (.slice Aw wait.length cw)) := Dj.nil _
  have dj3 : Dj (ob (.slice none 0 0)) (vb g) := Dj.nil _
  refine CW.loop (fun m σ wr0 => ∃ wait2 : List Int, ∃ a2 : Int, ∃ st2 : Int, ∃ out : List PTok, ∃ Mr4 : MS, ∃ A11 : Option Addr, ∃ n12 : Nat, ∃ c13 : Nat, ∃ A16 : Option Addr, ∃ n17 : Nat, ∃ c18 : Nat, m = wait2.length ∧ σ = [(0, .pointer (some ⟨g, 0, none⟩)), (1, .bool e), (5, .slice A16 n17 c18)] ∧ (Up w M wr0 Mr4) ∧ (Stp w wr0 S) ∧ (Ms M Mr4) ∧ (Ms M Mr4) ∧ (Own IntR 1 3 wr0 Mr4 0 (.slice A11 n12 c13) (wait2)) ∧ (Bk wr0 g 143 [.pointer (some ⟨tr, 0, none⟩), .slice A11 n12 c13, .int .i64 a2, .int .i64 st2]) ∧ (Own TokR 4 58 wr0 Mr4 0 (.slice A16 n17 c18) (out)) ∧ (Ms (ob (.slice A11 n12 c13)) Mr4) ∧ (Wr w.heap.size S (ob (.slice A11 n12 c13))) ∧ (Dj (ob (.slice A11 n12 c13)) (vb g)) ∧ (Dj (ob (.slice A11 n12 c13)) (ob (.slice A16 n17 c18))) ∧ (Ms (ob (.slice A16 n17 c18)) Mr4) ∧ (∀ q_, (ob (.slice A16 n17 c18)) q_ → w.heap.size ≤ q_) ∧ (Dj (ob (.slice A16 n17 c18)) (vb g)) ∧ (takeP rs e wait a = (out ++ (takeP rs e wait2 a2).1, (takeP rs e wait2 a2).2)) ∧ (0 ≤ a2) ∧ (a2 + wait2.length ≤ 1000000000000) ∧ (out.length + wait2.length ≤ wait.length)) _ _ (.cons (t := 0) rfl (.cons (t := 1) rfl (.cons (t := 5) rfl (.nil _)))) ⟨wait, a, st, [], M, Aw, wait.length, cw, none, 0, 0, rfl, rfl, Up.refl hm, e0, fun _ h => h, hs00, hO, hb, hO1, (Own.ms hO), hwo, (Dj.symm (Dj.symm hdj)), (Dj.symm dj2), (Ms.nil M), (Fr.nil w.heap.size), dj3, by simp, ha, hab, by simp⟩ ?_
  rintro m _ wr0 ⟨wait2, a2, st2, out, Mr4, A11, n12, c13, A16, n17, c18, rfl, rfl, hU5, hE6, hsp8, hsb9, h10, h14, h15, mem19, wr20, dj21, dj22, mem23, wr24, dj25, hf, ha2, hab2, hol⟩
  have hm7 := Up.mb hU5
  obtain rfl := Own.n h10
  have hlen26 := Own.len h10
  have mem27 : Ms (vb g) Mr4 := (fun k h => hsp8 k (hmm k h))
  obtain rfl := Own.n h15
  have hlen28 := Own.len h15
  have hll := long_le hg.right wait2
  refine CW.seq ?_
  refine CW.seq ?_
  refine CW.region ?_
  refine WL.move rfl ?_
  refine WL.nilCheck rfl ?_
  refine WL.fieldAddr fo143_1 rfl ?_
  refine WL.load sc29 rfl ((Bk.at_ (M := fun _ => False) h14 (fun h => h)).cell 1 _ rfl) ?_
  refine WL.len Try.underlying29 rfl ?_
  refine WL.gtr rfl rfl ?_
  refine WL.nil ?_
  refine CW.condP rfl (fun hc29 => ?_) (fun hc29 => ?_)
  · have hne : wait2 ≠ [] := List.length_pos_iff.1 (by omega)
    refine CW.skip ?_
    refine CW.block ?_
    refine CW.seq ?_
    refine CW.drawn [] (fun w1 w' => Ext w1 w') mixed (fun w30 ed31 hh32 => ?_)
    have u34 := Ext.up ed31 hm7
    have e35 := Stp.ext hE6 ed31
    have hm36 := Up.mb u34
    have hcl33 := Stp.refl w30 (fun _ => False)
    refine DW.rF 0 rfl (by kernel_rfl) (fun _ _ _ h => h) (fun w' => Rn.move rfl) ?_
    refine DW.rF 1 rfl (by kernel_rfl) (fun _ _ _ h => h) (fun w' => Rn.nilCheck rfl) ?_
    refine DW.rF 2 rfl (by kernel_rfl) (fun _ _ _ h => h) (fun w' => Rn.fieldAddr fo143_0 rfl) ?_
    have h37 := Bk.ext h14 ed31
    refine DW.rT 3 rfl (by kernel_rfl) (fun _ _ _ h => h) (fun w' hC => Rn.load sc101 rfl ((Bk.at_ (M := fun _ => False) (Bk.ext h37 hC) (fun h => h)).cell 0 _ rfl)) ?_
    refine DW.rF 4 rfl (by kernel_rfl) (fun _ _ _ h => h) (fun w' => Rn.move rfl) ?_
    refine DW.rF 5 rfl (by kernel_rfl) (fun _ _ _ h => h) (fun w' => Rn.nilCheck rfl) ?_
    refine DW.rF 6 rfl (by kernel_rfl) (fun _ _ _ h => h) (fun w' => Rn.fieldAddr fo143_1 rfl) ?_
    refine DW.rT 7 rfl (by kernel_rfl) (fun _ _ _ h => h) (fun w' hC => Rn.load sc29 rfl ((Bk.at_ (M := fun _ => False) (Bk.ext h37 hC) (fun h => h)).cell 1 _ rfl)) ?_
    refine DW.only 8 (by kernel_rfl) rfl (fun _ => hcl33) ?_
    have h38 := Own.ext h10 ed31 u34 (fun _ h => h)
    refine WL.call Try.func109 rfl rfl (.cons rfl (.cons rfl (.nil))) (TrieR.longest ((hT.up (Up.trans hU5 u34)).up (Up.here hm36 (Ms.no _))) (MB.none _) (Own.read00 h38 hm36)) (fun _ w39 hr40 => ?_)
    obtain ⟨rfl, he41⟩ := hr40
    have u42 := Ext.up he41 hm36
    have e43 := Stp.ext e35 he41
    have hm44 := Up.mb u42
    have hcl45 := Stp.ext hcl33 he41
    refine WL.nil ?_
    refine DW.rF 9 rfl (by kernel_rfl) (fun _ _ _ h => h) (fun w' => Rn.move rfl) ?_
    refine DW.rF 10 rfl (by kernel_rfl) (fun _ _ _ h => h) (fun w' => Rn.extract rfl rfl) ?_
    refine DW.rF 11 rfl (by kernel_rfl) (fun _ _ _ h => h) (fun w' => Rn.extract rfl rfl) ?_
    refine DW.rF 12 rfl (by kernel_rfl) (fun _ _ _ h => h) (fun w' => Rn.extract rfl rfl) ?_
    refine DW.rF 13 rfl (by kernel_rfl) (fun _ _ _ h => h) (fun w' => Rn.assign rfl) ?_
    refine DW.rF 14 rfl (by kernel_rfl) (fun _ _ _ h => h) (fun w' => Rn.assign rfl) ?_
    refine DW.rF 15 rfl (by kernel_rfl) (fun _ _ _ h => h) (fun w' => Rn.assign rfl) ?_
    refine DW.done (by kernel_rfl) (fun _ => hcl45) ?_
    refine CW.seq ?_
    refine CW.drawn [12] (fun w1 w' => Ext w1 w') mixed (fun w46 ed47 hh48 => ?_)
    have u50 := Ext.up ed47 hm44
    have e51 := Stp.ext e43 ed47
    have hm52 := Up.mb u50
    have hcl49 := Stp.refl w46 (fun _ => False)
    refine DW.rF 0 rfl (by kernel_rfl) (fun _ _ _ h => h) (fun w' => Rn.move rfl) ?_
    refine DW.rF 1 rfl (by kernel_rfl) (fun _ _ _ h => h) (fun w' => Rn.nilCheck rfl) ?_
    refine DW.rF 2 rfl (by kernel_rfl) (fun _ _ _ h => h) (fun w' => Rn.fieldAddr fo143_3 rfl) ?_
    have h53 := Bk.ext h37 he41
    have h54 := Bk.ext h53 ed47
    refine DW.rT 3 rfl (by kernel_rfl) (fun _ _ _ h => h) (fun w' hC => Rn.load sc3 rfl ((Bk.at_ (M := fun _ => False) (Bk.ext h54 hC) (fun h => h)).cell 3 _ rfl)) ?_
    refine DW.rF 4 rfl (by kernel_rfl) (fun _ _ _ h => h) (fun w' => Rn.move rfl) ?_
    refine DW.rF 5 rfl (by kernel_rfl) (fun _ _ _ h => h) (fun w' => Rn.nilCheck rfl) ?_
    refine DW.rF 6 rfl (by kernel_rfl) (fun _ _ _ h => h) (fun w' => Rn.fieldAddr fo143_1 rfl) ?_
    refine DW.rT 7 rfl (by kernel_rfl) (fun _ _ _ h => h) (fun w' hC => Rn.load sc29 rfl ((Bk.at_ (M := fun _ => False) (Bk.ext h54 hC) (fun h => h)).cell 1 _ rfl)) ?_
    refine DW.rF 8 rfl (by kernel_rfl) (fun _ _ _ h => h) (fun w' => Rn.len Try.underlying29 rfl) ?_
    refine DW.rF 9 rfl (by kernel_rfl) (fun _ _ _ h => h) (fun w' => Rn.rn (Rn.addw rfl rfl)) ?_
    refine DW.rF 10 rfl (by kernel_rfl) (fun _ _ _ h => h) (fun w' => Rn.nilCheck rfl) ?_
    refine DW.rF 11 rfl (by kernel_rfl) (fun _ _ _ h => h) (fun w' => Rn.fieldAddr fo143_3 rfl) ?_
    refine DW.only 12 (by kernel_rfl) rfl (fun _ => hcl49) ?_
    refine WL.store (o := 3) (by rw [ti3]; rfl) rfl rfl rfl h54 (Nat.le_of_ble_eq_true rfl) (fun w55 hb59 hs57 => ?_)
    have hb56 : Bk w55 g 143 [.pointer (some ⟨tr, 0, none⟩), .slice A11 wait2.length c13, .int .i64 a2, .int .i64 (IntKind.i64.wrap (st2 + (wait2.length : Int)))] := hb59
    have u58 := Stp.upM hs57 hm52 mem27
    have e60 := Stp.wr e51 hs57 hwm
    have hm61 := Up.mb u58
    refine WL.nil ?_
    refine DW.done (by kernel_rfl) (notFresh (by kernel_rfl)) ?_
    refine CW.seq ?_
    refine CW.seq ?_
    refine CW.region ?_
    refine WL.move rfl ?_
    refine WL.move rfl ?_
    cases hg62 : openP rs wait2
    · refine WL.gskip rfl rfl rfl ?_
      refine WL.gskip rfl rfl rfl ?_
      refine WL.pickF rfl rfl ?_
      refine WL.nil ?_
      refine CW.condF rfl ?_
      refine CW.skip ?_
      refine CW.seq ?_
      refine CW.region ?_
      refine WL.move rfl ?_
      refine WL.nilCheck rfl ?_
      refine WL.fieldAddr fo143_2 rfl ?_
      refine WL.load sc3 rfl ((Bk.at_ (M := fun _ => False) hb56 (fun h => h)).cell 2 _ rfl) ?_
      refine WL.move rfl ?_
      refine WL.imax rfl rfl ?_
      refine WL.buildP (cs := #[.int .i64 a2, .int .i64 (max 1 ((longestP rs wait2).2)), .slice none 0 0, .int .i64 0]) (.cons rfl (.cons rfl (.nil))) (by kernel_rfl) ?_
      refine WL.alloc (cs := [.int .i64 0, .int .i64 0, .slice none 0 0, .int .i64 0]) ti58 rfl (fun g63 w64 hg65 hb66 he67 => ?_)
      obtain ⟨M68, u69, mem70, hsub71, hinv72⟩ := Ext.addVar he67 hm61 hg65 hb66
      have ge73 : ∀ q_, vb g63 q_ → w55.heap.size ≤ q_ := fun q_ hq_ => by rw [hq_]; exact hg65
      have mem74 := Ms.one mem70
      have e75 := Stp.ext e60 he67
      have hm76 := Up.mb u69
      have hs077 : Ms M M68 := fun k h => hsub71 k (hsp8 k h)
      have dj78 := Dj.fresh (T := (ob (.slice A11 wait2.length c13))) ge73 mem19 hm61
      have dj79 := Dj.fresh (T := (vb g)) ge73 mem27 hm61
      have dj80 := Dj.fresh (T := (ob (.slice A16 out.length c18))) ge73 mem23 hm61
      have fr81 := Ge.le ge73 (Stp.size e60)
      refine WL.storeAll (vs := [.int .i64 a2, .int .i64 (max 1 ((longestP rs wait2).2)), .slice none 0 0, .int .i64 0]) (by rw [ti58]; rfl) rfl rfl (by simp [Value.oneCell']) hb66 rfl (fun w82 hb83 hs84 => ?_)
      have u85 := Stp.upM hs84 hm76 mem74
      have e86 := Stp.wr e75 hs84 (Wr.ofFr S fr81)
      have hm87 := Up.mb u85
      refine WL.nil ?_
      refine CW.seq ?_
      refine CW.seq ?_
      refine CW.region ?_
      refine WL.move rfl ?_
      refine WL.lss rfl rfl ?_
      refine WL.nil ?_
      refine CW.condP rfl (fun hc88 => ?_) (fun hc88 => ?_)
      · have htok : tokP rs wait2 a2 = ⟨a2, max 1 (longestP rs wait2).2, [], 3⟩ := by
          unfold tokP
          rw [if_pos hc88, (hll.2.2.2 hc88).2]; rfl
        have htl : (tokP rs wait2 a2).len = max 1 (longestP rs wait2).2 := by rw [htok]
        have hpos : 0 < wait2.length := List.length_pos_iff.2 hne
        refine CW.region ?_
        refine WL.fieldAddr fo58_3 rfl ?_
        refine WL.store (o := 3) (by rw [ti46]; rfl) rfl rfl rfl hb83 (Nat.le_of_ble_eq_true rfl) (fun w89 hb93 hs91 => ?_)
        have hb90 : Bk w89 g63 58 [.int .i64 a2, .int .i64 (max 1 ((longestP rs wait2).2)), .slice none 0 0, .int .i64 3] := hb93
        have u92 := Stp.upM hs91 hm87 mem74
        have e94 := Stp.wr e86 hs91 (Wr.ofFr S fr81)
        have hm95 := Up.mb u92
        refine WL.nil ?_
        refine CW.seq ?_
        refine CW.region ?_
        refine WL.move rfl ?_
        refine WL.loadAgg (cs := [.int .i64 a2, .int .i64 (max 1 ((longestP rs wait2).2)), .slice none 0 0, .int .i64 3]) ag58 rfl (Bk.at_ (M := fun _ => False) hb90 (fun h => h)) ?_
        refine WL.bslice1 (R := TokR) (y' := (⟨a2, max 1 ((longestP rs wait2).2), [], 3⟩ : PTok)) Try.underlying55 ti58 rfl (by decide) (by decide) rfl ⟨_, rfl, Sl.nil, by simp only [I64]; omega, by simp only [I64]; omega, by simp only [I64]; omega⟩ rfl hm95 (fun v96 w97 hS98 he99 => ?_)
        have u100 := Ext.up he99 hm95
        have e101 := Stp.ext e94 he99
        have hm102 := Up.mb u100
        have h112 := Own.ext h15 ed31 u34 (fun _ h => h)
        have h113 := Own.ext h112 he41 u42 (fun _ h => h)
        have h114 := Own.ext h113 ed47 u50 (fun _ h => h)
        have h115 := Own.step h114 hs57 dj25 u58 mem23
        have h116 := Own.ext h115 he67 u69 hsub71
        have mem117 : Ms (ob (.slice A16 out.length c18)) M68 := (fun k h => hsub71 k (mem23 k h))
        have h118 := Own.step h116 hs84 (Dj.symm dj80) u85 mem117
        have h119 := Own.step h118 hs91 (Dj.symm dj80) u92 mem117
        have h120 := Own.ext h119 he99 u100 (fun _ h => h)
        refine WL.appendR Try.underlying55 ti58 rfl (by decide) rfl rfl h120 (Sl.atl hS98) hm102 (by decide) (by first | omega | (simp; omega) | (simp only [List.length_drop]; omega)) (fun A103 c104 w105 M106 hO107 hs108 u109 hsub110 hnew111 => ?_)
        have e121 := Stp.wr e101 hs108 (Wr.ofFr S wr24)
        have hm122 := Up.mb u109
        have hs0123 : Ms M M106 := fun k h => hsub110 k (hs077 k h)
        have mem125 : Ms (ob (.slice A11 wait2.length c13)) M68 := (fun k h => hsub71 k (mem19 k h))
        have dj124 := Dj.grow (Dj.symm dj22) hnew111 mem125 hm102
        have mem127 : Ms (vb g) M68 := (fun k h => hsub71 k (mem27 k h))
        have dj126 := Dj.grow dj25 hnew111 mem127 hm102
        have dj128 := Dj.grow (Dj.symm dj80) hnew111 mem74 hm102
        have fr130 := Ge.grow wr24 hnew111 (Stp.size e101)
        refine WL.assign rfl ?_
        refine WL.nil ?_
        refine CW.seq ?_
        refine CW.drawn [11] (fun w1 w' => Ext w1 w') mixed (fun w131 ed132 hh133 => ?_)
        have u135 := Ext.up ed132 hm122
        have e136 := Stp.ext e121 ed132
        have hm137 := Up.mb u135
        have hcl134 := Stp.refl w131 (fun _ => False)
        refine DW.rF 0 rfl (by kernel_rfl) (fun _ _ _ h => h) (fun w' => Rn.move rfl) ?_
        refine DW.rF 1 rfl (by kernel_rfl) (fun _ _ _ h => h) (fun w' => Rn.move rfl) ?_
        refine DW.rF 2 rfl (by kernel_rfl) (fun _ _ _ h => h) (fun w' => Rn.nilCheck rfl) ?_
        refine DW.rF 3 rfl (by kernel_rfl) (fun _ _ _ h => h) (fun w' => Rn.fieldAddr fo143_1 rfl) ?_
        have h138 := Bk.ext hb56 he67
        have h139 := Bk.stp h138 hs84 ((Dj.symm dj79) _ rfl)
        have h140 := Bk.stp h139 hs91 ((Dj.symm dj79) _ rfl)
        have h141 := Bk.ext h140 he99
        have h142 := Bk.stp h141 hs108 ((Dj.symm dj25) _ rfl)
        have h143 := Bk.ext h142 ed132
        refine DW.rT 4 rfl (by kernel_rfl) (fun _ _ _ h => h) (fun w' hC => Rn.load sc29 rfl ((Bk.at_ (M := fun _ => False) (Bk.ext h143 hC) (fun h => h)).cell 1 _ rfl)) ?_
        refine DW.rF 5 rfl (by kernel_rfl) (fun _ _ _ h => h) (fun w' => Rn.fieldAddr fo58_1 rfl) ?_
        have h144 := Bk.ext hb90 he99
        have h145 := Bk.stp h144 hs108 (dj80 _ rfl)
        have h146 := Bk.ext h145 ed132
        refine DW.rT 6 rfl (by kernel_rfl) (fun _ _ _ h => h) (fun w' hC => Rn.load sc3 rfl ((Bk.at_ (M := fun _ => False) (Bk.ext h146 hC) (fun h => h)).cell 1 _ rfl)) ?_
        have h153 := Own.ext h38 he41 u42 (fun _ h => h)
        have h154 := Own.ext h153 ed47 u50 (fun _ h => h)
        have h155 := Own.step h154 hs57 dj21 u58 mem19
        have h156 := Own.ext h155 he67 u69 hsub71
        have mem157 : Ms (ob (.slice A11 wait2.length c13)) M68 := (fun k h => hsub71 k (mem19 k h))
        have h158 := Own.step h156 hs84 (Dj.symm dj78) u85 mem157
        have h159 := Own.step h158 hs91 (Dj.symm dj78) u92 mem157
        have h160 := Own.ext h159 he99 u100 (fun _ h => h)
        have mem161 : Ms (ob (.slice A11 wait2.length c13)) M106 := (fun k h => hsub110 k (mem125 k h))
        have h162 := Own.step h160 hs108 dj22 u109 mem161
        have h163 := Own.ext h162 ed132 u135 (fun _ h => h)
        have hD152 := Own.piece h163
        obtain ⟨A147, c148, hRn149, hD150, hl151⟩ := SlD.cutL hD152 (i := max 1 ((longestP rs wait2).2)) (by omega) (by omega)
        refine DW.rF 7 rfl (by kernel_rfl) (fun _ _ _ h => h) (fun w' => Rn.rn (hRn149 es29 rfl rfl)) ?_
        refine DW.only 8 (by kernel_rfl) rfl (fun _ => hcl134) ?_
        refine WL.appendR Try.underlying29 ti3 rfl (by decide) rfl rfl (Own.nil (R := IntR) (sz := 1) (e := 3) (w := w131) (M := M106) (B := 0)) (SlD.sl hD150) hm137 (by decide) (by first | omega | (simp; omega) | (simp only [List.length_drop]; omega)) (fun A164 c165 w166 M167 hO168 hs169 u170 hsub171 hnew172 => ?_)
        have hO175 : Own IntR 1 3 w166 M167 0 (.slice A164 ((wait2.drop (max 1 ((longestP rs wait2).2)).toNat)).length c165) ((wait2.drop (max 1 ((longestP rs wait2).2)).toNat)) := hO168
        have he173 : Ext w131 w166 := Stp.to hs169 (fun k h => by have h : (none : Option Nat) = some k := h; cases h)
        have ge174 : ∀ q_, (ob (.slice A164 ((wait2.drop (max 1 ((longestP rs wait2).2)).toNat)).length c165)) q_ → w131.heap.size ≤ q_ := fun q_ hq_ => (hnew172 q_ hq_).elim (fun h => by have h : (none : Option Nat) = some q_ := h; cases h) id
        have e176 := Stp.ext e136 he173
        have hm177 := Up.mb u170
        have hcl178 := Stp.ext hcl134 he173
        have hs0179 : Ms M M167 := fun k h => hsub171 k (hs0123 k h)
        have dj180 := Dj.fresh (T := (ob (.slice A11 wait2.length c13))) ge174 mem161 hm137
        have mem182 : Ms (vb g) M106 := (fun k h => hsub110 k (mem127 k h))
        have dj181 := Dj.fresh (T := (vb g)) ge174 mem182 hm137
        have mem184 : Ms (ob (.slice A103 (out ++ [(⟨a2, max 1 ((longestP rs wait2).2), [], 3⟩ : PTok)]).length c104)) M106 := (Own.ms hO107)
        have dj183 := Dj.fresh (T := (ob (.slice A103 (out ++ [(⟨a2, max 1 ((longestP rs wait2).2), [], 3⟩ : PTok)]).length c104))) ge174 mem184 hm137
        have mem186 : Ms (vb g63) M106 := (fun k h => hsub110 k (mem74 k h))
        have dj185 := Dj.fresh (T := (vb g63)) ge174 mem186 hm137
        have fr187 := Ge.le ge174 (Stp.size e136)
        refine WL.nil ?_
        refine DW.rF 9 rfl (by kernel_rfl) (fun _ _ _ h => h) (fun w' => Rn.nilCheck rfl) ?_
        refine DW.rF 10 rfl (by kernel_rfl) (fun _ _ _ h => h) (fun w' => Rn.fieldAddr fo143_1 rfl) ?_
        refine DW.only 11 (by kernel_rfl) rfl (fun _ => hcl178) ?_
        have h192 := Bk.ext h143 he173
        have mem193 : Ms (vb g) M167 := (fun k h => hsub171 k (mem182 k h))
        refine WL.store (o := 1) (by rw [ti29]; rfl) rfl rfl rfl h192 (Nat.le_of_ble_eq_true rfl) (fun w188 hb194 hs190 => ?_)
        have hb189 : Bk w188 g 143 [.pointer (some ⟨tr, 0, none⟩), .slice A164 (((wait2.drop (max 1 ((longestP rs wait2).2)).toNat)).length) c165, .int .i64 a2, .int .i64 (IntKind.i64.wrap (st2 + (wait2.length : Int)))] := hb194
        have u191 := Stp.upM hs190 hm177 mem193
        have e195 := Stp.wr e176 hs190 hwm
        have hm196 := Up.mb u191
        refine WL.nil ?_
        refine DW.done (by kernel_rfl) (notFresh (by kernel_rfl)) ?_
        refine CW.drawn [9] (fun w1 w' => Ext w1 w') mixed (fun w197 ed198 hh199 => ?_)
        have u201 := Ext.up ed198 hm196
        have e202 := Stp.ext e195 ed198
        have hm203 := Up.mb u201
        have hcl200 := Stp.refl w197 (fun _ => False)
        refine DW.rF 0 rfl (by kernel_rfl) (fun _ _ _ h => h) (fun w' => Rn.move rfl) ?_
        refine DW.rF 1 rfl (by kernel_rfl) (fun _ _ _ h => h) (fun w' => Rn.nilCheck rfl) ?_
        refine DW.rF 2 rfl (by kernel_rfl) (fun _ _ _ h => h) (fun w' => Rn.fieldAddr fo143_2 rfl) ?_
        have h204 := Bk.ext hb189 ed198
        refine DW.rT 3 rfl (by kernel_rfl) (fun _ _ _ h => h) (fun w' hC => Rn.load sc3 rfl ((Bk.at_ (M := fun _ => False) (Bk.ext h204 hC) (fun h => h)).cell 2 _ rfl)) ?_
        refine DW.rF 4 rfl (by kernel_rfl) (fun _ _ _ h => h) (fun w' => Rn.fieldAddr fo58_1 rfl) ?_
        have h205 := Bk.ext h146 he173
        have h206 := Bk.stp h205 hs190 (dj79 _ rfl)
        have h207 := Bk.ext h206 ed198
        refine DW.rT 5 rfl (by kernel_rfl) (fun _ _ _ h => h) (fun w' hC => Rn.load sc3 rfl ((Bk.at_ (M := fun _ => False) (Bk.ext h207 hC) (fun h => h)).cell 1 _ rfl)) ?_
        refine DW.rF 6 rfl (by kernel_rfl) (fun _ _ _ h => h) (fun w' => Rn.add rfl rfl (by omega)) ?_
        refine DW.rF 7 rfl (by kernel_rfl) (fun _ _ _ h => h) (fun w' => Rn.nilCheck rfl) ?_
        refine DW.rF 8 rfl (by kernel_rfl) (fun _ _ _ h => h) (fun w' => Rn.fieldAddr fo143_2 rfl) ?_
        refine DW.only 9 (by kernel_rfl) rfl (fun _ => hcl200) ?_
        refine WL.store (o := 2) (by rw [ti3]; rfl) rfl rfl rfl h204 (Nat.le_of_ble_eq_true rfl) (fun w208 hb212 hs210 => ?_)
        have hb209 : Bk w208 g 143 [.pointer (some ⟨tr, 0, none⟩), .slice A164 (((wait2.drop (max 1 ((longestP rs wait2).2)).toNat)).length) c165, .int .i64 (a2 + (max 1 ((longestP rs wait2).2))), .int .i64 (IntKind.i64.wrap (st2 + (wait2.length : Int)))] := hb212
        have u211 := Stp.upM hs210 hm203 mem193
        have e213 := Stp.wr e202 hs210 hwm
        have hm214 := Up.mb u211
        refine WL.nil ?_
        refine DW.done (by kernel_rfl) (notFresh (by kernel_rfl)) ?_
        refine Blk.nrm ?_
        have mem215 : Ms (ob (.slice A164 ((wait2.drop (max 1 ((longestP rs wait2).2)).toNat)).length c165)) M167 := (Own.ms hO175)
        have h216 := Own.step hO175 hs190 dj181 u191 mem215
        have h217 := Own.ext h216 ed198 u201 (fun _ h => h)
        have h218 := Own.step h217 hs210 dj181 u211 mem215
        have h219 := Own.ext hO107 ed132 u135 (fun _ h => h)
        have h220 := Own.ext h219 he173 u170 hsub171
        have mem221 : Ms (ob (.slice A103 (out ++ [(⟨a2, max 1 ((longestP rs wait2).2), [], 3⟩ : PTok)]).length c104)) M167 := (fun k h => hsub171 k (mem184 k h))
        have h222 := Own.step h220 hs190 dj126 u191 mem221
        have h223 := Own.ext h222 ed198 u201 (fun _ h => h)
        have h224 := Own.step h223 hs210 dj126 u211 mem221
        refine Loop.again _ _ ?_ ?_ ⟨wait2.drop (tokP rs wait2 a2).len.toNat, a2 + (tokP rs wait2 a2).len, IntKind.i64.wrap (st2 + (wait2.length : Int)), out ++ [tokP rs wait2 a2], M167, A164, ((wait2.drop (max 1 ((longestP rs wait2).2)).toNat)).length, c165, A103, (out ++ [(⟨a2, max 1 ((longestP rs wait2).2), [], 3⟩ : PTok)]).length, c104, rfl, rfl, (Up.trans hU5 (Up.trans u34 (Up.trans u42 (Up.trans u50 (Up.trans u58 (Up.trans u69 (Up.trans u85 (Up.trans u92 (Up.trans u100 (Up.trans u109 (Up.trans u135 (Up.trans u170 (Up.trans u191 (Up.trans u201 u211)))))))))))))), e213, hs0179, hs0179, htl ▸ h218, by rw [htl]; exact hb209, htok ▸ h224, mem215, (Wr.ofFr S fr187), dj181, dj183, mem221, fr130, dj126, by rw [hf, take_cons hne (by simp [*])]; simp, by omega, by rw [htl]; simp only [List.length_drop]; omega, by simp only [List.length_append, List.length_cons, List.length_nil, List.length_drop, htl]; omega⟩
        · simp only [List.length_drop]; omega
        · exact .cons (t := 0) rfl (.cons (t := 1) rfl (.cons (t := 5) rfl (.nil _)))
      · have htok : tokP rs wait2 a2 = ⟨a2, max 1 (longestP rs wait2).2, outP rs (longestP rs wait2).1, 0⟩ := by
          unfold tokP
          rw [if_neg hc88]
        have htl : (tokP rs wait2 a2).len = max 1 (longestP rs wait2).2 := by rw [htok]
        have hpos : 0 < wait2.length := List.length_pos_iff.2 hne
        refine CW.region ?_
        refine WL.move rfl ?_
        refine WL.nilCheck rfl ?_
        refine WL.fieldAddr fo143_0 rfl ?_
        have h225 := Bk.ext hb56 he67
        have h226 := Bk.stp h225 hs84 ((Dj.symm dj79) _ rfl)
        refine WL.load sc101 rfl ((Bk.at_ (M := fun _ => False) h226 (fun h => h)).cell 0 _ rfl) ?_
        refine WL.move rfl ?_
        refine WL.call Try.func110 rfl rfl (.cons rfl (.cons rfl (.nil))) ((hT.up (Up.trans hU5 (Up.trans u34 (Up.trans u42 (Up.trans u50 (Up.trans u58 (Up.trans u69 u85))))))).out hm87 (k := (longestP rs wait2).1) (by omega) (by omega) hg.out) (fun _ w230 hr231 => ?_)
        obtain ⟨⟨A227, c228, rfl, hD229⟩, he232⟩ := hr231
        have u233 := Ext.up he232 hm87
        have e234 := Stp.ext e86 he232
        have hm235 := Up.mb u233
        refine WL.fieldAddr fo58_2 rfl ?_
        have h240 := Bk.ext hb83 he232
        refine WL.store (o := 2) (by rw [ti29]; rfl) rfl rfl rfl h240 (Nat.le_of_ble_eq_true rfl) (fun w236 hb241 hs238 => ?_)
        have hb237 : Bk w236 g63 58 [.int .i64 a2, .int .i64 (max 1 ((longestP rs wait2).2)), .slice A227 ((outP rs (longestP rs wait2).1).length) c228, .int .i64 0] := hb241
        have u239 := Stp.upM hs238 hm235 mem74
        have e242 := Stp.wr e234 hs238 (Wr.ofFr S fr81)
        have hm243 := Up.mb u239
        refine WL.nil ?_
        refine CW.seq ?_
        refine CW.region ?_
        refine WL.move rfl ?_
        refine WL.loadAgg (cs := [.int .i64 a2, .int .i64 (max 1 ((longestP rs wait2).2)), .slice A227 ((outP rs (longestP rs wait2).1).length) c228, .int .i64 0]) ag58 rfl (Bk.at_ (M := fun _ => False) hb237 (fun h => h)) ?_
        refine WL.bslice1 (R := TokR) (y' := (⟨a2, max 1 ((longestP rs wait2).2), outP rs (longestP rs wait2).1, 0⟩ : PTok)) Try.underlying55 ti58 rfl (by decide) (by decide) rfl ⟨_, rfl, SlD.sl (hD229.up u239), by simp only [I64]; omega, by simp only [I64]; omega, by simp only [I64]; omega⟩ rfl hm243 (fun v244 w245 hS246 he247 => ?_)
        have u248 := Ext.up he247 hm243
        have e249 := Stp.ext e242 he247
        have hm250 := Up.mb u248
        have h260 := Own.ext h15 ed31 u34 (fun _ h => h)
        have h261 := Own.ext h260 he41 u42 (fun _ h => h)
        have h262 := Own.ext h261 ed47 u50 (fun _ h => h)
        have h263 := Own.step h262 hs57 dj25 u58 mem23
        have h264 := Own.ext h263 he67 u69 hsub71
        have mem265 : Ms (ob (.slice A16 out.length c18)) M68 := (fun k h => hsub71 k (mem23 k h))
        have h266 := Own.step h264 hs84 (Dj.symm dj80) u85 mem265
        have h267 := Own.ext h266 he232 u233 (fun _ h => h)
        have h268 := Own.step h267 hs238 (Dj.symm dj80) u239 mem265
        have h269 := Own.ext h268 he247 u248 (fun _ h => h)
        refine WL.appendR Try.underlying55 ti58 rfl (by decide) rfl rfl h269 (Sl.atl hS246) hm250 (by decide) (by first | omega | (simp; omega) | (simp only [List.length_drop]; omega)) (fun A251 c252 w253 M254 hO255 hs256 u257 hsub258 hnew259 => ?_)
        have e270 := Stp.wr e249 hs256 (Wr.ofFr S wr24)
        have hm271 := Up.mb u257
        have hs0272 : Ms M M254 := fun k h => hsub258 k (hs077 k h)
        have mem274 : Ms (ob (.slice A11 wait2.length c13)) M68 := (fun k h => hsub71 k (mem19 k h))
        have dj273 := Dj.grow (Dj.symm dj22) hnew259 mem274 hm250
        have mem276 : Ms (vb g) M68 := (fun k h => hsub71 k (mem27 k h))
        have dj275 := Dj.grow dj25 hnew259 mem276 hm250
        have dj277 := Dj.grow (Dj.symm dj80) hnew259 mem74 hm250
        have fr279 := Ge.grow wr24 hnew259 (Stp.size e249)
        refine WL.assign rfl ?_
        refine WL.nil ?_
        refine CW.seq ?_
        refine CW.drawn [11] (fun w1 w' => Ext w1 w') mixed (fun w280 ed281 hh282 => ?_)
        have u284 := Ext.up ed281 hm271
        have e285 := Stp.ext e270 ed281
        have hm286 := Up.mb u284
        have hcl283 := Stp.refl w280 (fun _ => False)
        refine DW.rF 0 rfl (by kernel_rfl) (fun _ _ _ h => h) (fun w' => Rn.move rfl) ?_
        refine DW.rF 1 rfl (by kernel_rfl) (fun _ _ _ h => h) (fun w' => Rn.move rfl) ?_
        refine DW.rF 2 rfl (by kernel_rfl) (fun _ _ _ h => h) (fun w' => Rn.nilCheck rfl) ?_
        refine DW.rF 3 rfl (by kernel_rfl) (fun _ _ _ h => h) (fun w' => Rn.fieldAddr fo143_1 rfl) ?_
        have h287 := Bk.ext h226 he232
        have h288 := Bk.stp h287 hs238 ((Dj.symm dj79) _ rfl)
        have h289 := Bk.ext h288 he247
        have h290 := Bk.stp h289 hs256 ((Dj.symm dj25) _ rfl)
        have h291 := Bk.ext h290 ed281
        refine DW.rT 4 rfl (by kernel_rfl) (fun _ _ _ h => h) (fun w' hC => Rn.load sc29 rfl ((Bk.at_ (M := fun _ => False) (Bk.ext h291 hC) (fun h => h)).cell 1 _ rfl)) ?_
        refine DW.rF 5 rfl (by kernel_rfl) (fun _ _ _ h => h) (fun w' => Rn.fieldAddr fo58_1 rfl) ?_
        have h292 := Bk.ext hb237 he247
        have h293 := Bk.stp h292 hs256 (dj80 _ rfl)
        have h294 := Bk.ext h293 ed281
        refine DW.rT 6 rfl (by kernel_rfl) (fun _ _ _ h => h) (fun w' hC => Rn.load sc3 rfl ((Bk.at_ (M := fun _ => False) (Bk.ext h294 hC) (fun h => h)).cell 1 _ rfl)) ?_
        have h301 := Own.ext h38 he41 u42 (fun _ h => h)
        have h302 := Own.ext h301 ed47 u50 (fun _ h => h)
        have h303 := Own.step h302 hs57 dj21 u58 mem19
        have h304 := Own.ext h303 he67 u69 hsub71
        have mem305 : Ms (ob (.slice A11 wait2.length c13)) M68 := (fun k h => hsub71 k (mem19 k h))
        have h306 := Own.step h304 hs84 (Dj.symm dj78) u85 mem305
        have h307 := Own.ext h306 he232 u233 (fun _ h => h)
        have h308 := Own.step h307 hs238 (Dj.symm dj78) u239 mem305
        have h309 := Own.ext h308 he247 u248 (fun _ h => h)
        have mem310 : Ms (ob (.slice A11 wait2.length c13)) M254 := (fun k h => hsub258 k (mem274 k h))
        have h311 := Own.step h309 hs256 dj22 u257 mem310
        have h312 := Own.ext h311 ed281 u284 (fun _ h => h)
        have hD300 := Own.piece h312
        obtain ⟨A295, c296, hRn297, hD298, hl299⟩ := SlD.cutL hD300 (i := max 1 ((longestP rs wait2).2)) (by omega) (by omega)
        refine DW.rF 7 rfl (by kernel_rfl) (fun _ _ _ h => h) (fun w' => Rn.rn (hRn297 es29 rfl rfl)) ?_
        refine DW.only 8 (by kernel_rfl) rfl (fun _ => hcl283) ?_
        refine WL.appendR Try.underlying29 ti3 rfl (by decide) rfl rfl (Own.nil (R := IntR) (sz := 1) (e := 3) (w := w280) (M := M254) (B := 0)) (SlD.sl hD298) hm286 (by decide) (by first | omega | (simp; omega) | (simp only [List.length_drop]; omega)) (fun A313 c314 w315 M316 hO317 hs318 u319 hsub320 hnew321 => ?_)
        have hO324 : Own IntR 1 3 w315 M316 0 (.slice A313 ((wait2.drop (max 1 ((longestP rs wait2).2)).toNat)).length c314) ((wait2.drop (max 1 ((longestP rs wait2).2)).toNat)) := hO317
        have he322 : Ext w280 w315 := Stp.to hs318 (fun k h => by have h : (none : Option Nat) = some k := h; cases h)
        have ge323 : ∀ q_, (ob (.slice A313 ((wait2.drop (max 1 ((longestP rs wait2).2)).toNat)).length c314)) q_ → w280.heap.size ≤ q_ := fun q_ hq_ => (hnew321 q_ hq_).elim (fun h => by have h : (none : Option Nat) = some q_ := h; cases h) id
        have e325 := Stp.ext e285 he322
        have hm326 := Up.mb u319
        have hcl327 := Stp.ext hcl283 he322
        have hs0328 : Ms M M316 := fun k h => hsub320 k (hs0272 k h)
        have dj329 := Dj.fresh (T := (ob (.slice A11 wait2.length c13))) ge323 mem310 hm286
        have mem331 : Ms (vb g) M254 := (fun k h => hsub258 k (mem276 k h))
        have dj330 := Dj.fresh (T := (vb g)) ge323 mem331 hm286
        have mem333 : Ms (ob (.slice A251 (out ++ [(⟨a2, max 1 ((longestP rs wait2).2), outP rs (longestP rs wait2).1, 0⟩ : PTok)]).length c252)) M254 := (Own.ms hO255)
        have dj332 := Dj.fresh (T := (ob (.slice A251 (out ++ [(⟨a2, max 1 ((longestP rs wait2).2), outP rs (longestP rs wait2).1, 0⟩ : PTok)]).length c252))) ge323 mem333 hm286
        have mem335 : Ms (vb g63) M254 := (fun k h => hsub258 k (mem74 k h))
        have dj334 := Dj.fresh (T := (vb g63)) ge323 mem335 hm286
        have fr336 := Ge.le ge323 (Stp.size e285)
        refine WL.nil ?_
        refine DW.rF 9 rfl (by kernel_rfl) (fun _ _ _ h => h) (fun w' => Rn.nilCheck rfl) ?_
        refine DW.rF 10 rfl (by kernel_rfl) (fun _ _ _ h => h) (fun w' => Rn.fieldAddr fo143_1 rfl) ?_
        refine DW.only 11 (by kernel_rfl) rfl (fun _ => hcl327) ?_
        have h341 := Bk.ext h291 he322
        have mem342 : Ms (vb g) M316 := (fun k h => hsub320 k (mem331 k h))
        refine WL.store (o := 1) (by rw [ti29]; rfl) rfl rfl rfl h341 (Nat.le_of_ble_eq_true rfl) (fun w337 hb343 hs339 => ?_)
        have hb338 : Bk w337 g 143 [.pointer (some ⟨tr, 0, none⟩), .slice A313 (((wait2.drop (max 1 ((longestP rs wait2).2)).toNat)).length) c314, .int .i64 a2, .int .i64 (IntKind.i64.wrap (st2 + (wait2.length : Int)))] := hb343
        have u340 := Stp.upM hs339 hm326 mem342
        have e344 := Stp.wr e325 hs339 hwm
        have hm345 := Up.mb u340
        refine WL.nil ?_
        refine DW.done (by kernel_rfl) (notFresh (by kernel_rfl)) ?_
        refine CW.drawn [9] (fun w1 w' => Ext w1 w') mixed (fun w346 ed347 hh348 => ?_)
        have u350 := Ext.up ed347 hm345
        have e351 := Stp.ext e344 ed347
        have hm352 := Up.mb u350
        have hcl349 := Stp.refl w346 (fun _ => False)
        refine DW.rF 0 rfl (by kernel_rfl) (fun _ _ _ h => h) (fun w' => Rn.move rfl) ?_
        refine DW.rF 1 rfl (by kernel_rfl) (fun _ _ _ h => h) (fun w' => Rn.nilCheck rfl) ?_
        refine DW.rF 2 rfl (by kernel_rfl) (fun _ _ _ h => h) (fun w' => Rn.fieldAddr fo143_2 rfl) ?_
        have h353 := Bk.ext hb338 ed347
        refine DW.rT 3 rfl (by kernel_rfl) (fun _ _ _ h => h) (fun w' hC => Rn.load sc3 rfl ((Bk.at_ (M := fun _ => False) (Bk.ext h353 hC) (fun h => h)).cell 2 _ rfl)) ?_
        refine DW.rF 4 rfl (by kernel_rfl) (fun _ _ _ h => h) (fun w' => Rn.fieldAddr fo58_1 rfl) ?_
        have h354 := Bk.ext h294 he322
        have h355 := Bk.stp h354 hs339 (dj79 _ rfl)
        have h356 := Bk.ext h355 ed347
        refine DW.rT 5 rfl (by kernel_rfl) (fun _ _ _ h => h) (fun w' hC => Rn.load sc3 rfl ((Bk.at_ (M := fun _ => False) (Bk.ext h356 hC) (fun h => h)).cell 1 _ rfl)) ?_
        refine DW.rF 6 rfl (by kernel_rfl) (fun _ _ _ h => h) (fun w' => Rn.add rfl rfl (by omega)) ?_
        refine DW.rF 7 rfl (by kernel_rfl) (fun _ _ _ h => h) (fun w' => Rn.nilCheck rfl) ?_
        refine DW.rF 8 rfl (by kernel_rfl) (fun _ _ _ h => h) (fun w' => Rn.fieldAddr fo143_2 rfl) ?_
        refine DW.only 9 (by kernel_rfl) rfl (fun _ => hcl349) ?_
        refine WL.store (o := 2) (by rw [ti3]; rfl) rfl rfl rfl h353 (Nat.le_of_ble_eq_true rfl) (fun w357 hb361 hs359 => ?_)
        have hb358 : Bk w357 g 143 [.pointer (some ⟨tr, 0, none⟩), .slice A313 (((wait2.drop (max 1 ((longestP rs wait2).2)).toNat)).length) c314, .int .i64 (a2 + (max 1 ((longestP rs wait2).2))), .int .i64 (IntKind.i64.wrap (st2 + (wait2.length : Int)))] := hb361
        have u360 := Stp.upM hs359 hm352 mem342
        have e362 := Stp.wr e351 hs359 hwm
        have hm363 := Up.mb u360
        refine WL.nil ?_
        refine DW.done (by kernel_rfl) (notFresh (by kernel_rfl)) ?_
        refine Blk.nrm ?_
        have mem364 : Ms (ob (.slice A313 ((wait2.drop (max 1 ((longestP rs wait2).2)).toNat)).length c314)) M316 := (Own.ms hO324)
        have h365 := Own.step hO324 hs339 dj330 u340 mem364
        have h366 := Own.ext h365 ed347 u350 (fun _ h => h)
        have h367 := Own.step h366 hs359 dj330 u360 mem364
        have h368 := Own.ext hO255 ed281 u284 (fun _ h => h)
        have h369 := Own.ext h368 he322 u319 hsub320
        have mem370 : Ms (ob (.slice A251 (out ++ [(⟨a2, max 1 ((longestP rs wait2).2), outP rs (longestP rs wait2).1, 0⟩ : PTok)]).length c252)) M316 := (fun k h => hsub320 k (mem333 k h))
        have h371 := Own.step h369 hs339 dj275 u340 mem370
        have h372 := Own.ext h371 ed347 u350 (fun _ h => h)
        have h373 := Own.step h372 hs359 dj275 u360 mem370
        refine Loop.again _ _ ?_ ?_ ⟨wait2.drop (tokP rs wait2 a2).len.toNat, a2 + (tokP rs wait2 a2).len, IntKind.i64.wrap (st2 + (wait2.length : Int)), out ++ [tokP rs wait2 a2], M316, A313, ((wait2.drop (max 1 ((longestP rs wait2).2)).toNat)).length, c314, A251, (out ++ [(⟨a2, max 1 ((longestP rs wait2).2), outP rs (longestP rs wait2).1, 0⟩ : PTok)]).length, c252, rfl, rfl, (Up.trans hU5 (Up.trans u34 (Up.trans u42 (Up.trans u50 (Up.trans u58 (Up.trans u69 (Up.trans u85 (Up.trans u233 (Up.trans u239 (Up.trans u248 (Up.trans u257 (Up.trans u284 (Up.trans u319 (Up.trans u340 (Up.trans u350 u360))))))))))))))), e362, hs0328, hs0328, htl ▸ h367, by rw [htl]; exact hb358, htok ▸ h373, mem364, (Wr.ofFr S fr336), dj330, dj332, mem370, fr279, dj275, by rw [hf, take_cons hne (by simp [*])]; simp, by omega, by rw [htl]; simp only [List.length_drop]; omega, by simp only [List.length_append, List.length_cons, List.length_nil, List.length_drop, htl]; omega⟩
        · simp only [List.length_drop]; omega
        · exact .cons (t := 0) rfl (.cons (t := 1) rfl (.cons (t := 5) rfl (.nil _)))
    · refine WL.gtake rfl rfl rfl ?_
      refine WL.move rfl ?_
      refine WL.gtake rfl rfl rfl ?_
      refine WL.not_ rfl ?_
      refine WL.pickT rfl rfl ?_
      refine WL.nil ?_
      refine CW.condB rfl (fun hc374 => ?_) (fun hc374 => ?_)
      · refine CW.exit ?_
        refine CW.seq ?_
        refine CW.region ?_
        refine WL.move rfl ?_
        refine WL.assign rfl ?_
        refine WL.nil ?_
        refine CW.ret ?_
        refine Ret.one rfl rfl ?_
        have hfin : takeP rs e wait a = (out, wait2, a2) := by rw [hf, take_open hne (by simp [*])]; simp
        rw [hfin]
        have h375 := Own.ext h15 ed31 u34 (fun _ h => h)
        have h376 := Own.ext h375 he41 u42 (fun _ h => h)
        have h377 := Own.ext h376 ed47 u50 (fun _ h => h)
        have h378 := Own.step h377 hs57 dj25 u58 mem23
        have h379 := Own.ext h38 he41 u42 (fun _ h => h)
        have h380 := Own.ext h379 ed47 u50 (fun _ h => h)
        have h381 := Own.step h380 hs57 dj21 u58 mem19
        exact ⟨_, _, ⟨h378, wr24, Dj.or dj25 (Dj.symm dj22), (Up.trans hU5 (Up.trans u34 (Up.trans u42 (Up.trans u50 u58)))), hsp8, e60, Wr.or hwm wr20⟩, tr, _, _, _, Ms.or mem27 mem19, hb56, .inl rfl, h381, fun _ h => .inr h, (hT.up (Up.trans hU5 (Up.trans u34 (Up.trans u42 (Up.trans u50 u58)))))⟩
      · refine CW.skip ?_
        refine CW.seq ?_
        refine CW.region ?_
        refine WL.move rfl ?_
        refine WL.nilCheck rfl ?_
        refine WL.fieldAddr fo143_2 rfl ?_
        refine WL.load sc3 rfl ((Bk.at_ (M := fun _ => False) hb56 (fun h => h)).cell 2 _ rfl) ?_
        refine WL.move rfl ?_
        refine WL.imax rfl rfl ?_
        refine WL.buildP (cs := #[.int .i64 a2, .int .i64 (max 1 ((longestP rs wait2).2)), .slice none 0 0, .int .i64 0]) (.cons rfl (.cons rfl (.nil))) (by kernel_rfl) ?_
        refine WL.alloc (cs := [.int .i64 0, .int .i64 0, .slice none 0 0, .int .i64 0]) ti58 rfl (fun g382 w383 hg384 hb385 he386 => ?_)
        obtain ⟨M387, u388, mem389, hsub390, hinv391⟩ := Ext.addVar he386 hm61 hg384 hb385
        have ge392 : ∀ q_, vb g382 q_ → w55.heap.size ≤ q_ := fun q_ hq_ => by rw [hq_]; exact hg384
        have mem393 := Ms.one mem389
        have e394 := Stp.ext e60 he386
        have hm395 := Up.mb u388
        have hs0396 : Ms M M387 := fun k h => hsub390 k (hsp8 k h)
        have dj397 := Dj.fresh (T := (ob (.slice A11 wait2.length c13))) ge392 mem19 hm61
        have dj398 := Dj.fresh (T := (vb g)) ge392 mem27 hm61
        have dj399 := Dj.fresh (T := (ob (.slice A16 out.length c18))) ge392 mem23 hm61
        have fr400 := Ge.le ge392 (Stp.size e60)
        refine WL.storeAll (vs := [.int .i64 a2, .int .i64 (max 1 ((longestP rs wait2).2)), .slice none 0 0, .int .i64 0]) (by rw [ti58]; rfl) rfl rfl (by simp [Value.oneCell']) hb385 rfl (fun w401 hb402 hs403 => ?_)
        have u404 := Stp.upM hs403 hm395 mem393
        have e405 := Stp.wr e394 hs403 (Wr.ofFr S fr400)
        have hm406 := Up.mb u404
        refine WL.nil ?_
        refine CW.seq ?_
        refine CW.seq ?_
        refine CW.region ?_
        refine WL.move rfl ?_
        refine WL.lss rfl rfl ?_
        refine WL.nil ?_
        refine CW.condP rfl (fun hc407 => ?_) (fun hc407 => ?_)
        · have htok : tokP rs wait2 a2 = ⟨a2, max 1 (longestP rs wait2).2, [], 3⟩ := by
            unfold tokP
            rw [if_pos hc407, (hll.2.2.2 hc407).2]; rfl
          have htl : (tokP rs wait2 a2).len = max 1 (longestP rs wait2).2 := by rw [htok]
          have hpos : 0 < wait2.length := List.length_pos_iff.2 hne
          refine CW.region ?_
          refine WL.fieldAddr fo58_3 rfl ?_
          refine WL.store (o := 3) (by rw [ti46]; rfl) rfl rfl rfl hb402 (Nat.le_of_ble_eq_true rfl) (fun w408 hb412 hs410 => ?_)
          have hb409 : Bk w408 g382 58 [.int .i64 a2, .int .i64 (max 1 ((longestP rs wait2).2)), .slice none 0 0, .int .i64 3] := hb412
          have u411 := Stp.upM hs410 hm406 mem393
          have e413 := Stp.wr e405 hs410 (Wr.ofFr S fr400)
          have hm414 := Up.mb u411
          refine WL.nil ?_
          refine CW.seq ?_
          refine CW.region ?_
          refine WL.move rfl ?_
          refine WL.loadAgg (cs := [.int .i64 a2, .int .i64 (max 1 ((longestP rs wait2).2)), .slice none 0 0, .int .i64 3]) ag58 rfl (Bk.at_ (M := fun _ => False) hb409 (fun h => h)) ?_
          refine WL.bslice1 (R := TokR) (y' := (⟨a2, max 1 ((longestP rs wait2).2), [], 3⟩ : PTok)) Try.underlying55 ti58 rfl (by decide) (by decide) rfl ⟨_, rfl, Sl.nil, by simp only [I64]; omega, by simp only [I64]; omega, by simp only [I64]; omega⟩ rfl hm414 (fun v415 w416 hS417 he418 => ?_)
          have u419 := Ext.up he418 hm414
          have e420 := Stp.ext e413 he418
          have hm421 := Up.mb u419
          have h431 := Own.ext h15 ed31 u34 (fun _ h => h)
          have h432 := Own.ext h431 he41 u42 (fun _ h => h)
          have h433 := Own.ext h432 ed47 u50 (fun _ h => h)
          have h434 := Own.step h433 hs57 dj25 u58 mem23
          have h435 := Own.ext h434 he386 u388 hsub390
          have mem436 : Ms (ob (.slice A16 out.length c18)) M387 := (fun k h => hsub390 k (mem23 k h))
          have h437 := Own.step h435 hs403 (Dj.symm dj399) u404 mem436
          have h438 := Own.step h437 hs410 (Dj.symm dj399) u411 mem436
          have h439 := Own.ext h438 he418 u419 (fun _ h => h)
          refine WL.appendR Try.underlying55 ti58 rfl (by decide) rfl rfl h439 (Sl.atl hS417) hm421 (by decide) (by first | omega | (simp; omega) | (simp only [List.length_drop]; omega)) (fun A422 c423 w424 M425 hO426 hs427 u428 hsub429 hnew430 => ?_)
          have e440 := Stp.wr e420 hs427 (Wr.ofFr S wr24)
          have hm441 := Up.mb u428
          have hs0442 : Ms M M425 := fun k h => hsub429 k (hs0396 k h)
          have mem444 : Ms (ob (.slice A11 wait2.length c13)) M387 := (fun k h => hsub390 k (mem19 k h))
          have dj443 := Dj.grow (Dj.symm dj22) hnew430 mem444 hm421
          have mem446 : Ms (vb g) M387 := (fun k h => hsub390 k (mem27 k h))
          have dj445 := Dj.grow dj25 hnew430 mem446 hm421
          have dj447 := Dj.grow (Dj.symm dj399) hnew430 mem393 hm421
          have fr449 := Ge.grow wr24 hnew430 (Stp.size e420)
          refine WL.assign rfl ?_
          refine WL.nil ?_
          refine CW.seq ?_
          refine CW.drawn [11] (fun w1 w' => Ext w1 w') mixed (fun w450 ed451 hh452 => ?_)
          have u454 := Ext.up ed451 hm441
          have e455 := Stp.ext e440 ed451
          have hm456 := Up.mb u454
          have hcl453 := Stp.refl w450 (fun _ => False)
          refine DW.rF 0 rfl (by kernel_rfl) (fun _ _ _ h => h) (fun w' => Rn.move rfl) ?_
          refine DW.rF 1 rfl (by kernel_rfl) (fun _ _ _ h => h) (fun w' => Rn.move rfl) ?_
          refine DW.rF 2 rfl (by kernel_rfl) (fun _ _ _ h => h) (fun w' => Rn.nilCheck rfl) ?_
          refine DW.rF 3 rfl (by kernel_rfl) (fun _ _ _ h => h) (fun w' => Rn.fieldAddr fo143_1 rfl) ?_
          have h457 := Bk.ext hb56 he386
          have h458 := Bk.stp h457 hs403 ((Dj.symm dj398) _ rfl)
          have h459 := Bk.stp h458 hs410 ((Dj.symm dj398) _ rfl)
          have h460 := Bk.ext h459 he418
          have h461 := Bk.stp h460 hs427 ((Dj.symm dj25) _ rfl)
          have h462 := Bk.ext h461 ed451
          refine DW.rT 4 rfl (by kernel_rfl) (fun _ _ _ h => h) (fun w' hC => Rn.load sc29 rfl ((Bk.at_ (M := fun _ => False) (Bk.ext h462 hC) (fun h => h)).cell 1 _ rfl)) ?_
          refine DW.rF 5 rfl (by kernel_rfl) (fun _ _ _ h => h) (fun w' => Rn.fieldAddr fo58_1 rfl) ?_
          have h463 := Bk.ext hb409 he418
          have h464 := Bk.stp h463 hs427 (dj399 _ rfl)
          have h465 := Bk.ext h464 ed451
          refine DW.rT 6 rfl (by kernel_rfl) (fun _ _ _ h => h) (fun w' hC => Rn.load sc3 rfl ((Bk.at_ (M := fun _ => False) (Bk.ext h465 hC) (fun h => h)).cell 1 _ rfl)) ?_
          have h472 := Own.ext h38 he41 u42 (fun _ h => h)
          have h473 := Own.ext h472 ed47 u50 (fun _ h => h)
          have h474 := Own.step h473 hs57 dj21 u58 mem19
          have h475 := Own.ext h474 he386 u388 hsub390
          have mem476 : Ms (ob (.slice A11 wait2.length c13)) M387 := (fun k h => hsub390 k (mem19 k h))
          have h477 := Own.step h475 hs403 (Dj.symm dj397) u404 mem476
          have h478 := Own.step h477 hs410 (Dj.symm dj397) u411 mem476
          have h479 := Own.ext h478 he418 u419 (fun _ h => h)
          have mem480 : Ms (ob (.slice A11 wait2.length c13)) M425 := (fun k h => hsub429 k (mem444 k h))
          have h481 := Own.step h479 hs427 dj22 u428 mem480
          have h482 := Own.ext h481 ed451 u454 (fun _ h => h)
          have hD471 := Own.piece h482
          obtain ⟨A466, c467, hRn468, hD469, hl470⟩ := SlD.cutL hD471 (i := max 1 ((longestP rs wait2).2)) (by omega) (by omega)
          refine DW.rF 7 rfl (by kernel_rfl) (fun _ _ _ h => h) (fun w' => Rn.rn (hRn468 es29 rfl rfl)) ?_
          refine DW.only 8 (by kernel_rfl) rfl (fun _ => hcl453) ?_
          refine WL.appendR Try.underlying29 ti3 rfl (by decide) rfl rfl (Own.nil (R := IntR) (sz := 1) (e := 3) (w := w450) (M := M425) (B := 0)) (SlD.sl hD469) hm456 (by decide) (by first | omega | (simp; omega) | (simp only [List.length_drop]; omega)) (fun A483 c484 w485 M486 hO487 hs488 u489 hsub490 hnew491 => ?_)
          have hO494 : Own IntR 1 3 w485 M486 0 (.slice A483 ((wait2.drop (max 1 ((longestP rs wait2).2)).toNat)).length c484) ((wait2.drop (max 1 ((longestP rs wait2).2)).toNat)) := hO487
          have he492 : Ext w450 w485 := Stp.to hs488 (fun k h => by have h : (none : Option Nat) = some k := h; cases h)
          have ge493 : ∀ q_, (ob (.slice A483 ((wait2.drop (max 1 ((longestP rs wait2).2)).toNat)).length c484)) q_ → w450.heap.size ≤ q_ := fun q_ hq_ => (hnew491 q_ hq_).elim (fun h => by have h : (none : Option Nat) = some q_ := h; cases h) id
          have e495 := Stp.ext e455 he492
          have hm496 := Up.mb u489
          have hcl497 := Stp.ext hcl453 he492
          have hs0498 : Ms M M486 := fun k h => hsub490 k (hs0442 k h)
          have dj499 := Dj.fresh (T := (ob (.slice A11 wait2.length c13))) ge493 mem480 hm456
          have mem501 : Ms (vb g) M425 := (fun k h => hsub429 k (mem446 k h))
          have dj500 := Dj.fresh (T := (vb g)) ge493 mem501 hm456
          have mem503 : Ms (ob (.slice A422 (out ++ [(⟨a2, max 1 ((longestP rs wait2).2), [], 3⟩ : PTok)]).length c423)) M425 := (Own.ms hO426)
          have dj502 := Dj.fresh (T := (ob (.slice A422 (out ++ [(⟨a2, max 1 ((longestP rs wait2).2), [], 3⟩ : PTok)]).length c423))) ge493 mem503 hm456
          have mem505 : Ms (vb g382) M425 := (fun k h => hsub429 k (mem393 k h))
          have dj504 := Dj.fresh (T := (vb g382)) ge493 mem505 hm456
          have fr506 := Ge.le ge493 (Stp.size e455)
          refine WL.nil ?_
          refine DW.rF 9 rfl (by kernel_rfl) (fun _ _ _ h => h) (fun w' => Rn.nilCheck rfl) ?_
          refine DW.rF 10 rfl (by kernel_rfl) (fun _ _ _ h => h) (fun w' => Rn.fieldAddr fo143_1 rfl) ?_
          refine DW.only 11 (by kernel_rfl) rfl (fun _ => hcl497) ?_
          have h511 := Bk.ext h462 he492
          have mem512 : Ms (vb g) M486 := (fun k h => hsub490 k (mem501 k h))
          refine WL.store (o := 1) (by rw [ti29]; rfl) rfl rfl rfl h511 (Nat.le_of_ble_eq_true rfl) (fun w507 hb513 hs509 => ?_)
          have hb508 : Bk w507 g 143 [.pointer (some ⟨tr, 0, none⟩), .slice A483 (((wait2.drop (max 1 ((longestP rs wait2).2)).toNat)).length) c484, .int .i64 a2, .int .i64 (IntKind.i64.wrap (st2 + (wait2.length : Int)))] := hb513
          have u510 := Stp.upM hs509 hm496 mem512
          have e514 := Stp.wr e495 hs509 hwm
          have hm515 := Up.mb u510
          refine WL.nil ?_
          refine DW.done (by kernel_rfl) (notFresh (by kernel_rfl)) ?_
          refine CW.drawn [9] (fun w1 w' => Ext w1 w') mixed (fun w516 ed517 hh518 => ?_)
          have u520 := Ext.up ed517 hm515
          have e521 := Stp.ext e514 ed517
          have hm522 := Up.mb u520
          have hcl519 := Stp.refl w516 (fun _ => False)
          refine DW.rF 0 rfl (by kernel_rfl) (fun _ _ _ h => h) (fun w' => Rn.move rfl) ?_
          refine DW.rF 1 rfl (by kernel_rfl) (fun _ _ _ h => h) (fun w' => Rn.nilCheck rfl) ?_
          refine DW.rF 2 rfl (by kernel_rfl) (fun _ _ _ h => h) (fun w' => Rn.fieldAddr fo143_2 rfl) ?_
          have h523 := Bk.ext hb508 ed517
          refine DW.rT 3 rfl (by kernel_rfl) (fun _ _ _ h => h) (fun w' hC => Rn.load sc3 rfl ((Bk.at_ (M := fun _ => False) (Bk.ext h523 hC) (fun h => h)).cell 2 _ rfl)) ?_
          refine DW.rF 4 rfl (by kernel_rfl) (fun _ _ _ h => h) (fun w' => Rn.fieldAddr fo58_1 rfl) ?_
          have h524 := Bk.ext h465 he492
          have h525 := Bk.stp h524 hs509 (dj398 _ rfl)
          have h526 := Bk.ext h525 ed517
          refine DW.rT 5 rfl (by kernel_rfl) (fun _ _ _ h => h) (fun w' hC => Rn.load sc3 rfl ((Bk.at_ (M := fun _ => False) (Bk.ext h526 hC) (fun h => h)).cell 1 _ rfl)) ?_
          refine DW.rF 6 rfl (by kernel_rfl) (fun _ _ _ h => h) (fun w' => Rn.add rfl rfl (by omega)) ?_
          refine DW.rF 7 rfl (by kernel_rfl) (fun _ _ _ h => h) (fun w' => Rn.nilCheck rfl) ?_
          refine DW.rF 8 rfl (by kernel_rfl) (fun _ _ _ h => h) (fun w' => Rn.fieldAddr fo143_2 rfl) ?_
          refine DW.only 9 (by kernel_rfl) rfl (fun _ => hcl519) ?_
          refine WL.store (o := 2) (by rw [ti3]; rfl) rfl rfl rfl h523 (Nat.le_of_ble_eq_true rfl) (fun w527 hb531 hs529 => ?_)
          have hb528 : Bk w527 g 143 [.pointer (some ⟨tr, 0, none⟩), .slice A483 (((wait2.drop (max 1 ((longestP rs wait2).2)).toNat)).length) c484, .int .i64 (a2 + (max 1 ((longestP rs wait2).2))), .int .i64 (IntKind.i64.wrap (st2 + (wait2.length : Int)))] := hb531
          have u530 := Stp.upM hs529 hm522 mem512
          have e532 := Stp.wr e521 hs529 hwm
          have hm533 := Up.mb u530
          refine WL.nil ?_
          refine DW.done (by kernel_rfl) (notFresh (by kernel_rfl)) ?_
          refine Blk.nrm ?_
          have mem534 : Ms (ob (.slice A483 ((wait2.drop (max 1 ((longestP rs wait2).2)).toNat)).length c484)) M486 := (Own.ms hO494)
          have h535 := Own.step hO494 hs509 dj500 u510 mem534
          have h536 := Own.ext h535 ed517 u520 (fun _ h => h)
          have h537 := Own.step h536 hs529 dj500 u530 mem534
          have h538 := Own.ext hO426 ed451 u454 (fun _ h => h)
          have h539 := Own.ext h538 he492 u489 hsub490
          have mem540 : Ms (ob (.slice A422 (out ++ [(⟨a2, max 1 ((longestP rs wait2).2), [], 3⟩ : PTok)]).length c423)) M486 := (fun k h => hsub490 k (mem503 k h))
          have h541 := Own.step h539 hs509 dj445 u510 mem540
          have h542 := Own.ext h541 ed517 u520 (fun _ h => h)
          have h543 := Own.step h542 hs529 dj445 u530 mem540
          refine Loop.again _ _ ?_ ?_ ⟨wait2.drop (tokP rs wait2 a2).len.toNat, a2 + (tokP rs wait2 a2).len, IntKind.i64.wrap (st2 + (wait2.length : Int)), out ++ [tokP rs wait2 a2], M486, A483, ((wait2.drop (max 1 ((longestP rs wait2).2)).toNat)).length, c484, A422, (out ++ [(⟨a2, max 1 ((longestP rs wait2).2), [], 3⟩ : PTok)]).length, c423, rfl, rfl, (Up.trans hU5 (Up.trans u34 (Up.trans u42 (Up.trans u50 (Up.trans u58 (Up.trans u388 (Up.trans u404 (Up.trans u411 (Up.trans u419 (Up.trans u428 (Up.trans u454 (Up.trans u489 (Up.trans u510 (Up.trans u520 u530)))))))))))))), e532, hs0498, hs0498, htl ▸ h537, by rw [htl]; exact hb528, htok ▸ h543, mem534, (Wr.ofFr S fr506), dj500, dj502, mem540, fr449, dj445, by rw [hf, take_cons hne (by simp [*])]; simp, by omega, by rw [htl]; simp only [List.length_drop]; omega, by simp only [List.length_append, List.length_cons, List.length_nil, List.length_drop, htl]; omega⟩
          · simp only [List.length_drop]; omega
          · exact .cons (t := 0) rfl (.cons (t := 1) rfl (.cons (t := 5) rfl (.nil _)))
        · have htok : tokP rs wait2 a2 = ⟨a2, max 1 (longestP rs wait2).2, outP rs (longestP rs wait2).1, 0⟩ := by
            unfold tokP
            rw [if_neg hc407]
          have htl : (tokP rs wait2 a2).len = max 1 (longestP rs wait2).2 := by rw [htok]
          have hpos : 0 < wait2.length := List.length_pos_iff.2 hne
          refine CW.region ?_
          refine WL.move rfl ?_
          refine WL.nilCheck rfl ?_
          refine WL.fieldAddr fo143_0 rfl ?_
          have h544 := Bk.ext hb56 he386
          have h545 := Bk.stp h544 hs403 ((Dj.symm dj398) _ rfl)
          refine WL.load sc101 rfl ((Bk.at_ (M := fun _ => False) h545 (fun h => h)).cell 0 _ rfl) ?_
          refine WL.move rfl ?_
          refine WL.call Try.func110 rfl rfl (.cons rfl (.cons rfl (.nil))) ((hT.up (Up.trans hU5 (Up.trans u34 (Up.trans u42 (Up.trans u50 (Up.trans u58 (Up.trans u388 u404))))))).out hm406 (k := (longestP rs wait2).1) (by omega) (by omega) hg.out) (fun _ w549 hr550 => ?_)
          obtain ⟨⟨A546, c547, rfl, hD548⟩, he551⟩ := hr550
          have u552 := Ext.up he551 hm406
          have e553 := Stp.ext e405 he551
          have hm554 := Up.mb u552
          refine WL.fieldAddr fo58_2 rfl ?_
          have h559 := Bk.ext hb402 he551
          refine WL.store (o := 2) (by rw [ti29]; rfl) rfl rfl rfl h559 (Nat.le_of_ble_eq_true rfl) (fun w555 hb560 hs557 => ?_)
          have hb556 : Bk w555 g382 58 [.int .i64 a2, .int .i64 (max 1 ((longestP rs wait2).2)), .slice A546 ((outP rs (longestP rs wait2).1).length) c547, .int .i64 0] := hb560
          have u558 := Stp.upM hs557 hm554 mem393
          have e561 := Stp.wr e553 hs557 (Wr.ofFr S fr400)
          have hm562 := Up.mb u558
          refine WL.nil ?_
          refine CW.seq ?_
          refine CW.region ?_
          refine WL.move rfl ?_
          refine WL.loadAgg (cs := [.int .i64 a2, .int .i64 (max 1 ((longestP rs wait2).2)), .slice A546 ((outP rs (longestP rs wait2).1).length) c547, .int .i64 0]) ag58 rfl (Bk.at_ (M := fun _ => False) hb556 (fun h => h)) ?_
          refine WL.bslice1 (R := TokR) (y' := (⟨a2, max 1 ((longestP rs wait2).2), outP rs (longestP rs wait2).1, 0⟩ : PTok)) Try.underlying55 ti58 rfl (by decide) (by decide) rfl ⟨_, rfl, SlD.sl (hD548.up u558), by simp only [I64]; omega, by simp only [I64]; omega, by simp only [I64]; omega⟩ rfl hm562 (fun v563 w564 hS565 he566 => ?_)
          have u567 := Ext.up he566 hm562
          have e568 := Stp.ext e561 he566
          have hm569 := Up.mb u567
          have h579 := Own.ext h15 ed31 u34 (fun _ h => h)
          have h580 := Own.ext h579 he41 u42 (fun _ h => h)
          have h581 := Own.ext h580 ed47 u50 (fun _ h => h)
          have h582 := Own.step h581 hs57 dj25 u58 mem23
          have h583 := Own.ext h582 he386 u388 hsub390
          have mem584 : Ms (ob (.slice A16 out.length c18)) M387 := (fun k h => hsub390 k (mem23 k h))
          have h585 := Own.step h583 hs403 (Dj.symm dj399) u404 mem584
          have h586 := Own.ext h585 he551 u552 (fun _ h => h)
          have h587 := Own.step h586 hs557 (Dj.symm dj399) u558 mem584
          have h588 := Own.ext h587 he566 u567 (fun _ h => h)
          refine WL.appendR Try.underlying55 ti58 rfl (by decide) rfl rfl h588 (Sl.atl hS565) hm569 (by decide) (by first | omega | (simp; omega) | (simp only [List.length_drop]; omega)) (fun A570 c571 w572 M573 hO574 hs575 u576 hsub577 hnew578 => ?_)
          have e589 := Stp.wr e568 hs575 (Wr.ofFr S wr24)
          have hm590 := Up.mb u576
          have hs0591 : Ms M M573 := fun k h => hsub577 k (hs0396 k h)
          have mem593 : Ms (ob (.slice A11 wait2.length c13)) M387 := (fun k h => hsub390 k (mem19 k h))
          have dj592 := Dj.grow (Dj.symm dj22) hnew578 mem593 hm569
          have mem595 : Ms (vb g) M387 := (fun k h => hsub390 k (mem27 k h))
          have dj594 := Dj.grow dj25 hnew578 mem595 hm569
          have dj596 := Dj.grow (Dj.symm dj399) hnew578 mem393 hm569
          have fr598 := Ge.grow wr24 hnew578 (Stp.size e568)
          refine WL.assign rfl ?_
          refine WL.nil ?_
          refine CW.seq ?_
          refine CW.drawn [11] (fun w1 w' => Ext w1 w') mixed (fun w599 ed600 hh601 => ?_)
          have u603 := Ext.up ed600 hm590
          have e604 := Stp.ext e589 ed600
          have hm605 := Up.mb u603
          have hcl602 := Stp.refl w599 (fun _ => False)
          refine DW.rF 0 rfl (by kernel_rfl) (fun _ _ _ h => h) (fun w' => Rn.move rfl) ?_
          refine DW.rF 1 rfl (by kernel_rfl) (fun _ _ _ h => h) (fun w' => Rn.move rfl) ?_
          refine DW.rF 2 rfl (by kernel_rfl) (fun _ _ _ h => h) (fun w' => Rn.nilCheck rfl) ?_
          refine DW.rF 3 rfl (by kernel_rfl) (fun _ _ _ h => h) (fun w' => Rn.fieldAddr fo143_1 rfl) ?_
          have h606 := Bk.ext h545 he551
          have h607 := Bk.stp h606 hs557 ((Dj.symm dj398) _ rfl)
          have h608 := Bk.ext h607 he566
          have h609 := Bk.stp h608 hs575 ((Dj.symm dj25) _ rfl)
          have h610 := Bk.ext h609 ed600
          refine DW.rT 4 rfl (by kernel_rfl) (fun _ _ _ h => h) (fun w' hC => Rn.load sc29 rfl ((Bk.at_ (M := fun _ => False) (Bk.ext h610 hC) (fun h => h)).cell 1 _ rfl)) ?_
          refine DW.rF 5 rfl (by kernel_rfl) (fun _ _ _ h => h) (fun w' => Rn.fieldAddr fo58_1 rfl) ?_
          have h611 := Bk.ext hb556 he566
          have h612 := Bk.stp h611 hs575 (dj399 _ rfl)
          have h613 := Bk.ext h612 ed600
          refine DW.rT 6 rfl (by kernel_rfl) (fun _ _ _ h => h) (fun w' hC => Rn.load sc3 rfl ((Bk.at_ (M := fun _ => False) (Bk.ext h613 hC) (fun h => h)).cell 1 _ rfl)) ?_
          have h620 := Own.ext h38 he41 u42 (fun _ h => h)
          have h621 := Own.ext h620 ed47 u50 (fun _ h => h)
          have h622 := Own.step h621 hs57 dj21 u58 mem19
          have h623 := Own.ext h622 he386 u388 hsub390
          have mem624 : Ms (ob (.slice A11 wait2.length c13)) M387 := (fun k h => hsub390 k (mem19 k h))
          have h625 := Own.step h623 hs403 (Dj.symm dj397) u404 mem624
          have h626 := Own.ext h625 he551 u552 (fun _ h => h)
          have h627 := Own.step h626 hs557 (Dj.symm dj397) u558 mem624
          have h628 := Own.ext h627 he566 u567 (fun _ h => h)
          have mem629 : Ms (ob (.slice A11 wait2.length c13)) M573 := (fun k h => hsub577 k (mem593 k h))
          have h630 := Own.step h628 hs575 dj22 u576 mem629
          have h631 := Own.ext h630 ed600 u603 (fun _ h => h)
          have hD619 := Own.piece h631
          obtain ⟨A614, c615, hRn616, hD617, hl618⟩ := SlD.cutL hD619 (i := max 1 ((longestP rs wait2).2)) (by omega) (by omega)
          refine DW.rF 7 rfl (by kernel_rfl) (fun _ _ _ h => h) (fun w' => Rn.rn (hRn616 es29 rfl rfl)) ?_
          refine DW.only 8 (by kernel_rfl) rfl (fun _ => hcl602) ?_
          refine WL.appendR Try.underlying29 ti3 rfl (by decide) rfl rfl (Own.nil (R := IntR) (sz := 1) (e := 3) (w := w599) (M := M573) (B := 0)) (SlD.sl hD617) hm605 (by decide) (by first | omega | (simp; omega) | (simp only [List.length_drop]; omega)) (fun A632 c633 w634 M635 hO636 hs637 u638 hsub639 hnew640 => ?_)
          have hO643 : Own IntR 1 3 w634 M635 0 (.slice A632 ((wait2.drop (max 1 ((longestP rs wait2).2)).toNat)).length c633) ((wait2.drop (max 1 ((longestP rs wait2).2)).toNat)) := hO636
          have he641 : Ext w599 w634 := Stp.to hs637 (fun k h => by have h : (none : Option Nat) = some k := h; cases h)
          have ge642 : ∀ q_, (ob (.slice A632 ((wait2.drop (max 1 ((longestP rs wait2).2)).toNat)).length c633)) q_ → w599.heap.size ≤ q_ := fun q_ hq_ => (hnew640 q_ hq_).elim (fun h => by have h : (none : Option Nat) = some q_ := h; cases h) id
          have e644 := Stp.ext e604 he641
          have hm645 := Up.mb u638
          have hcl646 := Stp.ext hcl602 he641
          have hs0647 : Ms M M635 := fun k h => hsub639 k (hs0591 k h)
          have dj648 := Dj.fresh (T := (ob (.slice A11 wait2.length c13))) ge642 mem629 hm605
          have mem650 : Ms (vb g) M573 := (fun k h => hsub577 k (mem595 k h))
          have dj649 := Dj.fresh (T := (vb g)) ge642 mem650 hm605
          have mem652 : Ms (ob (.slice A570 (out ++ [(⟨a2, max 1 ((longestP rs wait2).2), outP rs (longestP rs wait2).1, 0⟩ : PTok)]).length c571)) M573 := (Own.ms hO574)
          have dj651 := Dj.fresh (T := (ob (.slice A570 (out ++ [(⟨a2, max 1 ((longestP rs wait2).2), outP rs (longestP rs wait2).1, 0⟩ : PTok)]).length c571))) ge642 mem652 hm605
          have mem654 : Ms (vb g382) M573 := (fun k h => hsub577 k (mem393 k h))
          have dj653 := Dj.fresh (T := (vb g382)) ge642 mem654 hm605
          have fr655 := Ge.le ge642 (Stp.size e604)
          refine WL.nil ?_
          refine DW.rF 9 rfl (by kernel_rfl) (fun _ _ _ h => h) (fun w' => Rn.nilCheck rfl) ?_
          refine DW.rF 10 rfl (by kernel_rfl) (fun _ _ _ h => h) (fun w' => Rn.fieldAddr fo143_1 rfl) ?_
          refine DW.only 11 (by kernel_rfl) rfl (fun _ => hcl646) ?_
          have h660 := Bk.ext h610 he641
          have mem661 : Ms (vb g) M635 := (fun k h => hsub639 k (mem650 k h))
          refine WL.store (o := 1) (by rw [ti29]; rfl) rfl rfl rfl h660 (Nat.le_of_ble_eq_true rfl) (fun w656 hb662 hs658 => ?_)
          have hb657 : Bk w656 g 143 [.pointer (some ⟨tr, 0, none⟩), .slice A632 (((wait2.drop (max 1 ((longestP rs wait2).2)).toNat)).length) c633, .int .i64 a2, .int .i64 (IntKind.i64.wrap (st2 + (wait2.length : Int)))] := hb662
          have u659 := Stp.upM hs658 hm645 mem661
          have e663 := Stp.wr e644 hs658 hwm
          have hm664 := Up.mb u659
          refine WL.nil ?_
          refine DW.done (by kernel_rfl) (notFresh (by kernel_rfl)) ?_
          refine CW.drawn [9] (fun w1 w' => Ext w1 w') mixed (fun w665 ed666 hh667 => ?_)
          have u669 := Ext.up ed666 hm664
          have e670 := Stp.ext e663 ed666
          have hm671 := Up.mb u669
          have hcl668 := Stp.refl w665 (fun _ => False)
          refine DW.rF 0 rfl (by kernel_rfl) (fun _ _ _ h => h) (fun w' => Rn.move rfl) ?_
          refine DW.rF 1 rfl (by kernel_rfl) (fun _ _ _ h => h) (fun w' => Rn.nilCheck rfl) ?_
          refine DW.rF 2 rfl (by kernel_rfl) (fun _ _ _ h => h) (fun w' => Rn.fieldAddr fo143_2 rfl) ?_
          have h672 := Bk.ext hb657 ed666
          refine DW.rT 3 rfl (by kernel_rfl) (fun _ _ _ h => h) (fun w' hC => Rn.load sc3 rfl ((Bk.at_ (M := fun _ => False) (Bk.ext h672 hC) (fun h => h)).cell 2 _ rfl)) ?_
          refine DW.rF 4 rfl (by kernel_rfl) (fun _ _ _ h => h) (fun w' => Rn.fieldAddr fo58_1 rfl) ?_
          have h673 := Bk.ext h613 he641
          have h674 := Bk.stp h673 hs658 (dj398 _ rfl)
          have h675 := Bk.ext h674 ed666
          refine DW.rT 5 rfl (by kernel_rfl) (fun _ _ _ h => h) (fun w' hC => Rn.load sc3 rfl ((Bk.at_ (M := fun _ => False) (Bk.ext h675 hC) (fun h => h)).cell 1 _ rfl)) ?_
          refine DW.rF 6 rfl (by kernel_rfl) (fun _ _ _ h => h) (fun w' => Rn.add rfl rfl (by omega)) ?_
          refine DW.rF 7 rfl (by kernel_rfl) (fun _ _ _ h => h) (fun w' => Rn.nilCheck rfl) ?_
          refine DW.rF 8 rfl (by kernel_rfl) (fun _ _ _ h => h) (fun w' => Rn.fieldAddr fo143_2 rfl) ?_
          refine DW.only 9 (by kernel_rfl) rfl (fun _ => hcl668) ?_
          refine WL.store (o := 2) (by rw [ti3]; rfl) rfl rfl rfl h672 (Nat.le_of_ble_eq_true rfl) (fun w676 hb680 hs678 => ?_)
          have hb677 : Bk w676 g 143 [.pointer (some ⟨tr, 0, none⟩), .slice A632 (((wait2.drop (max 1 ((longestP rs wait2).2)).toNat)).length) c633, .int .i64 (a2 + (max 1 ((longestP rs wait2).2))), .int .i64 (IntKind.i64.wrap (st2 + (wait2.length : Int)))] := hb680
          have u679 := Stp.upM hs678 hm671 mem661
          have e681 := Stp.wr e670 hs678 hwm
          have hm682 := Up.mb u679
          refine WL.nil ?_
          refine DW.done (by kernel_rfl) (notFresh (by kernel_rfl)) ?_
          refine Blk.nrm ?_
          have mem683 : Ms (ob (.slice A632 ((wait2.drop (max 1 ((longestP rs wait2).2)).toNat)).length c633)) M635 := (Own.ms hO643)
          have h684 := Own.step hO643 hs658 dj649 u659 mem683
          have h685 := Own.ext h684 ed666 u669 (fun _ h => h)
          have h686 := Own.step h685 hs678 dj649 u679 mem683
          have h687 := Own.ext hO574 ed600 u603 (fun _ h => h)
          have h688 := Own.ext h687 he641 u638 hsub639
          have mem689 : Ms (ob (.slice A570 (out ++ [(⟨a2, max 1 ((longestP rs wait2).2), outP rs (longestP rs wait2).1, 0⟩ : PTok)]).length c571)) M635 := (fun k h => hsub639 k (mem652 k h))
          have h690 := Own.step h688 hs658 dj594 u659 mem689
          have h691 := Own.ext h690 ed666 u669 (fun _ h => h)
          have h692 := Own.step h691 hs678 dj594 u679 mem689
          refine Loop.again _ _ ?_ ?_ ⟨wait2.drop (tokP rs wait2 a2).len.toNat, a2 + (tokP rs wait2 a2).len, IntKind.i64.wrap (st2 + (wait2.length : Int)), out ++ [tokP rs wait2 a2], M635, A632, ((wait2.drop (max 1 ((longestP rs wait2).2)).toNat)).length, c633, A570, (out ++ [(⟨a2, max 1 ((longestP rs wait2).2), outP rs (longestP rs wait2).1, 0⟩ : PTok)]).length, c571, rfl, rfl, (Up.trans hU5 (Up.trans u34 (Up.trans u42 (Up.trans u50 (Up.trans u58 (Up.trans u388 (Up.trans u404 (Up.trans u552 (Up.trans u558 (Up.trans u567 (Up.trans u576 (Up.trans u603 (Up.trans u638 (Up.trans u659 (Up.trans u669 u679))))))))))))))), e681, hs0647, hs0647, htl ▸ h686, by rw [htl]; exact hb677, htok ▸ h692, mem683, (Wr.ofFr S fr655), dj649, dj651, mem689, fr598, dj594, by rw [hf, take_cons hne (by simp [*])]; simp, by omega, by rw [htl]; simp only [List.length_drop]; omega, by simp only [List.length_append, List.length_cons, List.length_nil, List.length_drop, htl]; omega⟩
          · simp only [List.length_drop]; omega
          · exact .cons (t := 0) rfl (.cons (t := 1) rfl (.cons (t := 5) rfl (.nil _)))
  · refine CW.exit ?_
    refine CW.seq ?_
    refine CW.region ?_
    refine WL.move rfl ?_
    refine WL.assign rfl ?_
    refine WL.nil ?_
    refine CW.ret ?_
    refine Ret.one rfl rfl ?_
    have hw0 : wait2 = [] := List.eq_nil_of_length_eq_zero (by omega)
    have hfin : takeP rs e wait a = (out, wait2, a2) := by rw [hf, hw0, take_nil]; simp
    rw [hfin]
    exact ⟨_, _, ⟨h15, wr24, Dj.or dj25 (Dj.symm dj22), hU5, hsp8, hE6, Wr.or hwm wr20⟩, tr, _, _, _, Ms.or mem27 mem19, h14, .inl rfl, h10, fun _ h => .inr h, (hT.up hU5)⟩

theorem put_spec (w : World) (M : MS) (hm : MB w M) {S : MS} {g : Nat} {rs : List PRule} {wait : List Int} {a : Int} (hM : MatchR w M S g rs wait a) (hg : GoodR rs) (ha : 0 ≤ a) (hab : a + wait.length ≤ 999999999999) (u : Int) (hu : I64 u) :
    Fc Try.prog 73 #[.pointer (some ⟨g, 0, none⟩), .int .i64 u] w fun v w' => ∃ M' S', PutR w M S w' M' S' v (takeP rs false (wait ++ [u]) a).1 ∧ MatchR w' M' S' g rs (takeP rs false (wait ++ [u]) a).2.1 (takeP rs false (wait ++ [u]) a).2.2 := by
  have e0 := Stp.refl w (S : MS)
  have hs00 : Ms M M := fun _ h => h
  obtain ⟨tr, Aw, cw, st, hS, hb, hSg, hO, hSo, hT⟩ := hM
  have hmm : Ms (vb g) M := Ms.one (hS _ hSg)
  have hwm : Wr w.heap.size S (vb g) := fun q_ hq_ => .inl (by rw [hq_]; exact hSg)
  have hwo : Wr w.heap.size S (ob (.slice Aw wait.length cw)) := fun q_ hq_ => .inl (hSo q_ hq_)
  have hdj : Dj (ob (.slice Aw wait.length cw)) (vb g) := fun q_ hq_ h => Own.apartBk hO hb (by decide) (h ▸ hq_)
  have hwl := Own.len hO
  refine Fc.enter (n := 17) [(0, .pointer (some ⟨g, 0, none⟩)), (1, .int .i64 u)] Try.func73 rfl rfl (Nat.le_of_ble_eq_true rfl) (.cons rfl (.cons rfl (.nil _))) ?_
  refine CW.seq ?_
  refine CW.region ?_
  refine WL.assign rfl ?_
  refine WL.nil ?_
  refine CW.seq ?_
  refine CW.region ?_
  refine WL.move rfl ?_
  refine WL.move rfl ?_
  refine WL.nilCheck rfl ?_
  refine WL.fieldAddr fo143_1 rfl ?_
  refine WL.load sc29 rfl ((Bk.at_ (M := fun _ => False) hb (fun h => h)).cell 1 _ rfl) ?_
  refine WL.move rfl ?_
  refine WL.bslice1 (R := IntR) (y' := u) Try.underlying29 ti3 rfl (by decide) (by decide) rfl ⟨rfl, by omega⟩ rfl hm (fun v1 w2 hS3 he4 => ?_)
  have u5 := Ext.up he4 hm
  have e6 := Stp.ext e0 he4
  have hm7 := Up.mb u5
  have h17 := Own.ext hO he4 u5 (fun _ h => h)
  have mem18 : Ms (ob (.slice Aw wait.length cw)) M := (Own.ms hO)
  refine WL.appendR Try.underlying29 ti3 rfl (by decide) rfl rfl h17 (Sl.atl hS3) hm7 (by decide) (by first | omega | (simp; omega)) (fun A8 c9 w10 M11 hO12 hs13 u14 hsub15 hnew16 => ?_)
  have e19 := Stp.wr e6 hs13 hwo
  have hm20 := Up.mb u14
  have hs021 : Ms M M11 := fun k h => hsub15 k (hs00 k h)
  have dj22 := Dj.grow (Dj.symm (Dj.symm hdj)) hnew16 hmm hm7
  have wr23 := Wr.grow hwo hnew16 (Stp.size e6)
  refine WL.nilCheck rfl ?_
  refine WL.fieldAddr fo143_1 rfl ?_
  have h28 := Bk.ext hb he4
  have h29 := Bk.stp h28 hs13 ((Dj.symm hdj) _ rfl)
  have mem30 : Ms (vb g) M11 := (fun k h => hsub15 k (hmm k h))
  refine WL.store (o := 1) (by rw [ti29]; rfl) rfl rfl rfl h29 (Nat.le_of_ble_eq_true rfl) (fun w24 hb31 hs26 => ?_)
  have hb25 : Bk w24 g 143 [.pointer (some ⟨tr, 0, none⟩), .slice A8 ((wait ++ [u]).length) c9, .int .i64 a, .int .i64 st] := hb31
  have u27 := Stp.upM hs26 hm20 mem30
  have e32 := Stp.wr e19 hs26 hwm
  have hm33 := Up.mb u27
  refine WL.nil ?_
  refine CW.seq ?_
  refine CW.region ?_
  refine WL.move rfl ?_
  have mem34 : Ms (ob (.slice A8 (wait ++ [u]).length c9)) M11 := (Own.ms hO12)
  have h35 := Own.step hO12 hs26 dj22 u27 mem34
  have hpk36 : MatchR w24 M11 (fun k => vb g k ∨ ob (.slice A8 ((wait ++ [u]).length) c9) k) g rs (wait ++ [u]) a := ⟨tr, _, _, _, Ms.or mem30 mem34, hb25, .inl rfl, h35, fun _ h => .inr h, (hT.up (Up.trans u5 (Up.trans u14 u27)))⟩
  refine WL.call Try.func93 rfl rfl (.cons rfl (.cons rfl (.nil))) (take_spec _ _ hm33 hpk36 hg ha (by simp only [List.length_append, List.length_cons, List.length_nil]; omega) false) (fun _ w37 hr38 => ?_)
  obtain ⟨M39, S40, hP41, hM42⟩ := hr38
  obtain ⟨A43, c44, rfl⟩ := Own.form hP41.own
  have e45 := Stp.wr e32 (PutR.stp hP41) (Wr.or hwm wr23)
  have hm46 := Up.mb (PutR.up hP41)
  have hs047 : Ms M M39 := fun k h => (PutR.ms hP41) k (hs021 k h)
  have wr48 := Wr.grow (Wr.or hwm wr23) (PutR.wr hP41) (Stp.size e32)
  have fr49 := Ge.le (PutR.new hP41) (Stp.size e32)
  refine WL.assign rfl ?_
  refine WL.nil ?_
  refine CW.ret ?_
  refine Ret.one rfl rfl ?_
  exact ⟨_, _, ⟨(PutR.own hP41), fr49, (PutR.dj hP41), (Up.trans u5 (Up.trans u14 (Up.trans u27 (PutR.up hP41)))), hs047, e45, wr48⟩, hM42⟩

theorem end_spec (w : World) (M : MS) (hm : MB w M) {S : MS} {g : Nat} {rs : List PRule} {wait : List Int} {a : Int} (hM : MatchR w M S g rs wait a) (hg : GoodR rs) (ha : 0 ≤ a) (hab : a + wait.length ≤ 999999999999) :
    Fc Try.prog 95 #[.pointer (some ⟨g, 0, none⟩)] w fun v w' => ∃ M' S', PutR w M S w' M' S' v (takeP rs true wait a).1 ∧ MatchR w' M' S' g rs (takeP rs true wait a).2.1 (takeP rs true wait a).2.2 := by
  have e0 := Stp.refl w (S : MS)
  have hs00 : Ms M M := fun _ h => h
  refine Fc.enter (n := 5) [(0, .pointer (some ⟨g, 0, none⟩))] Try.func95 rfl rfl (Nat.le_of_ble_eq_true rfl) (.cons rfl (.nil _)) ?_
  refine CW.seq ?_
  refine CW.region ?_
  refine WL.assign rfl ?_
  refine WL.nil ?_
  refine CW.seq ?_
  refine CW.region ?_
  refine WL.move rfl ?_
  refine WL.call Try.func93 rfl rfl (.cons rfl (.cons rfl (.nil))) (take_spec _ _ hm hM hg ha (by omega) true) (fun _ w1 hr2 => ?_)
  obtain ⟨M3, S4, hP5, hM6⟩ := hr2
  obtain ⟨A7, c8, rfl⟩ := Own.form hP5.own
  have e9 := Stp.wr e0 (PutR.stp hP5) (Wr.self w.heap.size S)
  have hm10 := Up.mb (PutR.up hP5)
  have hs011 : Ms M M3 := fun k h => (PutR.ms hP5) k (hs00 k h)
  have wr12 := Wr.grow (Wr.self w.heap.size S) (PutR.wr hP5) (Stp.size e0)
  have fr13 := Ge.le (PutR.new hP5) (Stp.size e0)
  refine WL.assign rfl ?_
  refine WL.nil ?_
  refine CW.ret ?_
  refine Ret.one rfl rfl ?_
  exact ⟨_, _, ⟨(PutR.own hP5), fr13, (PutR.dj hP5), (PutR.up hP5), hs011, e9, wr12⟩, hM6⟩

theorem held_spec (w : World) (M : MS) (hm : MB w M) {S : MS} {g : Nat} {rs : List PRule} {wait : List Int} {a : Int} (hM : MatchR w M S g rs wait a) :
    Fc Try.prog 74 #[.pointer (some ⟨g, 0, none⟩)] w fun v w' => v = .int .i64 (wait.length : Int) ∧ Ext w w' := by
  have e0 := Stp.refl w (NoM : MS)
  have hs00 : Ms M M := fun _ h => h
  obtain ⟨tr, Aw, cw, st, hS, hb, hSg, hO, hSo, hT⟩ := hM
  have hmm : Ms (vb g) M := Ms.one (hS _ hSg)
  have hwm : Wr w.heap.size S (vb g) := fun q_ hq_ => .inl (by rw [hq_]; exact hSg)
  have hwo : Wr w.heap.size S (ob (.slice Aw wait.length cw)) := fun q_ hq_ => .inl (hSo q_ hq_)
  have hdj : Dj (ob (.slice Aw wait.length cw)) (vb g) := fun q_ hq_ h => Own.apartBk hO hb (by decide) (h ▸ hq_)
  have hwl := Own.len hO
  refine Fc.enter (n := 8) [(0, .pointer (some ⟨g, 0, none⟩))] Try.func74 rfl rfl (Nat.le_of_ble_eq_true rfl) (.cons rfl (.nil _)) ?_
  refine CW.seq ?_
  refine CW.region ?_
  refine WL.assign rfl ?_
  refine WL.nil ?_
  refine CW.seq ?_
  refine CW.region ?_
  refine WL.move rfl ?_
  refine WL.nilCheck rfl ?_
  refine WL.fieldAddr fo143_1 rfl ?_
  refine WL.load sc29 rfl ((Bk.at_ (M := fun _ => False) hb (fun h => h)).cell 1 _ rfl) ?_
  refine WL.len Try.underlying29 rfl ?_
  refine WL.assign rfl ?_
  refine WL.nil ?_
  refine CW.ret ?_
  refine Ret.one rfl rfl ?_
  exact ⟨rfl, e0⟩

theorem matchOf_spec (w : World) (M : MS) (hm : MB w M) {tr : Nat} {rs : List PRule} (hT : TrieR w M tr rs) :
    Fc Try.prog 68 #[.pointer (some ⟨tr, 0, none⟩)] w fun v w' => ∃ g, v = .pointer (some ⟨g, 0, none⟩) ∧ ∃ M' S', MatchR w' M' S' g rs [] 0 ∧ (∀ k, S' k → w.heap.size ≤ k) ∧ Up w M w' M' ∧ Ms M M' ∧ Ext w w' := by
  have e0 := Stp.refl w (NoM : MS)
  have hs00 : Ms M M := fun _ h => h
  refine Fc.enter (n := 6) [(0, .pointer (some ⟨tr, 0, none⟩))] Try.func68 rfl rfl (Nat.le_of_ble_eq_true rfl) (.cons rfl (.nil _)) ?_
  refine CW.seq ?_
  refine CW.region ?_
  refine WL.assign rfl ?_
  refine WL.nil ?_
  refine CW.seq ?_
  refine CW.region ?_
  refine WL.move rfl ?_
  refine WL.buildP (cs := #[.pointer (some ⟨tr, 0, none⟩), .slice none 0 0, .int .i64 0, .int .i64 0]) (.cons rfl (.nil)) (by kernel_rfl) ?_
  refine WL.box (cs := [.pointer (some ⟨tr, 0, none⟩), .slice none 0 0, .int .i64 0, .int .i64 0]) rfl rfl (fun g1 w2 hg3 hb4 he5 => ?_)
  obtain ⟨M6, u7, mem8, hsub9, hinv10⟩ := Ext.addVar he5 hm hg3 hb4
  have ge11 : ∀ q_, vb g1 q_ → w.heap.size ≤ q_ := fun q_ hq_ => by rw [hq_]; exact hg3
  have mem12 := Ms.one mem8
  have e13 := Stp.ext e0 he5
  have hm14 := Up.mb u7
  have hs015 : Ms M M6 := fun k h => hsub9 k (hs00 k h)
  have fr16 := Ge.le ge11 (Stp.size e0)
  refine WL.assign rfl ?_
  refine WL.nil ?_
  refine CW.ret ?_
  refine Ret.one rfl rfl ?_
  exact ⟨_, rfl, _, vb g1, ⟨tr, none, 0, 0, mem12, hb4, rfl, Own.nil, Ms.nil _, (hT.up u7)⟩, fr16, u7, hs015, e13⟩
end Go.Proofs.Ytgbajkdomcmblaa
