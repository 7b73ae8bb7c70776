/- The laws' Encode of ISCII: walks. -/
import Derived.Test.YtgbajkdomcmblaaIscE
import Derived.Test.YtgbajkdomcmblaaMachZ
namespace Go.Proofs.Ytgbajkdomcmblaa
open Go Go.RowKit Vc
set_option linter.unusedVariables false
set_option linter.unusedSimpArgs false
private theorem mixed : Try.prog.follows .mixedOrders = true := by kernel_rfl
private theorem fo58_0 : fieldOff Try.prog 58 0 = some 0 := by kernel_rfl
private theorem es29 : elemSize Try.prog 29 = some 1 := by kernel_rfl
private theorem es55 : elemSize Try.prog 55 = some 4 := by kernel_rfl
private theorem sc3 : scalar Try.prog 3 = true := by kernel_rfl
private theorem sc29 : scalar Try.prog 29 = true := by kernel_rfl
private theorem sc55 : scalar Try.prog 55 = true := by kernel_rfl
private theorem ag58 : aggSize Try.prog 58 = some 4 := by kernel_rfl
private theorem ti3 : tinfo Try.prog 3 = some (some (.int .i64 0), 1, 8) := by kernel_rfl
private theorem ti29 : tinfo Try.prog 29 = some (some (.slice none 0 0), 1, 24) := by kernel_rfl
private theorem ti55 : tinfo Try.prog 55 = some (some (.slice none 0 0), 1, 24) := by kernel_rfl
private theorem ti58 : tinfo Try.prog 58 = some (some (.agg #[.int .i64 0, .int .i64 0, .slice none 0 0, .int .i64 0]), 4, 48) := by kernel_rfl
/-- What the laws write units as. -/
def encP (us : List Int) : List PTok := (joinP indR [] (batchP (turnP indR) us 0)).1
/-- The units, from and out of the laws' Encode. -/
def LVar (w : World) (M S : MS) (gu gf go : Nat) (vu : Value) (fr : Int) (ou : List PTok) : Prop := ∃ (B : Option Addr) (d : Nat), Ms S M ∧ Bk w gu 29 [vu] ∧ Bk w gf 3 [.int .i64 fr] ∧ Bk w go 55 [.slice B ou.length d] ∧ S gu ∧ S gf ∧ S go ∧ Own TokR 4 58 w M 0 (.slice B ou.length d) ou ∧ Ms (ob (.slice B ou.length d)) S ∧
  Dj (ob (.slice B ou.length d)) (vb gu) ∧ Dj (ob (.slice B ou.length d)) (vb gf) ∧ Dj (ob (.slice B ou.length d)) (vb go) ∧ Dj (vb gf) (vb gu) ∧ Dj (vb go) (vb gu) ∧ Dj (vb go) (vb gf)
structure LEnc where
  ou : List PTok
  fr : Int
  us : List Int
  sc : Int
def restP (s : LEnc) : LEnc := ⟨s.ou ++ (encP s.us).map (shift s.fr), s.fr + s.us.length, [], s.sc⟩
def lstep (s : LEnc) (n x : Int) : LEnc :=
  if (indIs x && decide (indScript x ≠ s.sc)) = true then ⟨s.ou ++ (encP s.us).map (shift s.fr) ++ [switchTok n (indScript x)], s.fr + s.us.length, [unitOf x], indScript x⟩ else ⟨s.ou, s.fr, s.us ++ [unitOf x], s.sc⟩
def lrun : List Int → Int → LEnc → LEnc
  | [], _, s => s
  | x :: l, n, s => lrun l (n + 1) (lstep s n x)
def lawEnc (l : List Int) : LEnc := restP (lrun l 0 ⟨[], 0, [], 0⟩)
theorem lrun_append : ∀ (l m : List Int) (n : Int) (s : LEnc), lrun (l ++ m) n s = lrun m (n + l.length) (lrun l n s)
  | [], m, n, s => by simp [lrun]
  | x :: l, m, n, s => by simp only [List.cons_append, lrun, lrun_append l m, List.length_cons, Int.natCast_add, Int.natCast_one]; rw [show n + 1 + (l.length : Int) = n + ((l.length : Int) + 1) by omega]
theorem lrun_take_succ {l : List Int} {k : Nat} (hk : k < l.length) {s : LEnc} : lrun (l.take (k + 1)) 0 s = lstep (lrun (l.take k) 0 s) k l[k] := by
  rw [List.take_succ_eq_append_getElem hk, lrun_append]
  simp only [lrun, List.length_take]
  rw [show (0 : Int) + ((min k l.length : Nat) : Int) = k by omega]
theorem encP_len (us : List Int) : (encP us).length ≤ us.length := by
  have := (batch_facts indR_good.turn us 0).1
  have h2 : (encP us).length = (batchP (turnP indR) us 0).length := join_len indR _ []
  omega
theorem scalar_false {x : Int} (h : scalarB x = false) : x < 0 ∨ 1114111 < x ∨ (55296 ≤ x ∧ x ≤ 57343) := by
  unfold scalarB at h
  simp only [Bool.and_eq_false_iff, Bool.or_eq_false_iff, decide_eq_false_iff_not] at h
  omega
theorem lstep_sw {ou : List PTok} {fr : Int} {us : List Int} {sc n x u s2 c : Int} (h : indIs x = true) (hne : indScript x ≠ sc) (hu : unitOf x = u) (hs : indScript x = s2) (hc : codesL.getD s2.toNat 0 = c) : lstep ⟨ou, fr, us, sc⟩ n x = ⟨ou ++ (encP us).map (shift fr) ++ [⟨n, 0, [239, c], 0⟩], fr + us.length, [] ++ [u], s2⟩ := by
  unfold lstep
  rw [h, decide_eq_true hne, hu]
  simp only [Bool.and_self, if_true, switchTok]
  rw [hs, hc]; rfl
theorem lstep_pl {ou : List PTok} {fr : Int} {us : List Int} {sc n x u : Int} (h : (indIs x && decide (indScript x ≠ sc)) = false) (hu : unitOf x = u) : lstep ⟨ou, fr, us, sc⟩ n x = ⟨ou, fr, us ++ [u], sc⟩ := by
  unfold lstep
  rw [h, hu]; rfl

theorem rest_spec (w : World) (M : MS) (hm : MB w M) {S : MS} {gu gf go : Nat} {Ap1 : Option Addr} {cp1 : Nat} {us : List Int} (h1 : SlD IntR 1 w M Ap1 cp1 us) {fr : Int} {ou : List PTok} (hV : LVar w M S gu gf go (.slice Ap1 us.length cp1) fr ou) (hul : us.length ≤ 1000) (hf0 : 0 ≤ fr) (hf1 : fr ≤ 1000) (hol : ou.length ≤ 10000) :
    Fc Try.prog 82 #[.pointer (some ⟨gu, 0, none⟩), .pointer (some ⟨gf, 0, none⟩), .pointer (some ⟨go, 0, none⟩)] w fun v w' => ∃ M' S', LVar w' M' S' gu gf go (.slice none 0 0) (fr + us.length) (ou ++ (encP us).map (shift fr)) ∧ Up w M w' M' ∧ Ms M M' ∧ Stp w w' S ∧ Wr w.heap.size S S' := by
  have e0 := Stp.refl w (S : MS)
  have hs00 : Ms M M := fun _ h => h
  obtain ⟨B1, d2, hS3, hbu4, hbf5, hbo6, hSu7, hSf8, hSo9, hO10, hMo11, hda12, hdb13, hdc14, hdd15, hde16, hdf17⟩ := hV
  have hmu : Ms (vb gu) M := Ms.one (hS3 _ hSu7)
  have hwu : Wr w.heap.size S (vb gu) := fun q_ hq_ => .inl (by rw [hq_]; exact hSu7)
  have hmf : Ms (vb gf) M := Ms.one (hS3 _ hSf8)
  have hwf : Wr w.heap.size S (vb gf) := fun q_ hq_ => .inl (by rw [hq_]; exact hSf8)
  have hmo : Ms (vb go) M := Ms.one (hS3 _ hSo9)
  have hwo : Wr w.heap.size S (vb go) := fun q_ hq_ => .inl (by rw [hq_]; exact hSo9)
  have hwou : Wr w.heap.size S (ob (.slice B1 ou.length d2)) := fun q_ hq_ => .inl (hMo11 q_ hq_)
  have hlim := h1.lim
  obtain ⟨hbl, hbo_⟩ := batch_facts indR_good.turn us 0
  have hel : (encP us).length = (batchP (turnP indR) us 0).length := join_len indR _ []
  have hea := batch_at indR_good us
  refine Fc.enter (n := 27) [(0, .pointer (some ⟨gu, 0, none⟩)), (1, .pointer (some ⟨gf, 0, none⟩)), (2, .pointer (some ⟨go, 0, none⟩))] Try.func82 rfl rfl (Nat.le_of_ble_eq_true rfl) (.cons rfl (.cons rfl (.cons rfl (.nil _)))) ?_
  refine CW.seq ?_
  refine CW.seq ?_
  refine CW.drawn [] (fun w1 w' => Ext w1 w') mixed (fun w18 ed19 hh20 => ?_)
  have u22 := Ext.up ed19 hm
  have e23 := Stp.ext e0 ed19
  have hm24 := Up.mb u22
  have hcl21 := Stp.refl w18 (fun _ => False)
  have h25 := Bk.ext hbu4 ed19
  refine DW.rT 1 rfl (by kernel_rfl) (fun _ _ _ h => h) (fun w' hC => Rn.load sc29 rfl ((Bk.at_ (M := fun _ => False) (Bk.ext h25 hC) (fun h => h)).cell 0 _ rfl)) ?_
  refine DW.rF 4 rfl (by kernel_rfl) (fun _ _ _ h => h) (fun w' => Rn.move rfl) ?_
  refine DW.only 0 (by kernel_rfl) rfl (fun _ => hcl21) ?_
  refine WL.call Try.func83 rfl rfl (.nil) (lawRules_spec _ _ hm24) (fun _ w26 hr27 => ?_)
  obtain ⟨M28, hP29⟩ := hr27
  obtain ⟨A30, c31, rfl⟩ := Own.form hP29.own
  have e32 := Stp.ext e23 (NewR.ext hP29)
  have hm33 := Up.mb (NewR.up hP29)
  have hcl34 := Stp.ext hcl21 (NewR.ext hP29)
  have hs035 : Ms M M28 := fun k h => (NewR.ms hP29) k (hs00 k h)
  have mem37 : Ms (ob (.slice B1 ou.length d2)) M := (Own.ms hO10)
  have dj36 := Dj.fresh (T := (ob (.slice B1 ou.length d2))) (NewR.new hP29) mem37 hm24
  have dj38 := Dj.fresh (T := (vb gu)) (NewR.new hP29) hmu hm24
  have dj39 := Dj.fresh (T := (vb gf)) (NewR.new hP29) hmf hm24
  have dj40 := Dj.fresh (T := (vb go)) (NewR.new hP29) hmo hm24
  have fr41 := Ge.le (NewR.new hP29) (Stp.size e23)
  have hD42 := Own.freeze (NewR.own hP29) hm33
  have u43 := Up.freeze hm33 (ob (.slice A30 indR.length c31))
  have hs044 : Ms M (less M28 (ob (.slice A30 indR.length c31))) := Ms.less hs035 (Dj.symm (Dj.fresh (Ge.le (NewR.new hP29) (Stp.size (Up.stp u22))) (fun _ h => h) hm))
  have hm45 := Up.mb u43
  have mem46 : Ms (ob (.slice B1 ou.length d2)) (less M28 (ob (.slice A30 indR.length c31))) := (Ms.less (fun k h => (NewR.ms hP29) k (mem37 k h)) (Dj.symm dj36))
  have mem47 : Ms (vb gu) (less M28 (ob (.slice A30 indR.length c31))) := (Ms.less (fun k h => (NewR.ms hP29) k (hmu k h)) (Dj.symm dj38))
  have mem48 : Ms (vb gf) (less M28 (ob (.slice A30 indR.length c31))) := (Ms.less (fun k h => (NewR.ms hP29) k (hmf k h)) (Dj.symm dj39))
  have mem49 : Ms (vb go) (less M28 (ob (.slice A30 indR.length c31))) := (Ms.less (fun k h => (NewR.ms hP29) k (hmo k h)) (Dj.symm dj40))
  refine WL.nil ?_
  refine DW.only 2 (by kernel_rfl) rfl (fun _ => hcl34) ?_
  refine WL.call Try.func36 rfl rfl (.cons rfl (.cons rfl (.nil))) (lawEncode_spec _ _ hm45 hD42 (h1.up (Up.trans u22 (Up.trans (NewR.up hP29) u43))) indR_good (by omega)) (fun _ w50 hr51 => ?_)
  obtain ⟨M52, hP53⟩ := hr51
  obtain ⟨A54, c55, rfl⟩ := Own.form hP53.own
  have e56 := Stp.ext e32 (NewR.ext hP53)
  have hm57 := Up.mb (NewR.up hP53)
  have hcl58 := Stp.ext hcl34 (NewR.ext hP53)
  have hs059 : Ms M M52 := fun k h => (NewR.ms hP53) k (hs044 k h)
  have dj60 := Dj.fresh (T := (ob (.slice B1 ou.length d2))) (NewR.new hP53) mem46 hm45
  have dj61 := Dj.fresh (T := (vb gu)) (NewR.new hP53) mem47 hm45
  have dj62 := Dj.fresh (T := (vb gf)) (NewR.new hP53) mem48 hm45
  have dj63 := Dj.fresh (T := (vb go)) (NewR.new hP53) mem49 hm45
  have fr64 := Ge.le (NewR.new hP53) (Stp.size e32)
  refine WL.nil ?_
  refine DW.rF 3 rfl (by kernel_rfl) (fun _ _ _ h => h) (fun w' => Rn.len Try.underlying55 rfl) ?_
  refine DW.done (by kernel_rfl) (fun _ => hcl58) ?_
  refine CW.block ?_
  have hD65 := Own.freeze (NewR.own hP53) hm57
  have u66 := Up.freeze hm57 (ob (.slice A54 (encP us).length c55))
  have hs067 : Ms M (less M52 (ob (.slice A54 (encP us).length c55))) := Ms.less hs059 (Dj.symm (Dj.fresh (Ge.le (NewR.new hP53) (Stp.size (Up.stp (Up.trans u22 (Up.trans (NewR.up hP29) u43))))) (fun _ h => h) hm))
  have hm68 := Up.mb u66
  have mem69 : Ms (ob (.slice B1 ou.length d2)) (less M52 (ob (.slice A54 (encP us).length c55))) := (Ms.less (fun k h => (NewR.ms hP53) k (mem46 k h)) (Dj.symm dj60))
  have mem70 : Ms (vb gu) (less M52 (ob (.slice A54 (encP us).length c55))) := (Ms.less (fun k h => (NewR.ms hP53) k (mem47 k h)) (Dj.symm dj61))
  have mem71 : Ms (vb gf) (less M52 (ob (.slice A54 (encP us).length c55))) := (Ms.less (fun k h => (NewR.ms hP53) k (mem48 k h)) (Dj.symm dj62))
  have mem72 : Ms (vb go) (less M52 (ob (.slice A54 (encP us).length c55))) := (Ms.less (fun k h => (NewR.ms hP53) k (mem49 k h)) (Dj.symm dj63))
  have h83 := Own.ext hO10 ed19 u22 (fun _ h => h)
  have h84 := Own.ext h83 (NewR.ext hP29) (NewR.up hP29) (NewR.ms hP29)
  have h85 := Own.to h84 u43 mem46
  have h86 := Own.ext h85 (NewR.ext hP53) (NewR.up hP53) (NewR.ms hP53)
  have h87 := Own.to h86 u66 mem69
  have h89 := Bk.ext h25 (NewR.ext hP29)
  have h90 := h89
  have h91 := Bk.ext h90 (NewR.ext hP53)
  have h92 := h91
  have h94 := Bk.ext hbf5 ed19
  have h95 := Bk.ext h94 (NewR.ext hP29)
  have h96 := h95
  have h97 := Bk.ext h96 (NewR.ext hP53)
  have h98 := h97
  have h100 := Bk.ext hbo6 ed19
  have h101 := Bk.ext h100 (NewR.ext hP29)
  have h102 := h101
  have h103 := Bk.ext h102 (NewR.ext hP53)
  have h104 := h103
  refine CW.loop (fun m σ wr0 => ∃ k : Nat, ∃ ou2 : List PTok, ∃ Mr73 : MS, ∃ A80 : Option Addr, ∃ n81 : Nat, ∃ c82 : Nat, m = (encP us).length - k ∧ σ = [(0, .pointer (some ⟨gu, 0, none⟩)), (1, .pointer (some ⟨gf, 0, none⟩)), (2, .pointer (some ⟨go, 0, none⟩)), (7, .slice A54 ((encP us).length) c55), (8, .int .i64 ((encP us).length : Int)), (9, .int .i64 (k : Int))] ∧ (Up w50 (less M52 (ob (.slice A54 (encP us).length c55))) wr0 Mr73) ∧ (Stp w wr0 S) ∧ (Ms (less M52 (ob (.slice A54 (encP us).length c55))) Mr73) ∧ (Ms M Mr73) ∧ (Own TokR 4 58 wr0 Mr73 0 (.slice A80 n81 c82) (ou2)) ∧ (Bk wr0 gu 29 [.slice Ap1 us.length cp1]) ∧ (Bk wr0 gf 3 [.int .i64 fr]) ∧ (Bk wr0 go 55 [.slice A80 n81 c82]) ∧ (Ms (ob (.slice A80 n81 c82)) Mr73) ∧ (Wr w.heap.size S (ob (.slice A80 n81 c82))) ∧ (Dj (ob (.slice A80 n81 c82)) (vb gu)) ∧ (Dj (ob (.slice A80 n81 c82)) (vb gf)) ∧ (Dj (ob (.slice A80 n81 c82)) (vb go)) ∧ (k ≤ (encP us).length) ∧ (ou2 = ou ++ ((encP us).take k).map (shift fr))) _ _ (.cons (t := 0) rfl (.cons (t := 1) rfl (.cons (t := 2) rfl (.cons (t := 7) rfl (.cons (t := 8) rfl (.cons (t := 9) rfl (.nil _))))))) ⟨0, ou, (less M52 (ob (.slice A54 (encP us).length c55))), B1, ou.length, d2, rfl, rfl, Up.refl hm68, e56, fun _ h => h, hs067, h87, h92, h98, h104, mem69, hwou, (Dj.symm (Dj.symm hda12)), (Dj.symm (Dj.symm hdb13)), (Dj.symm (Dj.symm hdc14)), by omega, by simp⟩ ?_
  rintro m _ wr0 ⟨k, ou2, Mr73, A80, n81, c82, rfl, rfl, hU74, hE75, hsp77, hsb78, h79, h88, h93, h99, mem105, wr106, dj107, dj108, dj109, hk, hou2⟩
  have hm76 := Up.mb hU74
  obtain rfl := Own.n h79
  have hlen110 := Own.len h79
  have mem111 : Ms (vb gu) Mr73 := (fun k h => hsp77 k (mem70 k h))
  have mem112 : Ms (vb gf) Mr73 := (fun k h => hsp77 k (mem71 k h))
  have mem113 : Ms (vb go) Mr73 := (fun k h => hsp77 k (mem72 k h))
  have houl : ou2.length = ou.length + k := by rw [hou2, List.length_append, List.length_map, List.length_take]; omega
  refine CW.seq ?_
  refine CW.region ?_
  refine WL.lss rfl rfl ?_
  refine WL.nil ?_
  refine CW.seq ?_
  refine CW.condP rfl (fun hc114 => ?_) (fun hc114 => ?_)
  · have hkl : k < (encP us).length := by omega
    have hka := hea (encP us)[k] (List.getElem_mem hkl)
    refine CW.skip ?_
    refine CW.seq ?_
    refine CW.block ?_
    refine CW.seq ?_
    refine CW.region ?_
    have hlt115 : k < (encP us).length := by omega
    obtain ⟨ad116, cs117, hA118, hs119, hat120, hR121⟩ := SlD.get (hD65.up hU74) (List.getElem?_eq_getElem hlt115)
    obtain ⟨_, hx124, ⟨A122, c123, rfl, hD125⟩, hi126, hi127, hi128⟩ := hR121
    rw [hx124] at hat120
    have hl129 := SlD.lim hD125
    simp only [I64] at hi126 hi127 hi128
    refine WL.idx es55 rfl rfl hA118 (by omega) (by omega) ?_
    refine WL.loadAgg (cs := [.int .i64 ((encP us)[k].at_), .int .i64 ((encP us)[k].len), .slice A122 ((encP us)[k].out.length) c123, .int .i64 ((encP us)[k].err)]) ag58 rfl hat120 ?_
    refine WL.alloc (cs := [.int .i64 0, .int .i64 0, .slice none 0 0, .int .i64 0]) ti58 rfl (fun g130 w131 hg132 hb133 he134 => ?_)
    obtain ⟨M135, u136, mem137, hsub138, hinv139⟩ := Ext.addVar he134 hm76 hg132 hb133
    have ge140 : ∀ q_, vb g130 q_ → wr0.heap.size ≤ q_ := fun q_ hq_ => by rw [hq_]; exact hg132
    have mem141 := Ms.one mem137
    have e142 := Stp.ext hE75 he134
    have hm143 := Up.mb u136
    have hs0144 : Ms M M135 := fun k h => hsub138 k (hsb78 k h)
    have hs0145 : Ms (less M52 (ob (.slice A54 (encP us).length c55))) M135 := fun k h => hsub138 k (hsp77 k h)
    have dj146 := Dj.fresh (T := (ob (.slice A80 ou2.length c82))) ge140 mem105 hm76
    have dj147 := Dj.fresh (T := (vb gu)) ge140 mem111 hm76
    have dj148 := Dj.fresh (T := (vb gf)) ge140 mem112 hm76
    have dj149 := Dj.fresh (T := (vb go)) ge140 mem113 hm76
    have fr150 := Ge.le ge140 (Stp.size hE75)
    refine WL.storeAll (vs := [.int .i64 ((encP us)[k].at_), .int .i64 ((encP us)[k].len), .slice A122 ((encP us)[k].out.length) c123, .int .i64 ((encP us)[k].err)]) (by rw [ti58]; rfl) rfl rfl (by simp [Value.oneCell']) hb133 rfl (fun w151 hb152 hs153 => ?_)
    have u154 := Stp.upM hs153 hm143 mem141
    have e155 := Stp.wr e142 hs153 (Wr.ofFr S fr150)
    have hm156 := Up.mb u154
    refine WL.nil ?_
    refine CW.seq ?_
    refine CW.region ?_
    refine WL.fieldAddr fo58_0 rfl ?_
    refine WL.load sc3 rfl ((Bk.at_ (M := fun _ => False) hb152 (fun h => h)).cell 0 _ rfl) ?_
    have h157 := Bk.ext h93 he134
    have h158 := Bk.stp h157 hs153 ((Dj.symm dj148) _ rfl)
    refine WL.load sc3 rfl ((Bk.at_ (M := fun _ => False) h158 (fun h => h)).cell 0 _ rfl) ?_
    refine WL.add rfl rfl (by omega) ?_
    refine WL.fieldAddr fo58_0 rfl ?_
    refine WL.store (o := 0) (by rw [ti3]; rfl) rfl rfl rfl hb152 (Nat.le_of_ble_eq_true rfl) (fun w159 hb163 hs161 => ?_)
    have hb160 : Bk w159 g130 58 [.int .i64 (((encP us)[k].at_) + fr), .int .i64 ((encP us)[k].len), .slice A122 ((encP us)[k].out.length) c123, .int .i64 ((encP us)[k].err)] := hb163
    have u162 := Stp.upM hs161 hm156 mem141
    have e164 := Stp.wr e155 hs161 (Wr.ofFr S fr150)
    have hm165 := Up.mb u162
    refine WL.nil ?_
    refine CW.region ?_
    have h166 := Bk.ext h99 he134
    have h167 := Bk.stp h166 hs153 ((Dj.symm dj149) _ rfl)
    have h168 := Bk.stp h167 hs161 ((Dj.symm dj149) _ rfl)
    refine WL.load sc55 rfl ((Bk.at_ (M := fun _ => False) h168 (fun h => h)).cell 0 _ rfl) ?_
    refine WL.loadAgg (cs := [.int .i64 (((encP us)[k].at_) + fr), .int .i64 ((encP us)[k].len), .slice A122 ((encP us)[k].out.length) c123, .int .i64 ((encP us)[k].err)]) ag58 rfl (Bk.at_ (M := fun _ => False) hb160 (fun h => h)) ?_
    refine WL.bslice1 (R := TokR) (y' := (⟨((encP us)[k].at_) + fr, (encP us)[k].len, (encP us)[k].out, (encP us)[k].err⟩ : PTok)) Try.underlying55 ti58 rfl (by decide) (by decide) rfl ⟨_, rfl, (SlD.sl (hD125.up (Up.trans u136 (Up.trans u154 u162)))), by simp only [I64]; omega, by simp only [I64]; omega, by simp only [I64]; omega⟩ rfl hm165 (fun v169 w170 hS171 he172 => ?_)
    obtain ⟨A173, c174, rfl, hD175⟩ := hS171
    have u176 := Ext.up he172 hm165
    have e177 := Stp.ext e164 he172
    have hm178 := Up.mb u176
    have h188 := Own.ext h79 he134 u136 hsub138
    have mem189 : Ms (ob (.slice A80 ou2.length c82)) M135 := (fun k h => hsub138 k (mem105 k h))
    have h190 := Own.step h188 hs153 (Dj.symm dj146) u154 mem189
    have h191 := Own.step h190 hs161 (Dj.symm dj146) u162 mem189
    have h192 := Own.ext h191 he172 u176 (fun _ h => h)
    refine WL.appendR Try.underlying55 ti58 rfl (by decide) rfl rfl h192 (Sl.atl (SlD.sl hD175)) hm178 (by decide) (by first | omega | (simp; omega)) (fun A179 c180 w181 M182 hO183 hs184 u185 hsub186 hnew187 => ?_)
    have e193 := Stp.wr e177 hs184 wr106
    have hm194 := Up.mb u185
    have hs0195 : Ms M M182 := fun k h => hsub186 k (hs0144 k h)
    have hs0196 : Ms (less M52 (ob (.slice A54 (encP us).length c55))) M182 := fun k h => hsub186 k (hs0145 k h)
    have mem198 : Ms (vb gu) M135 := (fun k h => hsub138 k (mem111 k h))
    have dj197 := Dj.grow dj107 hnew187 mem198 hm178
    have mem200 : Ms (vb gf) M135 := (fun k h => hsub138 k (mem112 k h))
    have dj199 := Dj.grow dj108 hnew187 mem200 hm178
    have mem202 : Ms (vb go) M135 := (fun k h => hsub138 k (mem113 k h))
    have dj201 := Dj.grow dj109 hnew187 mem202 hm178
    have dj203 := Dj.grow (Dj.symm dj146) hnew187 mem141 hm178
    have wr204 := Wr.grow wr106 hnew187 (Stp.size e177)
    have h209 := Bk.ext h168 he172
    have h210 := Bk.stp h209 hs184 ((Dj.symm dj109) _ rfl)
    have mem211 : Ms (vb go) M182 := (fun k h => hsub186 k (mem202 k h))
    refine WL.store (o := 0) (by rw [ti55]; rfl) rfl rfl rfl h210 (Nat.le_of_ble_eq_true rfl) (fun w205 hb212 hs207 => ?_)
    have hb206 : Bk w205 go 55 [.slice A179 ((ou2 ++ [(⟨((encP us)[k].at_) + fr, (encP us)[k].len, (encP us)[k].out, (encP us)[k].err⟩ : PTok)]).length) c180] := hb212
    have u208 := Stp.upM hs207 hm194 mem211
    have e213 := Stp.wr e193 hs207 hwo
    have hm214 := Up.mb u208
    refine WL.nil ?_
    refine CW.region ?_
    refine WL.add rfl rfl (by omega) ?_
    refine WL.move rfl ?_
    refine WL.nil ?_
    have mem215 : Ms (ob (.slice A179 (ou2 ++ [(⟨((encP us)[k].at_) + fr, (encP us)[k].len, (encP us)[k].out, (encP us)[k].err⟩ : PTok)]).length c180)) M182 := (Own.ms hO183)
    have h216 := Own.step hO183 hs207 dj201 u208 mem215
    have h217 := Bk.ext h88 he134
    have h218 := Bk.stp h217 hs153 ((Dj.symm dj147) _ rfl)
    have h219 := Bk.stp h218 hs161 ((Dj.symm dj147) _ rfl)
    have h220 := Bk.ext h219 he172
    have h221 := Bk.stp h220 hs184 ((Dj.symm dj107) _ rfl)
    have h222 := Bk.stp h221 hs207 ((Dj.symm hde16) _ rfl)
    have h223 := Bk.stp h158 hs161 ((Dj.symm dj148) _ rfl)
    have h224 := Bk.ext h223 he172
    have h225 := Bk.stp h224 hs184 ((Dj.symm dj108) _ rfl)
    have h226 := Bk.stp h225 hs207 ((Dj.symm hdf17) _ rfl)
    refine Loop.again _ _ ?_ ?_ ⟨k + 1, ou2 ++ [(⟨((encP us)[k].at_) + fr, (encP us)[k].len, (encP us)[k].out, (encP us)[k].err⟩ : PTok)], M182, A179, (ou2 ++ [(⟨((encP us)[k].at_) + fr, (encP us)[k].len, (encP us)[k].out, (encP us)[k].err⟩ : PTok)]).length, c180, rfl, rfl, (Up.trans hU74 (Up.trans u136 (Up.trans u154 (Up.trans u162 (Up.trans u176 (Up.trans u185 u208)))))), e213, hs0196, hs0195, h216, h222, h226, hb206, mem215, wr204, dj197, dj199, dj201, by omega, by rw [hou2, map_take_succ _ hkl, List.append_assoc]; rfl⟩
    · omega
    · exact .cons (t := 0) rfl (.cons (t := 1) rfl (.cons (t := 2) rfl (.cons (t := 7) rfl (.cons (t := 8) rfl (.cons (t := 9) rfl (.nil _))))))
  · have hke : k = (encP us).length := by omega
    refine CW.exit ?_
    refine CW.region ?_
    refine WL.load sc3 rfl ((Bk.at_ (M := fun _ => False) h93 (fun h => h)).cell 0 _ rfl) ?_
    refine WL.load sc29 rfl ((Bk.at_ (M := fun _ => False) h88 (fun h => h)).cell 0 _ rfl) ?_
    refine WL.len Try.underlying29 rfl ?_
    refine WL.add rfl rfl (by omega) ?_
    refine WL.store (o := 0) (by rw [ti3]; rfl) rfl rfl rfl h93 (Nat.le_of_ble_eq_true rfl) (fun w227 hb231 hs229 => ?_)
    have hb228 : Bk w227 gf 3 [.int .i64 (fr + (us.length : Int))] := hb231
    have u230 := Stp.upM hs229 hm76 mem112
    have e232 := Stp.wr hE75 hs229 hwf
    have hm233 := Up.mb u230
    have h238 := Bk.stp h88 hs229 ((Dj.symm hdd15) _ rfl)
    refine WL.store (o := 0) (by rw [ti29]; rfl) rfl rfl rfl h238 (Nat.le_of_ble_eq_true rfl) (fun w234 hb239 hs236 => ?_)
    have hb235 : Bk w234 gu 29 [.slice none 0 0] := hb239
    have u237 := Stp.upM hs236 hm233 mem111
    have e240 := Stp.wr e232 hs236 hwu
    have hm241 := Up.mb u237
    refine WL.nil ?_
    have hfin : ou2 = ou ++ (encP us).map (shift fr) := by rw [hou2, hke, List.take_length]
    have h242 := Own.step h79 hs229 dj108 u230 mem105
    have h243 := Own.step h242 hs236 dj107 u237 mem105
    have h244 := Bk.stp hb228 hs236 (hdd15 _ rfl)
    have h245 := Bk.stp h99 hs229 (hdf17 _ rfl)
    have h246 := Bk.stp h245 hs236 (hde16 _ rfl)
    refine Ret.zero rfl ?_
    exact ⟨_, _, hfin ▸ ⟨A80, c82, (Ms.or mem105 (Ms.or mem111 (Ms.or mem112 mem113))), hb235, h244, h246, .inr (.inl rfl), .inr (.inr (.inl rfl)), .inr (.inr (.inr rfl)), h243, fun _ h => .inl h, dj107, dj108, dj109, hdd15, hde16, hdf17⟩, (Up.trans u22 (Up.trans (NewR.up hP29) (Up.trans u43 (Up.trans (NewR.up hP53) (Up.trans u66 (Up.trans hU74 (Up.trans u230 u237))))))), hsb78, e240, (Wr.or wr106 (Wr.or hwu (Wr.or hwf hwo)))⟩

theorem lawEnc_spec (w : World) (M : MS) (hm : MB w M) {Ap1 : Option Addr} {cp1 : Nat} {xs : List Int} (h1 : SlD IntR 1 w M Ap1 cp1 xs) (hx : xs.length ≤ 1000) :
    Fc Try.prog 52 #[.slice Ap1 xs.length cp1] w fun v w' => ∃ M' v1, v = .tuple #[v1, .int .i64 (lawEnc xs).sc] ∧ NewR TokR 4 58 w M w' M' v1 (lawEnc xs).ou := by
  have e0 := Stp.refl w (NoM : MS)
  have hs00 : Ms M M := fun _ h => h
  have hlim := h1.lim
  refine Fc.enter (n := 66) [(0, .slice Ap1 xs.length cp1)] Try.func52 rfl rfl (Nat.le_of_ble_eq_true rfl) (.cons rfl (.nil _)) ?_
  refine CW.seq ?_
  refine CW.region ?_
  refine WL.assign rfl ?_
  refine WL.assign rfl ?_
  refine WL.nil ?_
  refine CW.seq ?_
  refine CW.region ?_
  refine WL.alloc (cs := [.slice none 0 0]) ti55 rfl (fun g1 w2 hg3 hb4 he5 => ?_)
  obtain ⟨M6, u7, mem8, hsub9, hinv10⟩ := Ext.addVar he5 hm hg3 hb4
  have ge11 : ∀ q_, vb g1 q_ → w.heap.size ≤ q_ := fun q_ hq_ => by rw [hq_]; exact hg3
  have mem12 := Ms.one mem8
  have e13 := Stp.ext e0 he5
  have hm14 := Up.mb u7
  have hs015 : Ms M M6 := fun k h => hsub9 k (hs00 k h)
  have fr16 := Ge.le ge11 (Stp.size e0)
  refine WL.nil ?_
  refine CW.seq ?_
  refine CW.region ?_
  refine WL.alloc (cs := [.int .i64 0]) ti3 rfl (fun g17 w18 hg19 hb20 he21 => ?_)
  obtain ⟨M22, u23, mem24, hsub25, hinv26⟩ := Ext.addVar he21 hm14 hg19 hb20
  have ge27 : ∀ q_, vb g17 q_ → w2.heap.size ≤ q_ := fun q_ hq_ => by rw [hq_]; exact hg19
  have mem28 := Ms.one mem24
  have e29 := Stp.ext e13 he21
  have hm30 := Up.mb u23
  have hs031 : Ms M M22 := fun k h => hsub25 k (hs015 k h)
  have dj32 := Dj.fresh (T := (vb g1)) ge27 mem12 hm14
  have fr33 := Ge.le ge27 (Stp.size e13)
  refine WL.assign rfl ?_
  refine WL.store (o := 0) (by rw [ti3]; rfl) rfl rfl rfl hb20 (Nat.le_of_ble_eq_true rfl) (fun w34 hb38 hs36 => ?_)
  have hb35 : Bk w34 g17 3 [.int .i64 0] := hb38
  have u37 := Stp.upM hs36 hm30 mem28
  have e39 := Stp.wr e29 hs36 (Wr.ofFr NoM fr33)
  have hm40 := Up.mb u37
  refine WL.nil ?_
  refine CW.seq ?_
  refine CW.region ?_
  refine WL.alloc (cs := [.slice none 0 0]) ti29 rfl (fun g41 w42 hg43 hb44 he45 => ?_)
  obtain ⟨M46, u47, mem48, hsub49, hinv50⟩ := Ext.addVar he45 hm40 hg43 hb44
  have ge51 : ∀ q_, vb g41 q_ → w34.heap.size ≤ q_ := fun q_ hq_ => by rw [hq_]; exact hg43
  have mem52 := Ms.one mem48
  have e53 := Stp.ext e39 he45
  have hm54 := Up.mb u47
  have hs055 : Ms M M46 := fun k h => hsub49 k (hs031 k h)
  have mem57 : Ms (vb g1) M22 := (fun k h => hsub25 k (mem12 k h))
  have dj56 := Dj.fresh (T := (vb g1)) ge51 mem57 hm40
  have dj58 := Dj.fresh (T := (vb g17)) ge51 mem28 hm40
  have fr59 := Ge.le ge51 (Stp.size e39)
  refine WL.nil ?_
  refine CW.seq ?_
  refine CW.region ?_
  refine WL.makeFunc (.cons rfl (.cons rfl (.cons rfl (.nil)))) ?_
  refine WL.assign rfl ?_
  refine WL.nil ?_
  refine CW.seq ?_
  refine CW.seq ?_
  refine CW.region ?_
  refine WL.move rfl ?_
  refine WL.len Try.underlying29 rfl ?_
  refine WL.move rfl ?_
  refine WL.nil ?_
  refine CW.block ?_
  have hO60 : Own TokR 4 58 w42 M46 0 (.slice none 0 0) [] := Own.nil
  have dj61 : Dj (ob (.slice none 0 0)) (vb g1) := Dj.nil _
  have dj62 : Dj (ob (.slice none 0 0)) (vb g17) := Dj.nil _
  have dj63 : Dj (ob (.slice none 0 0)) (vb g41) := Dj.nil _
  have hO64 : Own IntR 1 3 w42 M46 0 (.slice none 0 0) [] := Own.nil
  have dj65 : Dj (ob (.slice none 0 0)) (vb g1) := Dj.nil _
  have dj66 : Dj (ob (.slice none 0 0)) (vb g17) := Dj.nil _
  have dj67 : Dj (ob (.slice none 0 0)) (vb g41) := Dj.nil _
  have dj68 : Dj (ob (.slice none 0 0)) (ob (.slice none 0 0)) := Dj.nil _
  have h76 := Bk.ext hb4 he21
  have h77 := Bk.stp h76 hs36 ((Dj.symm dj32) _ rfl)
  have h78 := Bk.ext h77 he45
  have h80 := Bk.ext hb35 he45
  refine CW.loop (fun m σ wr0 => ∃ k : Nat, ∃ ou : List PTok, ∃ us : List Int, ∃ fr : Int, ∃ sc : Int, ∃ Mr69 : MS, ∃ A83 : Option Addr, ∃ n84 : Nat, ∃ c85 : Nat, ∃ A87 : Option Addr, ∃ n88 : Nat, ∃ c89 : Nat, m = xs.length - k ∧ σ = [(4, .pointer (some ⟨g1, 0, none⟩)), (5, .int .i64 sc), (7, .pointer (some ⟨g41, 0, none⟩)), (8, .func (.func 82) #[] #[.pointer (some ⟨g41, 0, none⟩), .pointer (some ⟨g17, 0, none⟩), .pointer (some ⟨g1, 0, none⟩)]), (13, .slice Ap1 xs.length cp1), (14, .int .i64 (xs.length : Int)), (15, .int .i64 (k : Int))] ∧ (Up w42 M46 wr0 Mr69) ∧ (Stp w wr0 NoM) ∧ (Ms M46 Mr69) ∧ (Ms M Mr69) ∧ (Bk wr0 g1 55 [.slice A83 n84 c85]) ∧ (Bk wr0 g17 3 [.int .i64 fr]) ∧ (Bk wr0 g41 29 [.slice A87 n88 c89]) ∧ (Own TokR 4 58 wr0 Mr69 0 (.slice A83 n84 c85) (ou)) ∧ (Own IntR 1 3 wr0 Mr69 0 (.slice A87 n88 c89) (us)) ∧ (Ms (ob (.slice A83 n84 c85)) Mr69) ∧ (∀ q_, (ob (.slice A83 n84 c85)) q_ → w.heap.size ≤ q_) ∧ (∀ q_, (ob (.slice A83 n84 c85)) q_ → w42.heap.size ≤ q_) ∧ (Dj (ob (.slice A83 n84 c85)) (vb g1)) ∧ (Dj (ob (.slice A83 n84 c85)) (vb g17)) ∧ (Dj (ob (.slice A83 n84 c85)) (vb g41)) ∧ (Dj (ob (.slice A83 n84 c85)) (ob (.slice A87 n88 c89))) ∧ (Ms (ob (.slice A87 n88 c89)) Mr69) ∧ (∀ q_, (ob (.slice A87 n88 c89)) q_ → w.heap.size ≤ q_) ∧ (∀ q_, (ob (.slice A87 n88 c89)) q_ → w42.heap.size ≤ q_) ∧ (Dj (ob (.slice A87 n88 c89)) (vb g1)) ∧ (Dj (ob (.slice A87 n88 c89)) (vb g17)) ∧ (Dj (ob (.slice A87 n88 c89)) (vb g41)) ∧ (k ≤ xs.length) ∧ (lrun (xs.take k) 0 ⟨[], 0, [], 0⟩ = ⟨ou, fr, us, sc⟩) ∧ (fr + us.length = k) ∧ (0 ≤ fr) ∧ (ou.length + us.length ≤ 2 * k) ∧ (0 ≤ sc) ∧ (sc ≤ 8)) _ _ (.cons (t := 4) rfl (.cons (t := 5) rfl (.cons (t := 7) rfl (.cons (t := 8) rfl (.cons (t := 13) rfl (.cons (t := 14) rfl (.cons (t := 15) rfl (.nil _)))))))) ⟨0, [], [], 0, 0, M46, none, 0, 0, none, 0, 0, rfl, rfl, Up.refl hm54, e53, fun _ h => h, hs055, h78, h80, hb44, hO60, hO64, (Ms.nil M46), (Fr.nil w.heap.size), (Fr.nil w42.heap.size), dj61, dj62, dj63, (Dj.symm dj68), (Ms.nil M46), (Fr.nil w.heap.size), (Fr.nil w42.heap.size), dj65, dj66, dj67, by omega, rfl, by simp, by omega, by simp, by omega, by omega⟩ ?_
  rintro m _ wr0 ⟨k, ou, us, fr, sc, Mr69, A83, n84, c85, A87, n88, c89, rfl, rfl, hU70, hE71, hsp73, hsb74, h75, h79, h81, h82, h86, mem90, wr91, ge92, dj93, dj94, dj95, dj96, mem97, wr98, ge99, dj100, dj101, dj102, hk, hrun, hfu, hfr0, hou, hsc0, hsc1⟩
  have hm72 := Up.mb hU70
  have mem103 : Ms (vb g1) Mr69 := (fun k h => hsp73 k ((fun k h => hsub49 k (mem57 k h)) k h))
  have mem104 : Ms (vb g17) Mr69 := (fun k h => hsp73 k ((fun k h => hsub49 k (mem28 k h)) k h))
  have mem105 : Ms (vb g41) Mr69 := (fun k h => hsp73 k (mem52 k h))
  obtain rfl := Own.n h82
  have hlen106 := Own.len h82
  obtain rfl := Own.n h86
  have hlen107 := Own.len h86
  have hepl := encP_len us
  refine CW.seq ?_
  refine CW.region ?_
  refine WL.lss rfl rfl ?_
  refine WL.nil ?_
  refine CW.seq ?_
  refine CW.condP rfl (fun hc108 => ?_) (fun hc108 => ?_)
  · have hkl : k < xs.length := by omega
    refine CW.skip ?_
    refine CW.seq ?_
    refine CW.block ?_
    refine CW.seq ?_
    refine CW.region ?_
    refine WL.move rfl ?_
    have hlt109 : k < xs.length := by (first | omega | (show _ < 9; omega))
    obtain ⟨ad110, cs111, hA112, hs113, hat114, hR115⟩ := SlD.get (h1.up (Up.trans u7 (Up.trans u23 (Up.trans u37 (Up.trans u47 hU70))))) (List.getElem?_eq_getElem hlt109)
    rw [show _ = _ from hR115.1] at hat114
    have hhR115 := hR115.2; simp only [I64] at hhR115
    refine WL.idx es29 rfl rfl hA112 (by omega) (by omega) ?_
    refine WL.load sc3 rfl (hat114.cell 0 _ rfl) ?_
    refine WL.assign rfl ?_
    refine WL.assign rfl ?_
    refine WL.nil ?_
    refine CW.seq ?_
    refine CW.region ?_
    refine WL.move rfl ?_
    refine WL.rn (Rn.addw rfl rfl) ?_
    refine WL.assign rfl ?_
    refine WL.nil ?_
    refine CW.seq ?_
    refine CW.seq ?_
    refine CW.region ?_
    refine WL.move rfl ?_
    refine WL.call Try.func78 rfl rfl (.cons rfl (.nil)) (scalar_spec _ _ hm72 xs[k]) (fun _ w116 hr117 => ?_)
    obtain ⟨rfl, he118⟩ := hr117
    have u119 := Ext.up he118 hm72
    have e120 := Stp.ext hE71 he118
    have hm121 := Up.mb u119
    refine WL.not_ rfl ?_
    refine WL.nil ?_
    refine CW.condB rfl (fun hc122 => ?_) (fun hc122 => ?_)
    · have hsb : scalarB xs[k] = false := by simpa using hc122
      have hns := scalar_false hsb
      refine CW.region ?_
      refine WL.assign rfl ?_
      refine WL.nil ?_
      refine CW.seq ?_
      refine CW.seq ?_
      refine CW.region ?_
      refine WL.move rfl ?_
      refine WL.geq rfl rfl ?_
      refine WL.move rfl ?_
      by_cases hg123 : 2304 ≤ xs[k]
      · refine WL.gtake rfl rfl (decide_eq_true hg123) ?_
        refine WL.move rfl ?_
        refine WL.gtake rfl rfl (decide_eq_true hg123) ?_
        refine WL.lss rfl rfl ?_
        refine WL.pickT (congrArg (fun b => some (Value.bool b)) (decide_eq_true hg123)) rfl ?_
        refine WL.move rfl ?_
        have hev124 : ¬ (xs[k] < 3456) := by omega
        refine WL.gskip rfl rfl (decide_eq_false hev124) ?_
        refine WL.gskip rfl rfl (decide_eq_false hev124) ?_
        refine WL.pickF (congrArg (fun b => some (Value.bool b)) (decide_eq_false hev124)) rfl ?_
        refine WL.nil ?_
        refine CW.condF rfl ?_
        have his : indIs xs[k] = false := by
          unfold indIs
          rw [Bool.not_eq_false', Bool.or_eq_true, Bool.or_eq_true, decide_eq_true_eq, decide_eq_true_eq, decide_eq_true_eq]
          omega
        have hun : unitOf xs[k] = -1 := by unfold unitOf; rw [hsb]; rfl
        refine CW.skip ?_
        refine CW.region ?_
        have h125 := Bk.ext h81 he118
        refine WL.load sc29 rfl ((Bk.at_ (M := fun _ => False) h125 (fun h => h)).cell 0 _ rfl) ?_
        refine WL.move rfl ?_
        refine WL.bslice Try.underlying29 ti3 rfl (by decide) (by decide) (.cons rfl (.nil)) rfl (by simp [Value.cells]) (fun g126 w127 hg128 hb129 he130 => ?_)
        have hD131 : SlD IntR 1 w127 Mr69 (some ⟨g126, 0, none⟩) 1 ([-1] : List Int) := Bk.ints (xs := [-1]) hb129 (by decide) (MB.fresh hm121 hg128) (Nat.le_of_ble_eq_true rfl)
        have u132 := Ext.up he130 hm121
        have e133 := Stp.ext e120 he130
        have hm134 := Up.mb u132
        have h144 := Own.ext h86 he118 u119 (fun _ h => h)
        have h145 := Own.ext h144 he130 u132 (fun _ h => h)
        refine WL.appendR Try.underlying29 ti3 rfl (by decide) rfl rfl h145 (Sl.atl (SlD.sl hD131)) hm134 (by decide) (by first | omega | (simp only [List.length_append, List.length_cons, List.length_nil, List.length_map]; omega)) (fun A135 c136 w137 M138 hO139 hs140 u141 hsub142 hnew143 => ?_)
        have e146 := Stp.wr e133 hs140 (Wr.ofFr NoM wr98)
        have hm147 := Up.mb u141
        have hs0148 : Ms M M138 := fun k h => hsub142 k (hsb74 k h)
        have hs0149 : Ms M46 M138 := fun k h => hsub142 k (hsp73 k h)
        have dj150 := Dj.grow dj100 hnew143 mem103 hm134
        have dj151 := Dj.grow dj101 hnew143 mem104 hm134
        have dj152 := Dj.grow dj102 hnew143 mem105 hm134
        have dj153 := Dj.grow (Dj.symm dj96) hnew143 mem90 hm134
        have fr155 := Ge.grow wr98 hnew143 (Stp.size e133)
        have ge156 := Ge.grow ge99 hnew143 (Stp.size (Up.stp (Up.trans hU70 (Up.trans u119 u132))))
        have h161 := Bk.ext h125 he130
        have h162 := Bk.stp h161 hs140 ((Dj.symm dj102) _ rfl)
        have mem163 : Ms (vb g41) M138 := (fun k h => hsub142 k (mem105 k h))
        refine WL.store (o := 0) (by rw [ti29]; rfl) rfl rfl rfl h162 (Nat.le_of_ble_eq_true rfl) (fun w157 hb164 hs159 => ?_)
        have hb158 : Bk w157 g41 29 [.slice A135 ((us ++ ([-1] : List Int)).length) c136] := hb164
        have u160 := Stp.upM hs159 hm147 mem163
        have e165 := Stp.wr e146 hs159 (Wr.ofFr NoM fr59)
        have hm166 := Up.mb u160
        refine WL.nil ?_
        refine CW.region ?_
        refine WL.add rfl rfl (by omega) ?_
        refine WL.move rfl ?_
        refine WL.nil ?_
        have hln : lrun (xs.take (k + 1)) 0 ⟨[], 0, [], 0⟩ = lstep ⟨ou, fr, us, sc⟩ k xs[k] := by rw [lrun_take_succ hkl, hrun]
        have h167 := Bk.ext h75 he118
        have h168 := Bk.ext h167 he130
        have h169 := Bk.stp h168 hs140 ((Dj.symm dj100) _ rfl)
        have h170 := Bk.stp h169 hs159 ((Dj.symm dj56) _ rfl)
        have h171 := Bk.ext h79 he118
        have h172 := Bk.ext h171 he130
        have h173 := Bk.stp h172 hs140 ((Dj.symm dj101) _ rfl)
        have h174 := Bk.stp h173 hs159 ((Dj.symm dj58) _ rfl)
        have h175 := Own.ext h82 he118 u119 (fun _ h => h)
        have h176 := Own.ext h175 he130 u132 (fun _ h => h)
        have mem177 : Ms (ob (.slice A83 ou.length c85)) M138 := (fun k h => hsub142 k (mem90 k h))
        have h178 := Own.step h176 hs140 dj96 u141 mem177
        have h179 := Own.step h178 hs159 dj95 u160 mem177
        have mem180 : Ms (ob (.slice A135 (us ++ ([-1] : List Int)).length c136)) M138 := (Own.ms hO139)
        have h181 := Own.step hO139 hs159 dj152 u160 mem180
        refine Loop.again _ _ ?_ ?_ ⟨k + 1, ou, us ++ ([-1] : List Int), fr, sc, M138, A83, ou.length, c85, A135, (us ++ ([-1] : List Int)).length, c136, rfl, rfl, (Up.trans hU70 (Up.trans u119 (Up.trans u132 (Up.trans u141 u160)))), e165, hs0149, hs0148, h170, h174, hb158, h179, h181, mem177, wr91, ge92, dj93, dj94, dj95, (Dj.symm dj153), mem180, fr155, ge156, dj150, dj151, dj152, by omega, by rw [hln]; exact lstep_pl (by rw [his]; rfl) hun, by simp only [List.length_append, List.length_cons, List.length_nil]; omega, by omega, by simp only [List.length_append, List.length_cons, List.length_nil]; omega, by omega, by omega⟩
        · omega
        · exact .cons (t := 4) rfl (.cons (t := 5) rfl (.cons (t := 7) rfl (.cons (t := 8) rfl (.cons (t := 13) rfl (.cons (t := 14) rfl (.cons (t := 15) rfl (.nil _)))))))
      · refine WL.gskip rfl rfl (decide_eq_false hg123) ?_
        refine WL.gskip rfl rfl (decide_eq_false hg123) ?_
        refine WL.pickF (congrArg (fun b => some (Value.bool b)) (decide_eq_false hg123)) rfl ?_
        refine WL.move rfl ?_
        refine WL.gskip rfl rfl rfl ?_
        refine WL.gskip rfl rfl rfl ?_
        refine WL.pickF rfl rfl ?_
        refine WL.nil ?_
        refine CW.condF rfl ?_
        have his : indIs xs[k] = false := by
          unfold indIs
          rw [Bool.not_eq_false', Bool.or_eq_true, Bool.or_eq_true, decide_eq_true_eq, decide_eq_true_eq, decide_eq_true_eq]
          omega
        have hun : unitOf xs[k] = -1 := by unfold unitOf; rw [hsb]; rfl
        refine CW.skip ?_
        refine CW.region ?_
        have h182 := Bk.ext h81 he118
        refine WL.load sc29 rfl ((Bk.at_ (M := fun _ => False) h182 (fun h => h)).cell 0 _ rfl) ?_
        refine WL.move rfl ?_
        refine WL.bslice Try.underlying29 ti3 rfl (by decide) (by decide) (.cons rfl (.nil)) rfl (by simp [Value.cells]) (fun g183 w184 hg185 hb186 he187 => ?_)
        have hD188 : SlD IntR 1 w184 Mr69 (some ⟨g183, 0, none⟩) 1 ([-1] : List Int) := Bk.ints (xs := [-1]) hb186 (by decide) (MB.fresh hm121 hg185) (Nat.le_of_ble_eq_true rfl)
        have u189 := Ext.up he187 hm121
        have e190 := Stp.ext e120 he187
        have hm191 := Up.mb u189
        have h201 := Own.ext h86 he118 u119 (fun _ h => h)
        have h202 := Own.ext h201 he187 u189 (fun _ h => h)
        refine WL.appendR Try.underlying29 ti3 rfl (by decide) rfl rfl h202 (Sl.atl (SlD.sl hD188)) hm191 (by decide) (by first | omega | (simp only [List.length_append, List.length_cons, List.length_nil, List.length_map]; omega)) (fun A192 c193 w194 M195 hO196 hs197 u198 hsub199 hnew200 => ?_)
        have e203 := Stp.wr e190 hs197 (Wr.ofFr NoM wr98)
        have hm204 := Up.mb u198
        have hs0205 : Ms M M195 := fun k h => hsub199 k (hsb74 k h)
        have hs0206 : Ms M46 M195 := fun k h => hsub199 k (hsp73 k h)
        have dj207 := Dj.grow dj100 hnew200 mem103 hm191
        have dj208 := Dj.grow dj101 hnew200 mem104 hm191
        have dj209 := Dj.grow dj102 hnew200 mem105 hm191
        have dj210 := Dj.grow (Dj.symm dj96) hnew200 mem90 hm191
        have fr212 := Ge.grow wr98 hnew200 (Stp.size e190)
        have ge213 := Ge.grow ge99 hnew200 (Stp.size (Up.stp (Up.trans hU70 (Up.trans u119 u189))))
        have h218 := Bk.ext h182 he187
        have h219 := Bk.stp h218 hs197 ((Dj.symm dj102) _ rfl)
        have mem220 : Ms (vb g41) M195 := (fun k h => hsub199 k (mem105 k h))
        refine WL.store (o := 0) (by rw [ti29]; rfl) rfl rfl rfl h219 (Nat.le_of_ble_eq_true rfl) (fun w214 hb221 hs216 => ?_)
        have hb215 : Bk w214 g41 29 [.slice A192 ((us ++ ([-1] : List Int)).length) c193] := hb221
        have u217 := Stp.upM hs216 hm204 mem220
        have e222 := Stp.wr e203 hs216 (Wr.ofFr NoM fr59)
        have hm223 := Up.mb u217
        refine WL.nil ?_
        refine CW.region ?_
        refine WL.add rfl rfl (by omega) ?_
        refine WL.move rfl ?_
        refine WL.nil ?_
        have hln : lrun (xs.take (k + 1)) 0 ⟨[], 0, [], 0⟩ = lstep ⟨ou, fr, us, sc⟩ k xs[k] := by rw [lrun_take_succ hkl, hrun]
        have h224 := Bk.ext h75 he118
        have h225 := Bk.ext h224 he187
        have h226 := Bk.stp h225 hs197 ((Dj.symm dj100) _ rfl)
        have h227 := Bk.stp h226 hs216 ((Dj.symm dj56) _ rfl)
        have h228 := Bk.ext h79 he118
        have h229 := Bk.ext h228 he187
        have h230 := Bk.stp h229 hs197 ((Dj.symm dj101) _ rfl)
        have h231 := Bk.stp h230 hs216 ((Dj.symm dj58) _ rfl)
        have h232 := Own.ext h82 he118 u119 (fun _ h => h)
        have h233 := Own.ext h232 he187 u189 (fun _ h => h)
        have mem234 : Ms (ob (.slice A83 ou.length c85)) M195 := (fun k h => hsub199 k (mem90 k h))
        have h235 := Own.step h233 hs197 dj96 u198 mem234
        have h236 := Own.step h235 hs216 dj95 u217 mem234
        have mem237 : Ms (ob (.slice A192 (us ++ ([-1] : List Int)).length c193)) M195 := (Own.ms hO196)
        have h238 := Own.step hO196 hs216 dj209 u217 mem237
        refine Loop.again _ _ ?_ ?_ ⟨k + 1, ou, us ++ ([-1] : List Int), fr, sc, M195, A83, ou.length, c85, A192, (us ++ ([-1] : List Int)).length, c193, rfl, rfl, (Up.trans hU70 (Up.trans u119 (Up.trans u189 (Up.trans u198 u217)))), e222, hs0206, hs0205, h227, h231, hb215, h236, h238, mem234, wr91, ge92, dj93, dj94, dj95, (Dj.symm dj210), mem237, fr212, ge213, dj207, dj208, dj209, by omega, by rw [hln]; exact lstep_pl (by rw [his]; rfl) hun, by simp only [List.length_append, List.length_cons, List.length_nil]; omega, by omega, by simp only [List.length_append, List.length_cons, List.length_nil]; omega, by omega, by omega⟩
        · omega
        · exact .cons (t := 4) rfl (.cons (t := 5) rfl (.cons (t := 7) rfl (.cons (t := 8) rfl (.cons (t := 13) rfl (.cons (t := 14) rfl (.cons (t := 15) rfl (.nil _)))))))
    · have hsb : scalarB xs[k] = true := by simpa using hc122
      have hsr := scalar_range hsb
      have hwr_ : IntKind.i64.wrap (8192 + xs[k]) = 8192 + xs[k] := wrapI64 (by omega)
      rw [hwr_]
      refine CW.skip ?_
      refine CW.seq ?_
      refine CW.seq ?_
      refine CW.region ?_
      refine WL.move rfl ?_
      refine WL.geq rfl rfl ?_
      refine WL.move rfl ?_
      by_cases hg239 : 2304 ≤ xs[k]
      · refine WL.gtake rfl rfl (decide_eq_true hg239) ?_
        refine WL.move rfl ?_
        refine WL.gtake rfl rfl (decide_eq_true hg239) ?_
        refine WL.lss rfl rfl ?_
        refine WL.pickT (congrArg (fun b => some (Value.bool b)) (decide_eq_true hg239)) rfl ?_
        refine WL.move rfl ?_
        by_cases hg240 : xs[k] < 3456
        · refine WL.gtake rfl rfl (decide_eq_true hg240) ?_
          refine WL.move rfl ?_
          refine WL.gtake rfl rfl (decide_eq_true hg240) ?_
          refine WL.neq rfl rfl ?_
          refine WL.pickT (congrArg (fun b => some (Value.bool b)) (decide_eq_true hg240)) rfl ?_
          refine WL.nil ?_
          refine CW.condP rfl (fun hc241 => ?_) (fun hc241 => ?_)
          · have his : indIs xs[k] = true := by
              unfold indIs
              rw [Bool.not_eq_true', Bool.or_eq_false_iff, Bool.or_eq_false_iff, decide_eq_false_iff_not, decide_eq_false_iff_not, decide_eq_false_iff_not]
              omega
            have hsrr := script_range his
            have hun : unitOf xs[k] = xs[k] % 128 := by unfold unitOf; rw [hsb, his]; simp only [if_true, indPlace]; omega
            have hsc : indScript xs[k] = (xs[k] - 2304) / 128 := rfl
            rw [hsc] at hsrr
            refine CW.seq ?_
            refine CW.region ?_
            refine WL.move rfl ?_
            refine WL.rem rfl rfl (by omega) (by omega) ?_
            refine WL.assign rfl ?_
            refine WL.nil ?_
            refine CW.seq ?_
            refine CW.region ?_
            refine WL.move rfl ?_
            refine WL.sub_ rfl rfl (by omega) ?_
            refine WL.quo rfl rfl (by omega) (by omega) (wrapI64 (by omega)) ?_
            refine WL.move rfl ?_
            refine WL.neq rfl rfl ?_
            refine WL.nil ?_
            refine CW.condP rfl (fun hc242 => ?_) (fun hc242 => ?_)
            · have hne2 : indScript xs[k] ≠ sc := by rw [hsc]; omega
              have hcr := codes_rangeI ((xs[k] - 2304) / 128) (by omega) (by omega)
              have hcl : ((xs[k] - 2304) / 128).toNat < codesL.length := by show _ < 9; omega
              rw [codes_get hcl] at hcr
              refine CW.seq ?_
              refine CW.region ?_
              refine WL.move rfl ?_
              have h243 := Own.ext h86 he118 u119 (fun _ h => h)
              have hD244 := Own.freeze h243 hm121
              have u245 := Up.freeze hm121 (ob (.slice A87 us.length c89))
              have hs0246 : Ms M (less Mr69 (ob (.slice A87 us.length c89))) := Ms.less hsb74 (Dj.symm (Dj.fresh wr98 (fun _ h => h) hm))
              have hs0247 : Ms M46 (less Mr69 (ob (.slice A87 us.length c89))) := Ms.less hsp73 (Dj.symm (Dj.fresh ge99 (fun _ h => h) hm54))
              have hm248 := Up.mb u245
              have mem249 : Ms (vb g1) (less Mr69 (ob (.slice A87 us.length c89))) := (Ms.less mem103 (Dj.symm dj100))
              have mem250 : Ms (vb g17) (less Mr69 (ob (.slice A87 us.length c89))) := (Ms.less mem104 (Dj.symm dj101))
              have mem251 : Ms (vb g41) (less Mr69 (ob (.slice A87 us.length c89))) := (Ms.less mem105 (Dj.symm dj102))
              have mem252 : Ms (ob (.slice A83 ou.length c85)) (less Mr69 (ob (.slice A87 us.length c89))) := (Ms.less mem90 dj96)
              have h253 := Own.ext h82 he118 u119 (fun _ h => h)
              have h254 := Own.to h253 u245 mem252
              have h255 := Bk.ext h81 he118
              have h256 := h255
              have h257 := Bk.ext h79 he118
              have h258 := h257
              have h259 := Bk.ext h75 he118
              have h260 := h259
              have hV261 : LVar w116 (less Mr69 (ob (.slice A87 us.length c89))) (fun k_ => (ob (.slice A83 ou.length c85)) k_ ∨ (vb g41) k_ ∨ (vb g17) k_ ∨ (vb g1) k_) g41 g17 g1 (.slice A87 us.length c89) fr ou := ⟨A83, c85, (Ms.or mem252 (Ms.or mem251 (Ms.or mem250 mem249))), h256, h258, h260, .inr (.inl rfl), .inr (.inr (.inl rfl)), .inr (.inr (.inr rfl)), h254, fun _ h => .inl h, dj95, dj94, dj93, (Dj.symm dj58), (Dj.symm dj56), (Dj.symm dj32)⟩
              refine WL.callv rfl Try.func82 rfl rfl (.nil) (rest_spec _ _ hm248 hD244 hV261 (by omega) (by omega) (by omega) (by omega)) (fun _ w262 hr263 => ?_)
              obtain ⟨M264, S265, hV266, hu267, hms268, hst269, hwr270⟩ := hr263
              obtain ⟨B271, d272, hS273, hbu274, hbf275, hbo276, hSu277, hSf278, hSo279, hO280, hMo281, hda282, hdb283, hdc284, hdd285, hde286, hdf287⟩ := hV266
              have hn288 : Wr w116.heap.size (ob (.slice A83 ou.length c85)) (ob (.slice B271 (ou ++ (encP us).map (shift fr)).length d272)) := fun q_ hq_ => (hwr270 q_ (hMo281 q_ hq_)).elim (fun h_ => h_.elim .inl fun h_ => h_.elim (fun h_ => (hda282 q_ hq_ h_).elim) fun h_ => h_.elim (fun h_ => (hdb283 q_ hq_ h_).elim) fun h_ => (hdc284 q_ hq_ h_).elim) .inr
              have e289 := Stp.wr e120 hst269 (Wr.or (Wr.ofFr NoM wr91) (Wr.or (Wr.ofFr NoM fr59) (Wr.or (Wr.ofFr NoM fr33) (Wr.ofFr NoM fr16))))
              have hm290 := Up.mb hu267
              have hs0291 : Ms M M264 := fun k h => hms268 k (hs0246 k h)
              have hs0292 : Ms M46 M264 := fun k h => hms268 k (hs0247 k h)
              have dj293 := Dj.grow dj93 hn288 mem249 hm248
              have dj294 := Dj.grow dj94 hn288 mem250 hm248
              have dj295 := Dj.grow dj95 hn288 mem251 hm248
              have fr297 := Ge.grow wr91 hn288 (Stp.size e120)
              have ge298 := Ge.grow ge92 hn288 (Stp.size (Up.stp (Up.trans hU70 (Up.trans u119 u245))))
              have hO299 : Own IntR 1 3 w262 M264 0 (.slice none 0 0) [] := Own.nil
              have dj300 : Dj (ob (.slice none 0 0)) (vb g1) := Dj.nil _
              have dj301 : Dj (ob (.slice none 0 0)) (vb g17) := Dj.nil _
              have dj302 : Dj (ob (.slice none 0 0)) (vb g41) := Dj.nil _
              have dj303 : Dj (ob (.slice none 0 0)) (ob (.slice B271 (ou ++ (encP us).map (shift fr)).length d272)) := Dj.nil _
              refine WL.nil ?_
              refine CW.seq ?_
              refine CW.region ?_
              refine WL.move rfl ?_
              refine WL.sub_ rfl rfl (by omega) ?_
              refine WL.quo rfl rfl (by omega) (by omega) (wrapI64 (by omega)) ?_
              refine WL.assign rfl ?_
              refine WL.nil ?_
              refine CW.drawn [9, 10] (fun w1 w' => Ext w1 w') mixed (fun w304 ed305 hh306 => ?_)
              have u308 := Ext.up ed305 hm290
              have e309 := Stp.ext e289 ed305
              have hm310 := Up.mb u308
              have hcl307 := Stp.refl w304 (fun _ => False)
              have h311 := Bk.ext hbo276 ed305
              refine DW.rT 0 rfl (by kernel_rfl) (fun _ _ _ h => h) (fun w' hC => Rn.load sc55 rfl ((Bk.at_ (M := fun _ => False) (Bk.ext h311 hC) (fun h => h)).cell 0 _ rfl)) ?_
              refine DW.rF 1 rfl (by kernel_rfl) (fun _ _ _ h => h) (fun w' => Rn.move rfl) ?_
              refine DW.rF 3 rfl (by kernel_rfl) (fun _ _ _ h => h) (fun w' => Rn.move rfl) ?_
              refine DW.only 2 (by kernel_rfl) rfl (fun _ => hcl307) ?_
              refine WL.call Try.func45 rfl rfl (.nil) (codes_spec _ _ hm310) (fun _ w315 hr316 => ?_)
              obtain ⟨⟨A312, c313, rfl, hD314⟩, he317⟩ := hr316
              have u318 := Ext.up he317 hm310
              have e319 := Stp.ext e309 he317
              have hm320 := Up.mb u318
              have hcl321 := Stp.ext hcl307 he317
              refine WL.nil ?_
              refine DW.only 4 (by kernel_rfl) rfl (fun _ => hcl321) ?_
              have hlt322 : (((xs[k]) - 2304) / 128).toNat < codesL.length := by (first | omega | (show _ < 9; omega))
              obtain ⟨ad323, cs324, hA325, hs326, hat327, hR328⟩ := SlD.get hD314 (List.getElem?_eq_getElem hlt322)
              rw [show _ = _ from hR328.1] at hat327
              have hhR328 := hR328.2; simp only [I64] at hhR328
              refine WL.idx es29 rfl rfl hA325 (by omega) (by omega) ?_
              refine WL.nil ?_
              refine DW.only 5 (by kernel_rfl) rfl (fun _ => hcl321) ?_
              refine WL.load sc3 rfl (hat327.cell 0 _ rfl) ?_
              refine WL.nil ?_
              refine DW.only 6 (by kernel_rfl) rfl (fun _ => hcl321) ?_
              refine WL.bslice Try.underlying29 ti3 rfl (by decide) (by decide) (.cons rfl (.cons rfl (.nil))) rfl (by simp [Value.cells]) (fun g329 w330 hg331 hb332 he333 => ?_)
              have hD334 : SlD IntR 1 w330 M264 (some ⟨g329, 0, none⟩) 2 ([239, codesL[(((xs[k]) - 2304) / 128).toNat]] : List Int) := Bk.ints (xs := [239, codesL[(((xs[k]) - 2304) / 128).toNat]]) hb332 (by intro x_ hx_; simp only [List.mem_cons, List.not_mem_nil, or_false] at hx_; rcases hx_ with rfl | rfl <;> (simp only [I64]; omega)) (MB.fresh hm320 hg331) (Nat.le_of_ble_eq_true rfl)
              have u335 := Ext.up he333 hm320
              have e336 := Stp.ext e319 he333
              have hm337 := Up.mb u335
              have hcl338 := Stp.ext hcl321 he333
              refine WL.nil ?_
              refine DW.only 7 (by kernel_rfl) rfl (fun _ => hcl338) ?_
              refine WL.buildP (cs := #[.int .i64 (k : Int), .int .i64 0, .slice (some ⟨g329, 0, none⟩) 2 2, .int .i64 0]) (.cons rfl (.cons rfl (.nil))) (by kernel_rfl) ?_
              refine WL.nil ?_
              refine DW.only 8 (by kernel_rfl) rfl (fun _ => hcl338) ?_
              refine WL.bslice1 (R := TokR) (y' := (⟨(k : Int), 0, ([239, codesL[(((xs[k]) - 2304) / 128).toNat]] : List Int), 0⟩ : PTok)) Try.underlying55 ti58 rfl (by decide) (by decide) rfl ⟨_, rfl, (SlD.sl hD334), by simp only [I64]; omega, by simp only [I64]; omega, by simp only [I64]; omega⟩ rfl hm337 (fun v339 w340 hS341 he342 => ?_)
              obtain ⟨A343, c344, rfl, hD345⟩ := hS341
              have u346 := Ext.up he342 hm337
              have e347 := Stp.ext e336 he342
              have hm348 := Up.mb u346
              have hcl349 := Stp.ext hcl338 he342
              refine WL.nil ?_
              refine DW.only 9 (by kernel_rfl) rfl (fun _ => hcl349) ?_
              have h359 := Own.ext hO280 ed305 u308 (fun _ h => h)
              have h360 := Own.ext h359 he317 u318 (fun _ h => h)
              have h361 := Own.ext h360 he333 u335 (fun _ h => h)
              have h362 := Own.ext h361 he342 u346 (fun _ h => h)
              have mem363 : Ms (ob (.slice B271 (ou ++ (encP us).map (shift fr)).length d272)) M264 := (Own.ms hO280)
              refine WL.appendR Try.underlying55 ti58 rfl (by decide) rfl rfl h362 (Sl.atl (SlD.sl hD345)) hm348 (by decide) (by first | omega | (simp only [List.length_append, List.length_cons, List.length_nil, List.length_map]; omega)) (fun A350 c351 w352 M353 hO354 hs355 u356 hsub357 hnew358 => ?_)
              have e364 := Stp.wr e347 hs355 (Wr.ofFr NoM fr297)
              have hm365 := Up.mb u356
              have hs0366 : Ms M M353 := fun k h => hsub357 k (hs0291 k h)
              have hs0367 : Ms M46 M353 := fun k h => hsub357 k (hs0292 k h)
              have mem369 : Ms (vb g1) M264 := (fun k h => hms268 k (mem249 k h))
              have dj368 := Dj.grow dj293 hnew358 mem369 hm348
              have mem371 : Ms (vb g17) M264 := (fun k h => hms268 k (mem250 k h))
              have dj370 := Dj.grow dj294 hnew358 mem371 hm348
              have mem373 : Ms (vb g41) M264 := (fun k h => hms268 k (mem251 k h))
              have dj372 := Dj.grow dj295 hnew358 mem373 hm348
              have mem375 : Ms (ob (.slice none 0 0)) M264 := (Ms.nil M264)
              have dj374 := Dj.grow (Dj.symm dj303) hnew358 mem375 hm348
              have fr377 := Ge.grow fr297 hnew358 (Stp.size e347)
              have ge378 := Ge.grow ge298 hnew358 (Stp.size (Up.stp (Up.trans hU70 (Up.trans u119 (Up.trans u245 (Up.trans hu267 (Up.trans u308 (Up.trans u318 (Up.trans u335 u346)))))))))
              refine WL.nil ?_
              refine DW.only 10 (by kernel_rfl) rfl (notFresh (by kernel_rfl)) ?_
              have h383 := Bk.ext h311 he317
              have h384 := Bk.ext h383 he333
              have h385 := Bk.ext h384 he342
              have h386 := Bk.stp h385 hs355 ((Dj.symm dj293) _ rfl)
              have mem387 : Ms (vb g1) M353 := (fun k h => hsub357 k (mem369 k h))
              refine WL.store (o := 0) (by rw [ti55]; rfl) rfl rfl rfl h386 (Nat.le_of_ble_eq_true rfl) (fun w379 hb388 hs381 => ?_)
              have hb380 : Bk w379 g1 55 [.slice A350 (((ou ++ (encP us).map (shift fr)) ++ [(⟨(k : Int), 0, ([239, codesL[(((xs[k]) - 2304) / 128).toNat]] : List Int), 0⟩ : PTok)]).length) c351] := hb388
              have u382 := Stp.upM hs381 hm365 mem387
              have e389 := Stp.wr e364 hs381 (Wr.ofFr NoM fr16)
              have hm390 := Up.mb u382
              refine WL.nil ?_
              refine DW.done (by kernel_rfl) (notFresh (by kernel_rfl)) ?_
              refine CW.region ?_
              have h391 := Bk.ext hbu274 ed305
              have h392 := Bk.ext h391 he317
              have h393 := Bk.ext h392 he333
              have h394 := Bk.ext h393 he342
              have h395 := Bk.stp h394 hs355 ((Dj.symm dj295) _ rfl)
              have h396 := Bk.stp h395 hs381 (dj56 _ rfl)
              refine WL.load sc29 rfl ((Bk.at_ (M := fun _ => False) h396 (fun h => h)).cell 0 _ rfl) ?_
              refine WL.move rfl ?_
              refine WL.bslice1 (R := IntR) (y' := (xs[k]) % 128) Try.underlying29 ti3 rfl (by decide) (by decide) rfl ⟨rfl, by omega⟩ rfl hm390 (fun v397 w398 hS399 he400 => ?_)
              obtain ⟨A401, c402, rfl, hD403⟩ := hS399
              have u404 := Ext.up he400 hm390
              have e405 := Stp.ext e389 he400
              have hm406 := Up.mb u404
              have h416 := Own.ext hO299 ed305 u308 (fun _ h => h)
              have h417 := Own.ext h416 he317 u318 (fun _ h => h)
              have h418 := Own.ext h417 he333 u335 (fun _ h => h)
              have h419 := Own.ext h418 he342 u346 (fun _ h => h)
              have mem420 : Ms (ob (.slice none 0 0)) M353 := (fun k h => hsub357 k (mem375 k h))
              have h421 := Own.step h419 hs355 dj303 u356 mem420
              have h422 := Own.step h421 hs381 dj300 u382 mem420
              have h423 := Own.ext h422 he400 u404 (fun _ h => h)
              refine WL.appendR Try.underlying29 ti3 rfl (by decide) rfl rfl h423 (Sl.atl (SlD.sl hD403)) hm406 (by decide) (by first | omega | (simp only [List.length_append, List.length_cons, List.length_nil, List.length_map]; omega)) (fun A407 c408 w409 M410 hO411 hs412 u413 hsub414 hnew415 => ?_)
              have e424 := Stp.wr e405 hs412 (Wr.nil w.heap.size NoM)
              have hm425 := Up.mb u413
              have hs0426 : Ms M M410 := fun k h => hsub414 k (hs0366 k h)
              have hs0427 : Ms M46 M410 := fun k h => hsub414 k (hs0367 k h)
              have dj428 := Dj.grow dj300 hnew415 mem387 hm406
              have mem430 : Ms (vb g17) M353 := (fun k h => hsub357 k (mem371 k h))
              have dj429 := Dj.grow dj301 hnew415 mem430 hm406
              have mem432 : Ms (vb g41) M353 := (fun k h => hsub357 k (mem373 k h))
              have dj431 := Dj.grow dj302 hnew415 mem432 hm406
              have mem434 : Ms (ob (.slice A350 ((ou ++ (encP us).map (shift fr)) ++ [(⟨(k : Int), 0, ([239, codesL[(((xs[k]) - 2304) / 128).toNat]] : List Int), 0⟩ : PTok)]).length c351)) M353 := (Own.ms hO354)
              have dj433 := Dj.grow (Dj.symm dj374) hnew415 mem434 hm406
              have fr436 := Ge.grow (Fr.nil w.heap.size) hnew415 (Stp.size e405)
              have ge437 := Ge.grow (Fr.nil w42.heap.size) hnew415 (Stp.size (Up.stp (Up.trans hU70 (Up.trans u119 (Up.trans u245 (Up.trans hu267 (Up.trans u308 (Up.trans u318 (Up.trans u335 (Up.trans u346 (Up.trans u356 (Up.trans u382 u404))))))))))))
              have h442 := Bk.ext h396 he400
              have h443 := Bk.stp h442 hs412 ((Dj.symm dj302) _ rfl)
              have mem444 : Ms (vb g41) M410 := (fun k h => hsub414 k (mem432 k h))
              refine WL.store (o := 0) (by rw [ti29]; rfl) rfl rfl rfl h443 (Nat.le_of_ble_eq_true rfl) (fun w438 hb445 hs440 => ?_)
              have hb439 : Bk w438 g41 29 [.slice A407 (([] ++ [(xs[k]) % 128]).length) c408] := hb445
              have u441 := Stp.upM hs440 hm425 mem444
              have e446 := Stp.wr e424 hs440 (Wr.ofFr NoM fr59)
              have hm447 := Up.mb u441
              refine WL.nil ?_
              refine CW.region ?_
              refine WL.add rfl rfl (by omega) ?_
              refine WL.move rfl ?_
              refine WL.nil ?_
              have hln : lrun (xs.take (k + 1)) 0 ⟨[], 0, [], 0⟩ = lstep ⟨ou, fr, us, sc⟩ k xs[k] := by rw [lrun_take_succ hkl, hrun]
              have h448 := Bk.ext hb380 he400
              have h449 := Bk.stp h448 hs412 ((Dj.symm dj300) _ rfl)
              have h450 := Bk.stp h449 hs440 ((Dj.symm dj56) _ rfl)
              have h451 := Bk.ext hbf275 ed305
              have h452 := Bk.ext h451 he317
              have h453 := Bk.ext h452 he333
              have h454 := Bk.ext h453 he342
              have h455 := Bk.stp h454 hs355 ((Dj.symm dj294) _ rfl)
              have h456 := Bk.stp h455 hs381 (dj32 _ rfl)
              have h457 := Bk.ext h456 he400
              have h458 := Bk.stp h457 hs412 ((Dj.symm dj301) _ rfl)
              have h459 := Bk.stp h458 hs440 ((Dj.symm dj58) _ rfl)
              have mem460 : Ms (ob (.slice A350 ((ou ++ (encP us).map (shift fr)) ++ [(⟨(k : Int), 0, ([239, codesL[(((xs[k]) - 2304) / 128).toNat]] : List Int), 0⟩ : PTok)]).length c351)) M353 := (Own.ms hO354)
              have h461 := Own.step hO354 hs381 dj368 u382 mem460
              have h462 := Own.ext h461 he400 u404 (fun _ h => h)
              have mem463 : Ms (ob (.slice A350 ((ou ++ (encP us).map (shift fr)) ++ [(⟨(k : Int), 0, ([239, codesL[(((xs[k]) - 2304) / 128).toNat]] : List Int), 0⟩ : PTok)]).length c351)) M410 := (fun k h => hsub414 k (mem434 k h))
              have h464 := Own.step h462 hs412 dj374 u413 mem463
              have h465 := Own.step h464 hs440 dj372 u441 mem463
              have mem466 : Ms (ob (.slice A407 ([] ++ [(xs[k]) % 128]).length c408)) M410 := (Own.ms hO411)
              have h467 := Own.step hO411 hs440 dj431 u441 mem466
              refine Loop.again _ _ ?_ ?_ ⟨k + 1, (ou ++ (encP us).map (shift fr)) ++ [(⟨(k : Int), 0, ([239, codesL[(((xs[k]) - 2304) / 128).toNat]] : List Int), 0⟩ : PTok)], [] ++ [(xs[k]) % 128], (fr + (us.length : Int)), (((xs[k]) - 2304) / 128), M410, A350, ((ou ++ (encP us).map (shift fr)) ++ [(⟨(k : Int), 0, ([239, codesL[(((xs[k]) - 2304) / 128).toNat]] : List Int), 0⟩ : PTok)]).length, c351, A407, ([] ++ [(xs[k]) % 128]).length, c408, rfl, rfl, (Up.trans hU70 (Up.trans u119 (Up.trans u245 (Up.trans hu267 (Up.trans u308 (Up.trans u318 (Up.trans u335 (Up.trans u346 (Up.trans u356 (Up.trans u382 (Up.trans u404 (Up.trans u413 u441)))))))))))), e446, hs0427, hs0426, h450, h459, hb439, h465, h467, mem463, fr377, ge378, dj368, dj370, dj372, (Dj.symm dj433), mem466, fr436, ge437, dj428, dj429, dj431, by omega, by rw [hln]; exact lstep_sw his hne2 hun hsc (codes_get hcl), by simp only [List.length_append, List.length_cons, List.length_nil]; omega, by omega, by simp only [List.length_append, List.length_cons, List.length_nil, List.length_map]; omega, by omega, by omega⟩
              · omega
              · exact .cons (t := 4) rfl (.cons (t := 5) rfl (.cons (t := 7) rfl (.cons (t := 8) rfl (.cons (t := 13) rfl (.cons (t := 14) rfl (.cons (t := 15) rfl (.nil _)))))))
            · refine CW.skip ?_
              refine CW.region ?_
              have h468 := Bk.ext h81 he118
              refine WL.load sc29 rfl ((Bk.at_ (M := fun _ => False) h468 (fun h => h)).cell 0 _ rfl) ?_
              refine WL.move rfl ?_
              refine WL.bslice1 (R := IntR) (y' := (xs[k]) % 128) Try.underlying29 ti3 rfl (by decide) (by decide) rfl ⟨rfl, by omega⟩ rfl hm121 (fun v469 w470 hS471 he472 => ?_)
              obtain ⟨A473, c474, rfl, hD475⟩ := hS471
              have u476 := Ext.up he472 hm121
              have e477 := Stp.ext e120 he472
              have hm478 := Up.mb u476
              have h488 := Own.ext h86 he118 u119 (fun _ h => h)
              have h489 := Own.ext h488 he472 u476 (fun _ h => h)
              refine WL.appendR Try.underlying29 ti3 rfl (by decide) rfl rfl h489 (Sl.atl (SlD.sl hD475)) hm478 (by decide) (by first | omega | (simp only [List.length_append, List.length_cons, List.length_nil, List.length_map]; omega)) (fun A479 c480 w481 M482 hO483 hs484 u485 hsub486 hnew487 => ?_)
              have e490 := Stp.wr e477 hs484 (Wr.ofFr NoM wr98)
              have hm491 := Up.mb u485
              have hs0492 : Ms M M482 := fun k h => hsub486 k (hsb74 k h)
              have hs0493 : Ms M46 M482 := fun k h => hsub486 k (hsp73 k h)
              have dj494 := Dj.grow dj100 hnew487 mem103 hm478
              have dj495 := Dj.grow dj101 hnew487 mem104 hm478
              have dj496 := Dj.grow dj102 hnew487 mem105 hm478
              have dj497 := Dj.grow (Dj.symm dj96) hnew487 mem90 hm478
              have fr499 := Ge.grow wr98 hnew487 (Stp.size e477)
              have ge500 := Ge.grow ge99 hnew487 (Stp.size (Up.stp (Up.trans hU70 (Up.trans u119 u476))))
              have h505 := Bk.ext h468 he472
              have h506 := Bk.stp h505 hs484 ((Dj.symm dj102) _ rfl)
              have mem507 : Ms (vb g41) M482 := (fun k h => hsub486 k (mem105 k h))
              refine WL.store (o := 0) (by rw [ti29]; rfl) rfl rfl rfl h506 (Nat.le_of_ble_eq_true rfl) (fun w501 hb508 hs503 => ?_)
              have hb502 : Bk w501 g41 29 [.slice A479 ((us ++ [(xs[k]) % 128]).length) c480] := hb508
              have u504 := Stp.upM hs503 hm491 mem507
              have e509 := Stp.wr e490 hs503 (Wr.ofFr NoM fr59)
              have hm510 := Up.mb u504
              refine WL.nil ?_
              refine CW.region ?_
              refine WL.add rfl rfl (by omega) ?_
              refine WL.move rfl ?_
              refine WL.nil ?_
              have hln : lrun (xs.take (k + 1)) 0 ⟨[], 0, [], 0⟩ = lstep ⟨ou, fr, us, sc⟩ k xs[k] := by rw [lrun_take_succ hkl, hrun]
              have h511 := Bk.ext h75 he118
              have h512 := Bk.ext h511 he472
              have h513 := Bk.stp h512 hs484 ((Dj.symm dj100) _ rfl)
              have h514 := Bk.stp h513 hs503 ((Dj.symm dj56) _ rfl)
              have h515 := Bk.ext h79 he118
              have h516 := Bk.ext h515 he472
              have h517 := Bk.stp h516 hs484 ((Dj.symm dj101) _ rfl)
              have h518 := Bk.stp h517 hs503 ((Dj.symm dj58) _ rfl)
              have h519 := Own.ext h82 he118 u119 (fun _ h => h)
              have h520 := Own.ext h519 he472 u476 (fun _ h => h)
              have mem521 : Ms (ob (.slice A83 ou.length c85)) M482 := (fun k h => hsub486 k (mem90 k h))
              have h522 := Own.step h520 hs484 dj96 u485 mem521
              have h523 := Own.step h522 hs503 dj95 u504 mem521
              have mem524 : Ms (ob (.slice A479 (us ++ [(xs[k]) % 128]).length c480)) M482 := (Own.ms hO483)
              have h525 := Own.step hO483 hs503 dj496 u504 mem524
              refine Loop.again _ _ ?_ ?_ ⟨k + 1, ou, us ++ [(xs[k]) % 128], fr, sc, M482, A83, ou.length, c85, A479, (us ++ [(xs[k]) % 128]).length, c480, rfl, rfl, (Up.trans hU70 (Up.trans u119 (Up.trans u476 (Up.trans u485 u504)))), e509, hs0493, hs0492, h514, h518, hb502, h523, h525, mem521, wr91, ge92, dj93, dj94, dj95, (Dj.symm dj497), mem524, fr499, ge500, dj494, dj495, dj496, by omega, by rw [hln]; exact lstep_pl (by rw [his]; simp; omega) hun, by simp only [List.length_append, List.length_cons, List.length_nil]; omega, by omega, by simp only [List.length_append, List.length_cons, List.length_nil]; omega, by omega, by omega⟩
              · omega
              · exact .cons (t := 4) rfl (.cons (t := 5) rfl (.cons (t := 7) rfl (.cons (t := 8) rfl (.cons (t := 13) rfl (.cons (t := 14) rfl (.cons (t := 15) rfl (.nil _)))))))
          · have his : indIs xs[k] = false := by
              unfold indIs
              rw [Bool.not_eq_false', Bool.or_eq_true, Bool.or_eq_true, decide_eq_true_eq, decide_eq_true_eq, decide_eq_true_eq]
              omega
            have hun : unitOf xs[k] = 8192 + xs[k] := by unfold unitOf; rw [hsb, his]; rfl
            refine CW.skip ?_
            refine CW.region ?_
            have h526 := Bk.ext h81 he118
            refine WL.load sc29 rfl ((Bk.at_ (M := fun _ => False) h526 (fun h => h)).cell 0 _ rfl) ?_
            refine WL.move rfl ?_
            refine WL.bslice1 (R := IntR) (y' := 8192 + xs[k]) Try.underlying29 ti3 rfl (by decide) (by decide) rfl ⟨rfl, by omega⟩ rfl hm121 (fun v527 w528 hS529 he530 => ?_)
            obtain ⟨A531, c532, rfl, hD533⟩ := hS529
            have u534 := Ext.up he530 hm121
            have e535 := Stp.ext e120 he530
            have hm536 := Up.mb u534
            have h546 := Own.ext h86 he118 u119 (fun _ h => h)
            have h547 := Own.ext h546 he530 u534 (fun _ h => h)
            refine WL.appendR Try.underlying29 ti3 rfl (by decide) rfl rfl h547 (Sl.atl (SlD.sl hD533)) hm536 (by decide) (by first | omega | (simp only [List.length_append, List.length_cons, List.length_nil, List.length_map]; omega)) (fun A537 c538 w539 M540 hO541 hs542 u543 hsub544 hnew545 => ?_)
            have e548 := Stp.wr e535 hs542 (Wr.ofFr NoM wr98)
            have hm549 := Up.mb u543
            have hs0550 : Ms M M540 := fun k h => hsub544 k (hsb74 k h)
            have hs0551 : Ms M46 M540 := fun k h => hsub544 k (hsp73 k h)
            have dj552 := Dj.grow dj100 hnew545 mem103 hm536
            have dj553 := Dj.grow dj101 hnew545 mem104 hm536
            have dj554 := Dj.grow dj102 hnew545 mem105 hm536
            have dj555 := Dj.grow (Dj.symm dj96) hnew545 mem90 hm536
            have fr557 := Ge.grow wr98 hnew545 (Stp.size e535)
            have ge558 := Ge.grow ge99 hnew545 (Stp.size (Up.stp (Up.trans hU70 (Up.trans u119 u534))))
            have h563 := Bk.ext h526 he530
            have h564 := Bk.stp h563 hs542 ((Dj.symm dj102) _ rfl)
            have mem565 : Ms (vb g41) M540 := (fun k h => hsub544 k (mem105 k h))
            refine WL.store (o := 0) (by rw [ti29]; rfl) rfl rfl rfl h564 (Nat.le_of_ble_eq_true rfl) (fun w559 hb566 hs561 => ?_)
            have hb560 : Bk w559 g41 29 [.slice A537 ((us ++ [8192 + xs[k]]).length) c538] := hb566
            have u562 := Stp.upM hs561 hm549 mem565
            have e567 := Stp.wr e548 hs561 (Wr.ofFr NoM fr59)
            have hm568 := Up.mb u562
            refine WL.nil ?_
            refine CW.region ?_
            refine WL.add rfl rfl (by omega) ?_
            refine WL.move rfl ?_
            refine WL.nil ?_
            have hln : lrun (xs.take (k + 1)) 0 ⟨[], 0, [], 0⟩ = lstep ⟨ou, fr, us, sc⟩ k xs[k] := by rw [lrun_take_succ hkl, hrun]
            have h569 := Bk.ext h75 he118
            have h570 := Bk.ext h569 he530
            have h571 := Bk.stp h570 hs542 ((Dj.symm dj100) _ rfl)
            have h572 := Bk.stp h571 hs561 ((Dj.symm dj56) _ rfl)
            have h573 := Bk.ext h79 he118
            have h574 := Bk.ext h573 he530
            have h575 := Bk.stp h574 hs542 ((Dj.symm dj101) _ rfl)
            have h576 := Bk.stp h575 hs561 ((Dj.symm dj58) _ rfl)
            have h577 := Own.ext h82 he118 u119 (fun _ h => h)
            have h578 := Own.ext h577 he530 u534 (fun _ h => h)
            have mem579 : Ms (ob (.slice A83 ou.length c85)) M540 := (fun k h => hsub544 k (mem90 k h))
            have h580 := Own.step h578 hs542 dj96 u543 mem579
            have h581 := Own.step h580 hs561 dj95 u562 mem579
            have mem582 : Ms (ob (.slice A537 (us ++ [8192 + xs[k]]).length c538)) M540 := (Own.ms hO541)
            have h583 := Own.step hO541 hs561 dj554 u562 mem582
            refine Loop.again _ _ ?_ ?_ ⟨k + 1, ou, us ++ [8192 + xs[k]], fr, sc, M540, A83, ou.length, c85, A537, (us ++ [8192 + xs[k]]).length, c538, rfl, rfl, (Up.trans hU70 (Up.trans u119 (Up.trans u534 (Up.trans u543 u562)))), e567, hs0551, hs0550, h572, h576, hb560, h581, h583, mem579, wr91, ge92, dj93, dj94, dj95, (Dj.symm dj555), mem582, fr557, ge558, dj552, dj553, dj554, by omega, by rw [hln]; exact lstep_pl (by rw [his]; rfl) hun, by simp only [List.length_append, List.length_cons, List.length_nil]; omega, by omega, by simp only [List.length_append, List.length_cons, List.length_nil]; omega, by omega, by omega⟩
            · omega
            · exact .cons (t := 4) rfl (.cons (t := 5) rfl (.cons (t := 7) rfl (.cons (t := 8) rfl (.cons (t := 13) rfl (.cons (t := 14) rfl (.cons (t := 15) rfl (.nil _)))))))
        · refine WL.gskip rfl rfl (decide_eq_false hg240) ?_
          refine WL.gskip rfl rfl (decide_eq_false hg240) ?_
          refine WL.pickF (congrArg (fun b => some (Value.bool b)) (decide_eq_false hg240)) rfl ?_
          refine WL.nil ?_
          refine CW.condF rfl ?_
          have his : indIs xs[k] = false := by
            unfold indIs
            rw [Bool.not_eq_false', Bool.or_eq_true, Bool.or_eq_true, decide_eq_true_eq, decide_eq_true_eq, decide_eq_true_eq]
            omega
          have hun : unitOf xs[k] = 8192 + xs[k] := by unfold unitOf; rw [hsb, his]; rfl
          refine CW.skip ?_
          refine CW.region ?_
          have h584 := Bk.ext h81 he118
          refine WL.load sc29 rfl ((Bk.at_ (M := fun _ => False) h584 (fun h => h)).cell 0 _ rfl) ?_
          refine WL.move rfl ?_
          refine WL.bslice1 (R := IntR) (y' := 8192 + xs[k]) Try.underlying29 ti3 rfl (by decide) (by decide) rfl ⟨rfl, by omega⟩ rfl hm121 (fun v585 w586 hS587 he588 => ?_)
          obtain ⟨A589, c590, rfl, hD591⟩ := hS587
          have u592 := Ext.up he588 hm121
          have e593 := Stp.ext e120 he588
          have hm594 := Up.mb u592
          have h604 := Own.ext h86 he118 u119 (fun _ h => h)
          have h605 := Own.ext h604 he588 u592 (fun _ h => h)
          refine WL.appendR Try.underlying29 ti3 rfl (by decide) rfl rfl h605 (Sl.atl (SlD.sl hD591)) hm594 (by decide) (by first | omega | (simp only [List.length_append, List.length_cons, List.length_nil, List.length_map]; omega)) (fun A595 c596 w597 M598 hO599 hs600 u601 hsub602 hnew603 => ?_)
          have e606 := Stp.wr e593 hs600 (Wr.ofFr NoM wr98)
          have hm607 := Up.mb u601
          have hs0608 : Ms M M598 := fun k h => hsub602 k (hsb74 k h)
          have hs0609 : Ms M46 M598 := fun k h => hsub602 k (hsp73 k h)
          have dj610 := Dj.grow dj100 hnew603 mem103 hm594
          have dj611 := Dj.grow dj101 hnew603 mem104 hm594
          have dj612 := Dj.grow dj102 hnew603 mem105 hm594
          have dj613 := Dj.grow (Dj.symm dj96) hnew603 mem90 hm594
          have fr615 := Ge.grow wr98 hnew603 (Stp.size e593)
          have ge616 := Ge.grow ge99 hnew603 (Stp.size (Up.stp (Up.trans hU70 (Up.trans u119 u592))))
          have h621 := Bk.ext h584 he588
          have h622 := Bk.stp h621 hs600 ((Dj.symm dj102) _ rfl)
          have mem623 : Ms (vb g41) M598 := (fun k h => hsub602 k (mem105 k h))
          refine WL.store (o := 0) (by rw [ti29]; rfl) rfl rfl rfl h622 (Nat.le_of_ble_eq_true rfl) (fun w617 hb624 hs619 => ?_)
          have hb618 : Bk w617 g41 29 [.slice A595 ((us ++ [8192 + xs[k]]).length) c596] := hb624
          have u620 := Stp.upM hs619 hm607 mem623
          have e625 := Stp.wr e606 hs619 (Wr.ofFr NoM fr59)
          have hm626 := Up.mb u620
          refine WL.nil ?_
          refine CW.region ?_
          refine WL.add rfl rfl (by omega) ?_
          refine WL.move rfl ?_
          refine WL.nil ?_
          have hln : lrun (xs.take (k + 1)) 0 ⟨[], 0, [], 0⟩ = lstep ⟨ou, fr, us, sc⟩ k xs[k] := by rw [lrun_take_succ hkl, hrun]
          have h627 := Bk.ext h75 he118
          have h628 := Bk.ext h627 he588
          have h629 := Bk.stp h628 hs600 ((Dj.symm dj100) _ rfl)
          have h630 := Bk.stp h629 hs619 ((Dj.symm dj56) _ rfl)
          have h631 := Bk.ext h79 he118
          have h632 := Bk.ext h631 he588
          have h633 := Bk.stp h632 hs600 ((Dj.symm dj101) _ rfl)
          have h634 := Bk.stp h633 hs619 ((Dj.symm dj58) _ rfl)
          have h635 := Own.ext h82 he118 u119 (fun _ h => h)
          have h636 := Own.ext h635 he588 u592 (fun _ h => h)
          have mem637 : Ms (ob (.slice A83 ou.length c85)) M598 := (fun k h => hsub602 k (mem90 k h))
          have h638 := Own.step h636 hs600 dj96 u601 mem637
          have h639 := Own.step h638 hs619 dj95 u620 mem637
          have mem640 : Ms (ob (.slice A595 (us ++ [8192 + xs[k]]).length c596)) M598 := (Own.ms hO599)
          have h641 := Own.step hO599 hs619 dj612 u620 mem640
          refine Loop.again _ _ ?_ ?_ ⟨k + 1, ou, us ++ [8192 + xs[k]], fr, sc, M598, A83, ou.length, c85, A595, (us ++ [8192 + xs[k]]).length, c596, rfl, rfl, (Up.trans hU70 (Up.trans u119 (Up.trans u592 (Up.trans u601 u620)))), e625, hs0609, hs0608, h630, h634, hb618, h639, h641, mem637, wr91, ge92, dj93, dj94, dj95, (Dj.symm dj613), mem640, fr615, ge616, dj610, dj611, dj612, by omega, by rw [hln]; exact lstep_pl (by rw [his]; rfl) hun, by simp only [List.length_append, List.length_cons, List.length_nil]; omega, by omega, by simp only [List.length_append, List.length_cons, List.length_nil]; omega, by omega, by omega⟩
          · omega
          · exact .cons (t := 4) rfl (.cons (t := 5) rfl (.cons (t := 7) rfl (.cons (t := 8) rfl (.cons (t := 13) rfl (.cons (t := 14) rfl (.cons (t := 15) rfl (.nil _)))))))
      · refine WL.gskip rfl rfl (decide_eq_false hg239) ?_
        refine WL.gskip rfl rfl (decide_eq_false hg239) ?_
        refine WL.pickF (congrArg (fun b => some (Value.bool b)) (decide_eq_false hg239)) rfl ?_
        refine WL.move rfl ?_
        refine WL.gskip rfl rfl rfl ?_
        refine WL.gskip rfl rfl rfl ?_
        refine WL.pickF rfl rfl ?_
        refine WL.nil ?_
        refine CW.condF rfl ?_
        have his : indIs xs[k] = false := by
          unfold indIs
          rw [Bool.not_eq_false', Bool.or_eq_true, Bool.or_eq_true, decide_eq_true_eq, decide_eq_true_eq, decide_eq_true_eq]
          omega
        have hun : unitOf xs[k] = 8192 + xs[k] := by unfold unitOf; rw [hsb, his]; rfl
        refine CW.skip ?_
        refine CW.region ?_
        have h642 := Bk.ext h81 he118
        refine WL.load sc29 rfl ((Bk.at_ (M := fun _ => False) h642 (fun h => h)).cell 0 _ rfl) ?_
        refine WL.move rfl ?_
        refine WL.bslice1 (R := IntR) (y' := 8192 + xs[k]) Try.underlying29 ti3 rfl (by decide) (by decide) rfl ⟨rfl, by omega⟩ rfl hm121 (fun v643 w644 hS645 he646 => ?_)
        obtain ⟨A647, c648, rfl, hD649⟩ := hS645
        have u650 := Ext.up he646 hm121
        have e651 := Stp.ext e120 he646
        have hm652 := Up.mb u650
        have h662 := Own.ext h86 he118 u119 (fun _ h => h)
        have h663 := Own.ext h662 he646 u650 (fun _ h => h)
        refine WL.appendR Try.underlying29 ti3 rfl (by decide) rfl rfl h663 (Sl.atl (SlD.sl hD649)) hm652 (by decide) (by first | omega | (simp only [List.length_append, List.length_cons, List.length_nil, List.length_map]; omega)) (fun A653 c654 w655 M656 hO657 hs658 u659 hsub660 hnew661 => ?_)
        have e664 := Stp.wr e651 hs658 (Wr.ofFr NoM wr98)
        have hm665 := Up.mb u659
        have hs0666 : Ms M M656 := fun k h => hsub660 k (hsb74 k h)
        have hs0667 : Ms M46 M656 := fun k h => hsub660 k (hsp73 k h)
        have dj668 := Dj.grow dj100 hnew661 mem103 hm652
        have dj669 := Dj.grow dj101 hnew661 mem104 hm652
        have dj670 := Dj.grow dj102 hnew661 mem105 hm652
        have dj671 := Dj.grow (Dj.symm dj96) hnew661 mem90 hm652
        have fr673 := Ge.grow wr98 hnew661 (Stp.size e651)
        have ge674 := Ge.grow ge99 hnew661 (Stp.size (Up.stp (Up.trans hU70 (Up.trans u119 u650))))
        have h679 := Bk.ext h642 he646
        have h680 := Bk.stp h679 hs658 ((Dj.symm dj102) _ rfl)
        have mem681 : Ms (vb g41) M656 := (fun k h => hsub660 k (mem105 k h))
        refine WL.store (o := 0) (by rw [ti29]; rfl) rfl rfl rfl h680 (Nat.le_of_ble_eq_true rfl) (fun w675 hb682 hs677 => ?_)
        have hb676 : Bk w675 g41 29 [.slice A653 ((us ++ [8192 + xs[k]]).length) c654] := hb682
        have u678 := Stp.upM hs677 hm665 mem681
        have e683 := Stp.wr e664 hs677 (Wr.ofFr NoM fr59)
        have hm684 := Up.mb u678
        refine WL.nil ?_
        refine CW.region ?_
        refine WL.add rfl rfl (by omega) ?_
        refine WL.move rfl ?_
        refine WL.nil ?_
        have hln : lrun (xs.take (k + 1)) 0 ⟨[], 0, [], 0⟩ = lstep ⟨ou, fr, us, sc⟩ k xs[k] := by rw [lrun_take_succ hkl, hrun]
        have h685 := Bk.ext h75 he118
        have h686 := Bk.ext h685 he646
        have h687 := Bk.stp h686 hs658 ((Dj.symm dj100) _ rfl)
        have h688 := Bk.stp h687 hs677 ((Dj.symm dj56) _ rfl)
        have h689 := Bk.ext h79 he118
        have h690 := Bk.ext h689 he646
        have h691 := Bk.stp h690 hs658 ((Dj.symm dj101) _ rfl)
        have h692 := Bk.stp h691 hs677 ((Dj.symm dj58) _ rfl)
        have h693 := Own.ext h82 he118 u119 (fun _ h => h)
        have h694 := Own.ext h693 he646 u650 (fun _ h => h)
        have mem695 : Ms (ob (.slice A83 ou.length c85)) M656 := (fun k h => hsub660 k (mem90 k h))
        have h696 := Own.step h694 hs658 dj96 u659 mem695
        have h697 := Own.step h696 hs677 dj95 u678 mem695
        have mem698 : Ms (ob (.slice A653 (us ++ [8192 + xs[k]]).length c654)) M656 := (Own.ms hO657)
        have h699 := Own.step hO657 hs677 dj670 u678 mem698
        refine Loop.again _ _ ?_ ?_ ⟨k + 1, ou, us ++ [8192 + xs[k]], fr, sc, M656, A83, ou.length, c85, A653, (us ++ [8192 + xs[k]]).length, c654, rfl, rfl, (Up.trans hU70 (Up.trans u119 (Up.trans u650 (Up.trans u659 u678)))), e683, hs0667, hs0666, h688, h692, hb676, h697, h699, mem695, wr91, ge92, dj93, dj94, dj95, (Dj.symm dj671), mem698, fr673, ge674, dj668, dj669, dj670, by omega, by rw [hln]; exact lstep_pl (by rw [his]; rfl) hun, by simp only [List.length_append, List.length_cons, List.length_nil]; omega, by omega, by simp only [List.length_append, List.length_cons, List.length_nil]; omega, by omega, by omega⟩
        · omega
        · exact .cons (t := 4) rfl (.cons (t := 5) rfl (.cons (t := 7) rfl (.cons (t := 8) rfl (.cons (t := 13) rfl (.cons (t := 14) rfl (.cons (t := 15) rfl (.nil _)))))))
  · have hke : k = xs.length := by omega
    refine CW.exit ?_
    refine CW.seq ?_
    refine CW.region ?_
    refine WL.move rfl ?_
    have hD700 := Own.freeze h86 hm72
    have u701 := Up.freeze hm72 (ob (.slice A87 us.length c89))
    have hs0702 : Ms M (less Mr69 (ob (.slice A87 us.length c89))) := Ms.less hsb74 (Dj.symm (Dj.fresh wr98 (fun _ h => h) hm))
    have hm703 := Up.mb u701
    have mem704 : Ms (vb g1) (less Mr69 (ob (.slice A87 us.length c89))) := (Ms.less mem103 (Dj.symm dj100))
    have mem705 : Ms (vb g17) (less Mr69 (ob (.slice A87 us.length c89))) := (Ms.less mem104 (Dj.symm dj101))
    have mem706 : Ms (vb g41) (less Mr69 (ob (.slice A87 us.length c89))) := (Ms.less mem105 (Dj.symm dj102))
    have mem707 : Ms (ob (.slice A83 ou.length c85)) (less Mr69 (ob (.slice A87 us.length c89))) := (Ms.less mem90 dj96)
    have h708 := Own.to h82 u701 mem707
    have h709 := h81
    have h710 := h79
    have h711 := h75
    have hV712 : LVar wr0 (less Mr69 (ob (.slice A87 us.length c89))) (fun k_ => (ob (.slice A83 ou.length c85)) k_ ∨ (vb g41) k_ ∨ (vb g17) k_ ∨ (vb g1) k_) g41 g17 g1 (.slice A87 us.length c89) fr ou := ⟨A83, c85, (Ms.or mem707 (Ms.or mem706 (Ms.or mem705 mem704))), h709, h710, h711, .inr (.inl rfl), .inr (.inr (.inl rfl)), .inr (.inr (.inr rfl)), h708, fun _ h => .inl h, dj95, dj94, dj93, (Dj.symm dj58), (Dj.symm dj56), (Dj.symm dj32)⟩
    refine WL.callv rfl Try.func82 rfl rfl (.nil) (rest_spec _ _ hm703 hD700 hV712 (by omega) (by omega) (by omega) (by omega)) (fun _ w713 hr714 => ?_)
    obtain ⟨M715, S716, hV717, hu718, hms719, hst720, hwr721⟩ := hr714
    obtain ⟨B722, d723, hS724, hbu725, hbf726, hbo727, hSu728, hSf729, hSo730, hO731, hMo732, hda733, hdb734, hdc735, hdd736, hde737, hdf738⟩ := hV717
    have hn739 : Wr wr0.heap.size (ob (.slice A83 ou.length c85)) (ob (.slice B722 (ou ++ (encP us).map (shift fr)).length d723)) := fun q_ hq_ => (hwr721 q_ (hMo732 q_ hq_)).elim (fun h_ => h_.elim .inl fun h_ => h_.elim (fun h_ => (hda733 q_ hq_ h_).elim) fun h_ => h_.elim (fun h_ => (hdb734 q_ hq_ h_).elim) fun h_ => (hdc735 q_ hq_ h_).elim) .inr
    have e740 := Stp.wr hE71 hst720 (Wr.or (Wr.ofFr NoM wr91) (Wr.or (Wr.ofFr NoM fr59) (Wr.or (Wr.ofFr NoM fr33) (Wr.ofFr NoM fr16))))
    have hm741 := Up.mb hu718
    have hs0742 : Ms M M715 := fun k h => hms719 k (hs0702 k h)
    have dj743 := Dj.grow dj93 hn739 mem704 hm703
    have dj744 := Dj.grow dj94 hn739 mem705 hm703
    have dj745 := Dj.grow dj95 hn739 mem706 hm703
    have fr747 := Ge.grow wr91 hn739 (Stp.size hE71)
    have hO748 : Own IntR 1 3 w713 M715 0 (.slice none 0 0) [] := Own.nil
    have dj749 : Dj (ob (.slice none 0 0)) (vb g1) := Dj.nil _
    have dj750 : Dj (ob (.slice none 0 0)) (vb g17) := Dj.nil _
    have dj751 : Dj (ob (.slice none 0 0)) (vb g41) := Dj.nil _
    have dj752 : Dj (ob (.slice none 0 0)) (ob (.slice B722 (ou ++ (encP us).map (shift fr)).length d723)) := Dj.nil _
    refine WL.nil ?_
    refine CW.seq ?_
    refine CW.region ?_
    refine WL.load sc55 rfl ((Bk.at_ (M := fun _ => False) hbo727 (fun h => h)).cell 0 _ rfl) ?_
    refine WL.move rfl ?_
    refine WL.assign rfl ?_
    refine WL.assign rfl ?_
    refine WL.nil ?_
    refine CW.ret ?_
    refine Ret.two rfl rfl rfl ?_
    have hfin : lawEnc xs = ⟨ou ++ (encP us).map (shift fr), fr + (us.length : Int), [], sc⟩ := by unfold lawEnc restP; rw [show lrun xs 0 ⟨[], 0, [], 0⟩ = ⟨ou, fr, us, sc⟩ from by rw [← hrun, hke, List.take_length]]
    rw [hfin]
    exact ⟨_, _, rfl, ⟨hO731, fr747, (Up.trans u7 (Up.trans u23 (Up.trans u37 (Up.trans u47 (Up.trans hU70 (Up.trans u701 hu718)))))), hs0742, e740⟩⟩
end Go.Proofs.Ytgbajkdomcmblaa
