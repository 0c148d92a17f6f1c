/-
  Walks: rational.digits, cut.; Walks: rational.read, Check, Parts at numbers with short parts; quick.
-/
import Derived.Test.YtohlpeicpoaanaaGreatDoorWC
import Derived.Test.YtohlpeicpoaanaaGreatDoorRootM
import Derived.Test.YtohlpeicpoaanaaGreatDoorWD
import Derived.Test.YtohlpeicpoaanaaGreatDoorWF
import Derived.Test.YtohlpeicpoaanaaGreatDoorBlk
namespace Go.Proofs.YtohlpeicpoaanaaGreatDoor
section
open Go.RowKit Kp
theorem lt_bool_t {a b:Nat} (h:a<b):decide ((a:Int)<b)=true:=by simp; omega
theorem lt_bool_f {a b:Nat} (h:¬ a<b):decide ((a:Int)<b)=false:=by simp; omega
theorem eq0_bool_t {a:Nat} (h:a=0):((a:Int) == 0)=true:=by simp [h]
theorem eq0_bool_f {a:Nat} (h:a≠0):((a:Int) == 0)=false:=by simp [h]
set_option maxHeartbeats 400000 in
theorem rational_digits (s:Str) (hl:s.length≤1000000000) (w:World) :
  Calls Tryz.prog 131 #[.string ⟨s.toArray⟩] w fun e w'=>e=.returned (.int .i64 (digN s))∧w=w':=by
 go_enter Tryz.func131,Tryz.ntmps131
 go_wp2
 go_loop [3] (fun i=>∃ k:Nat,k≤s.length∧i=.int .i64 k∧AllDig (s.take k)) (fun i=>s.length - (intOf i).toNat)
 case atStart=>exact ⟨0,by omega,rfl,by simp [AllDig]⟩
 case round =>
  obtain ⟨k,hk,rfl,had⟩:=hrel
  have HD:=LH had; clear had
  by_cases h1:k<s.length
  ·cases hd:isDig (at0 s k) with
   | true =>
    have hd':=(isDig_iff _).1 hd
    have HN:=LH (HD.out.snoc h1 hd)
    clear hd
    go_wp2
    go_round
    case rel=>exact ⟨k+1,by omega,by go_num,HN.out⟩
    case measure=>simp [intOf]; omega
   | false =>
    have HT:=LH (takeWhile_len_of HD.out hk (.inr hd))
    have hd':=(isDig_false_iff _).1 hd
    clear hd
    by_cases hz:1<k∧at0 s 0=48
    ·have hz1:=hz.1
     have hz2:((((at0 s 0).toNat:Int)) == 48)=true:=by rw [hz.2]; rfl
     have HR:Hid (digN s=0):=LH (by unfold digN; rw [HT.out,if_pos hz])
     clear hz
     rcases hd' with hd' | hd'
     all_goals
      go_wp2
      go_ret
      exact ⟨ret_int (by rw [HR.out]; all_goals rfl),rfl⟩
    ·have HR:Hid (digN s=k):=LH (by unfold digN; rw [HT.out,if_neg hz])
     have hz':k≤1∨(1<k∧((((at0 s 0).toNat:Int)) == 48)=false):=by
      by_cases a:k≤1
      ·exact .inl a
      ·exact .inr ⟨by omega,beq48 (fun e=>hz ⟨by omega,e⟩)⟩
     clear hz
     rcases hd' with hd' | hd' <;> rcases hz' with hz' | ⟨hz',hz2⟩
     all_goals
      go_wp2
      go_ret
      exact ⟨ret_int (by rw [HR.out]; all_goals rfl),rfl⟩
  ·have HT:=LH (takeWhile_len_of HD.out hk (.inl (by omega)))
   by_cases hz:1<k∧at0 s 0=48
   ·have hz1:=hz.1
    have hz2:((((at0 s 0).toNat:Int)) == 48)=true:=by rw [hz.2]; rfl
    have HR:Hid (digN s=0):=LH (by unfold digN; rw [HT.out,if_pos hz])
    clear hz
    go_wp2
    go_ret
    exact ⟨ret_int (by rw [HR.out]; all_goals rfl),rfl⟩
   ·have HR:Hid (digN s=k):=LH (by unfold digN; rw [HT.out,if_neg hz])
    have hz':k≤1∨(1<k∧((((at0 s 0).toNat:Int)) == 48)=false):=by
     by_cases a:k≤1
     ·exact .inl a
     ·exact .inr ⟨by omega,beq48 (fun e=>hz ⟨by omega,e⟩)⟩
    clear hz
    rcases hz' with hz' | ⟨hz',hz2⟩
    all_goals
     go_wp2
     go_ret
     exact ⟨ret_int (by rw [HR.out]; all_goals rfl),rfl⟩
def cutV (a:Str):Value:=if rbad a then .tuple #[.agg #[.string ⟨#[]⟩,.string ⟨#[]⟩],.bool false] else .tuple #[.agg #[.string ⟨(numPart a).toArray⟩,.string ⟨(denStr a).toArray⟩],.bool true]
theorem cut_ways (a : Str) :
    (cutV a = .tuple #[.agg #[.string ⟨#[]⟩, .string ⟨#[]⟩], .bool false] ∧
      (digN (unsig (numPart a)) = 0 ∨
       (digN (unsig (numPart a)) ≠ 0 ∧ digN (unsig (numPart a)) < (unsig (numPart a)).length) ∨
       (digN (unsig (numPart a)) ≠ 0 ∧ ¬ digN (unsig (numPart a)) < (unsig (numPart a)).length ∧
         ((decide ((numPart a).head? = some 45) = true ∧ (unsig (numPart a) == [48]) = true) ∨
          ((decide ((numPart a).head? = some 45) = false ∨ (unsig (numPart a) == [48]) = false) ∧ hasSlash a = true ∧
            (digN (denCut a) = 0 ∨ (digN (denCut a) ≠ 0 ∧ digN (denCut a) < (denCut a).length) ∨
             (digN (denCut a) ≠ 0 ∧ ¬ digN (denCut a) < (denCut a).length ∧ ((denCut a == [48]) = true ∨ ((denCut a == [48]) = false ∧ (denCut a == [49]) = true))))))))) ∨
    (digN (unsig (numPart a)) ≠ 0 ∧ ¬ digN (unsig (numPart a)) < (unsig (numPart a)).length ∧ (decide ((numPart a).head? = some 45) = false ∨ (unsig (numPart a) == [48]) = false) ∧
      ((hasSlash a = false ∧ cutV a = .tuple #[.agg #[.string ⟨(numPart a).toArray⟩, .string ⟨#[49]⟩], .bool true]) ∨
       (hasSlash a = true ∧ digN (denCut a) ≠ 0 ∧ ¬ digN (denCut a) < (denCut a).length ∧ (denCut a == [48]) = false ∧ (denCut a == [49]) = false ∧
         cutV a = .tuple #[.agg #[.string ⟨(numPart a).toArray⟩, .string ⟨(denCut a).toArray⟩], .bool true]))) := by
  have hbad : rbad a → cutV a = .tuple #[.agg #[.string ⟨#[]⟩, .string ⟨#[]⟩], .bool false] := fun h => by unfold cutV; rw [if_pos h]
  have hgood : ¬ rbad a → cutV a = .tuple #[.agg #[.string ⟨(numPart a).toArray⟩, .string ⟨(denStr a).toArray⟩], .bool true] := fun h => by unfold cutV; rw [if_neg h]
  rw [rbad_iff] at hbad hgood
  by_cases h0 : digN (unsig (numPart a)) = 0
  · exact .inl ⟨hbad (.inl (.inl h0)), .inl h0⟩
  · by_cases h1 : digN (unsig (numPart a)) < (unsig (numPart a)).length
    · exact .inl ⟨hbad (.inl (.inr (.inl h1))), .inr (.inl ⟨h0, h1⟩)⟩
    · by_cases h2 : (numPart a).head? = some 45 ∧ unsig (numPart a) = [48]
      · exact .inl ⟨hbad (.inl (.inr (.inr h2))), .inr (.inr ⟨h0, h1, .inl ⟨by simpa using h2.1, by simpa using h2.2⟩⟩)⟩
      · have h2' : decide ((numPart a).head? = some 45) = false ∨ (unsig (numPart a) == [48]) = false := by
          by_cases hm : (numPart a).head? = some 45
          · exact .inr (by simpa using fun e => h2 ⟨hm, e⟩)
          · exact .inl (by simpa using hm)
        have hfirst : ¬ (digN (unsig (numPart a)) = 0 ∨ digN (unsig (numPart a)) < (unsig (numPart a)).length ∨ ((numPart a).head? = some 45 ∧ unsig (numPart a) = [48])) := by
          rintro (x | x | x)
          · exact h0 x
          · exact h1 x
          · exact h2 x
        cases hs : hasSlash a with
        | false =>
          refine .inr ⟨h0, h1, h2', .inl ⟨rfl, ?_⟩⟩
          have := hgood (by rintro (x | ⟨x, _⟩); · exact hfirst x
                            · rw [hs] at x; cases x)
          rw [this]; unfold denStr; rw [hs]; rfl
        | true =>
          have ed : denCut a = denPart a := by unfold denCut; rw [hs]; rfl
          have es : denStr a = denPart a := by unfold denStr; rw [hs]; rfl
          rw [ed]
          by_cases d0 : digN (denPart a) = 0
          · exact .inl ⟨hbad (.inr ⟨hs, .inl d0⟩), .inr (.inr ⟨h0, h1, .inr ⟨h2', rfl, .inl d0⟩⟩)⟩
          · by_cases d1 : digN (denPart a) < (denPart a).length
            · exact .inl ⟨hbad (.inr ⟨hs, .inr (.inl d1)⟩), .inr (.inr ⟨h0, h1, .inr ⟨h2', rfl, .inr (.inl ⟨d0, d1⟩)⟩⟩)⟩
            · by_cases d2 : denPart a = [48]
              · exact .inl ⟨hbad (.inr ⟨hs, .inr (.inr (.inl d2))⟩), .inr (.inr ⟨h0, h1, .inr ⟨h2', rfl, .inr (.inr ⟨d0, d1, .inl (by simpa using d2)⟩)⟩⟩)⟩
              · by_cases d3 : denPart a = [49]
                · exact .inl ⟨hbad (.inr ⟨hs, .inr (.inr (.inr d3))⟩), .inr (.inr ⟨h0, h1, .inr ⟨h2', rfl, .inr (.inr ⟨d0, d1, .inr ⟨by simpa using d2, by simpa using d3⟩⟩)⟩⟩)⟩
                · refine .inr ⟨h0, h1, h2', .inr ⟨rfl, d0, d1, by simpa using d2, by simpa using d3, ?_⟩⟩
                  have := hgood (by rintro (x | ⟨_, x | x | x | x⟩); · exact hfirst x
                                    · exact d0 x
                                    · exact d1 x
                                    · exact d2 x
                                    · exact d3 x)
                  rw [this, es]
theorem denCut_len (a:Str):(denCut a).length≤a.length:=by
 unfold denCut; split
 ·exact denPart_len a
 ·simp
set_option maxRecDepth 100000 in
set_option maxHeartbeats 2000000 in
theorem rational_cut (a : Str) (hl : a.length ≤ 1000000000) (w : World) (hE : Env w) :
    Calls Tryz.prog 98 #[.string ⟨a.toArray⟩] w fun e w' => e = .returned (cutV a) ∧ Q w w' := by
  have l1 := numPart_len a
  have l2 := denCut_len a
  have l3 := unsig_len (numPart a)
  rcases cut_ways a with ⟨HV, h | ⟨h, h1⟩ | ⟨h, h1, ⟨h2, h3⟩ | ⟨h2 | h2, h3, h4 | ⟨h4, h5⟩ | ⟨h4, h5, h6 | ⟨h6, h7⟩⟩⟩⟩⟩ | ⟨h, h1, h2 | h2, ⟨h3, HV⟩ | ⟨h3, h4, h5, h6, h7, HV⟩⟩
  all_goals
    have HW := LH HV
    clear HV
    first | have g0 := eq0_bool_t h | have g0 := eq0_bool_f h
    first | have g1 := lt_bool_t h1 | have g1 := lt_bool_f h1 | skip
    first | have g2 := eq0_bool_t h4 | have g2 := eq0_bool_f h4 | skip
    first | have g3 := lt_bool_t h5 | have g3 := lt_bool_f h5 | skip
    clear h
    go_enter Tryz.func98, Tryz.ntmps98
    go_wp2_with (first | (go_at_call 39; refine (lib_CutSlash a (by omega) _ (hE.q bt)).mono ?_; rintro e w1 ⟨rfl, n1, rfl⟩) | (go_at_call 130; refine (lib_CutMinus _ _).mono ?_; rintro e w1 ⟨rfl, rfl⟩) | (go_at_call 131; refine (rational_digits _ (by omega) _).mono ?_; rintro e w1 ⟨rfl, rfl⟩))
  all_goals
    first
    | (refine bodyPost_ret (v := .tuple #[.agg #[.string ⟨#[]⟩, .string ⟨#[]⟩], .bool false]) ?_ rfl ?_
       · simp [results, Tryz.results98, go_sem]
       · exact ⟨by rw [HW.out], bt⟩)
    | (refine bodyPost_ret (v := .tuple #[.agg #[.string ⟨(numPart a).toArray⟩, .string ⟨#[49]⟩], .bool true]) ?_ rfl ?_
       · simp [results, Tryz.results98, go_sem]
       · exact ⟨by rw [HW.out], bt⟩)
    | (refine bodyPost_ret (v := .tuple #[.agg #[.string ⟨(numPart a).toArray⟩, .string ⟨(denCut a).toArray⟩], .bool true]) ?_ rfl ?_
       · simp [results, Tryz.results98, go_sem]
       · exact ⟨by rw [HW.out], bt⟩)
end
section
open Go.RowKit Kp
theorem ret_read (tmps:Array Value) (W:World) (b:Nat) (x y u:Value) (hp:tmps.getD 2 undef=.pointer (some ⟨b,0,none⟩)) (hu:tmps.getD 3 undef=u)
  (c0:W.cell? ⟨b,0,none⟩=some x) (c1:W.cell? ⟨b,1,none⟩=some y) :
  (results Tryz.f69 tmps).run Tryz.prog W=.ok (.tuple #[.agg #[x,y],u]) W:=by
 simp only [Array.getD_eq_getD_getElem?] at hp hu
 simp [results,Tryz.results69,go_sem,hp,hu,c0,c1]
theorem natOfV_small {q:Rat} (h:Small8 q):natOfV (rstr q)=.tuple #[.agg #[.int .i64 q.num,.int .i64 (q.den:Int)],.bool true]:=natOfV_some (natOf_small h)
theorem small_len {q:Rat} (h:Small8 q):(rstr q).length≤1000:=by
 have h1:=itoa_len q.num (lim_small (by have:=h.1; omega))
 have h2:=itoa_len (q.den:Int) (lim_small (by have:=h.2; omega))
 unfold rstr; split
 ·omega
 ·rw [dec_eq_itoa,List.length_append,List.length_cons]; omega
end
end Go.Proofs.YtohlpeicpoaanaaGreatDoor
