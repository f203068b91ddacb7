/- Tactics: a call by its contract (no program in it). -/
import Derived.Test.YtaakchnddcphkaaS
import Derived.Tactics2
namespace Go.Proofs.Ytaakchnddcphkaa.Sl
-- A call that turns one resource. 
set_option hygiene false in
macro "call1 " h:term:max i:term:max s:term:max n:ident : tactic => `(tactic| (refine (St.call $i (($h).out) rfl $s).mono ?_; rintro e w1 ⟨v, A', N, rfl, ⟨rfl, rfl, rfl⟩, H1⟩; (try simp only [List.cons_append, List.nil_append, List.set_cons_zero, List.set_cons_succ, bsOf_list] at H1); have $n := Lib.hid H1; clear H1; go_wp2_with fail))
-- So, and an equation is put in. 
set_option hygiene false in
macro "call1r " h:term:max i:term:max s:term:max q:term:max n:ident : tactic => `(tactic| (refine (St.call $i (($h).out) rfl $s).mono ?_; rintro e w1 ⟨v, A', N, rfl, ⟨rfl, rfl, rfl⟩, H1⟩; (try simp only [List.cons_append, List.nil_append, List.set_cons_zero, List.set_cons_succ, bsOf_list] at H1); (try rw [$q:term] at H1); (try rw [$q:term]); have $n := Lib.hid H1; clear H1; go_wp2_with fail))
-- So, where the answer is a term with a law. 
set_option hygiene false in
macro "call1v " h:term:max i:term:max s:term:max q:term:max n:ident : tactic => `(tactic| (refine (St.call $i (($h).out) rfl $s).mono ?_; rintro e w1 ⟨v, A', N, rfl, ⟨hv, rfl, rfl⟩, H1⟩; (try simp only [List.cons_append, List.nil_append, List.set_cons_zero, List.set_cons_succ, bsOf_list] at H1); have hv2 := Eq.trans hv $q; clear hv; subst hv2; have $n := Lib.hid H1; clear H1; go_wp2_with fail))
-- A call that turns none. 
set_option hygiene false in
macro "call0 " h:term:max s:term:max n:ident : tactic => `(tactic| (refine (St.call0 (($h).out) $s).mono ?_; rintro e w1 ⟨v, N, rfl, ⟨rfl, rfl⟩, H1⟩; (try simp only [List.cons_append, List.nil_append, List.set_cons_zero, List.set_cons_succ, bsOf_list] at H1); have $n := Lib.hid H1; clear H1; go_wp2_with fail))
set_option hygiene false in
macro "call0r " h:term:max s:term:max q:term:max n:ident : tactic => `(tactic| (refine (St.call0 (($h).out) $s).mono ?_; rintro e w1 ⟨v, N, rfl, ⟨rfl, rfl⟩, H1⟩; (try simp only [List.cons_append, List.nil_append, List.set_cons_zero, List.set_cons_succ, bsOf_list] at H1); (try rw [$q:term] at H1); (try rw [$q:term]); have $n := Lib.hid H1; clear H1; go_wp2_with fail))
-- A call that turns none and answers a new pointer. 
set_option hygiene false in
macro "call0n " h:term:max s:term:max g:ident n:ident : tactic => `(tactic| (refine (St.call0 (($h).out) $s).mono ?_; rintro e w1 ⟨v, N, rfl, ⟨$g:ident, rfl, rfl⟩, H1⟩; (try simp only [List.cons_append, List.nil_append, List.set_cons_zero, List.set_cons_succ, bsOf_list] at H1); have $n := Lib.hid H1; clear H1; go_wp2_with fail))
set_option hygiene false in
macro "call0nr " h:term:max s:term:max q:term:max g:ident n:ident : tactic => `(tactic| (refine (St.call0 (($h).out) $s).mono ?_; rintro e w1 ⟨v, N, rfl, ⟨$g:ident, rfl, rfl⟩, H1⟩; (try simp only [List.cons_append, List.nil_append, List.set_cons_zero, List.set_cons_succ, bsOf_list] at H1); rw [$q:term] at H1; have $n := Lib.hid H1; clear H1; go_wp2_with fail))
-- A call that only answers. 
set_option hygiene false in
macro "callp " s:term:max : tactic => `(tactic| (refine ($s).mono ?_; rintro e w1 ⟨rfl, rfl⟩; go_wp2_with fail))
set_option hygiene false in
macro "callpr " s:term:max q:term:max : tactic => `(tactic| (refine ($s).mono ?_; rintro e w1 ⟨rfl, rfl⟩; rw [$q:term]; go_wp2_with fail))
-- A new Output.
set_option hygiene false in
macro "newout " h:term:max n:ident : tactic => `(tactic| (have H1 := OutR.new (($h).out); (try simp only [World.size_alloc] at H1); have $n := Lib.hid H1; clear H1))
set_option hygiene false in
macro "newout2 " h:term:max n:ident : tactic => `(tactic| (have H1 := OutR.new (OutR.new (($h).out)); (try simp only [World.size_alloc] at H1); have $n := Lib.hid H1; clear H1))
set_option hygiene false in
macro "newout3 " h:term:max n:ident : tactic => `(tactic| (have H1 := OutR.new (OutR.new (OutR.new (($h).out))); (try simp only [World.size_alloc] at H1); have $n := Lib.hid H1; clear H1))
end Go.Proofs.Ytaakchnddcphkaa.Sl
