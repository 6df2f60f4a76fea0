/- Commands and settings: contracts by hand, and the laws over them. -/
import Derived.Test.YtkgbhlcbjflnlaaZOwn
import Derived.Test.YtkgbhlcbjflnlaaZRd
namespace Go.Proofs.Ytkgbhlcbjflnlaa.Fl
open Go Go.RowKit Go.Proofs.YtkgbhlcbjflnlaaW.PrintWords Go.Proofs.YtkgbhlcbjflnlaaW.PrintLast Go.Proofs.YtkgbhlcbjflnlaaW.PrintMore Go.Proofs.Ytkgbhlcbjflnlaa.Mth Go.Proofs.Ytkgbhlcbjflnlaa.P Go.Proofs.Ytkgbhlcbjflnlaa.Own Go.Proofs
set_option linter.unusedVariables false
set_option linter.unusedSimpArgs false
/-! ### The reader's contracts -/
abbrev RdB (r:RS):Option Obj:=some (.cells #[.string r.1,.bool r.2] 64 (0,0))
def trunc (w:World) (g:Nat):World:={ w with heap:=w.heap.extract 0 g }
theorem trunc_below (w:World) (g:Nat):Below (trunc w g).heap.size (trunc w g) w:=by
 refine ⟨rfl,rfl,rfl,by simp [trunc];omega,fun k hk=>?_⟩
 simp [trunc] at hk ⊢
 rw [Array.getElem?_extract]
 rw [if_pos (by omega),Nat.zero_add]
theorem trunc_le (w:World) (g:Nat):(trunc w g).heap.size≤g:=by simp [trunc];omega
theorem rd_upd {w0 w w':World} {g:Nat} (h0:Below w0.heap.size w0 w) (h:Below w0.heap.size w0 w') (k:KeepBut w w' g none):Upd w w' (fun k=>k=g) :=
 ⟨h.os.trans h0.os.symm,h.tape.trans h0.tape.symm,h.output.trans h0.output.symm,⟨k.1,fun i hi hn=>k.2 i hi hn (by simp)⟩⟩
theorem rd_own {α:Type} {enc:α→Value} {h1:∀ x,(enc x).oneCell'=true} {e:Nat} {w:World} {base:Nat} {ok:Nat→Prop} {v:Value} {xs:List α} (h:(Kd.scalar enc h1).R e w base ok v xs):∃ A c,v=.slice A xs.length c∧w.ownsRow base e 1 (.slice A xs.length c) xs.length (encs enc xs):=by
 have o:=Kd.own_of_R h
 obtain ⟨A,c,rfl⟩:=own_slice o
 exact ⟨A,c,rfl,o⟩
theorem num_c (g:Nat) (r:RS) (n:Nat) (w:World) (h1:1≤n) (h4:n≤4) (hI:w.heap[g]?=RdB r) :
  Calls Try.prog 51 #[.pointer (some ⟨g,0,none⟩),.int .i64 n] w fun e w'=>e=.returned (.int .i64 (numS r n).1)∧w'.heap[g]?=RdB (numS r n).2∧Upd w w' (fun k=>k=g):=by
 obtain ⟨k,hk⟩:=num_spec r n h1 h4
 refine (control_reader_num.calls k g r.1 r.2 n _ _ _ (trunc w g) w ⟨hI,trunc_le w g⟩ (trunc_below w g) (hk k (Nat.le_refl k))).mono ?_
 rintro e w' ⟨rfl,hi,hb,hk⟩
 exact ⟨rfl,hi.1,rd_upd (trunc_below w g) hb hk⟩
theorem take_c (g:Nat) (r:RS) (n:Nat) (w:World) (hI:w.heap[g]?=RdB r) :
  Calls Try.prog 54 #[.pointer (some ⟨g,0,none⟩),.int .i64 n] w fun e w'=>e=.returned (.string (takeS r n).1)∧w'.heap[g]?=RdB (takeS r n).2∧Upd w w' (fun k=>k=g):=by
 refine (control_reader_take.calls g r.1 r.2 n _ _ _ (trunc w g) w ⟨hI,trunc_le w g⟩ (trunc_below w g) (take_spec r n)).mono ?_
 rintro e w' ⟨rfl,hi,hb,hk⟩
 exact ⟨rfl,hi.1,rd_upd (trunc_below w g) hb hk⟩
theorem macs_c (g:Nat) (r:RS) (w:World) (hI:w.heap[g]?=RdB r) :
  Calls Try.prog 53 #[.pointer (some ⟨g,0,none⟩)] w fun e w'=>∃ A c,e=.returned (.slice A (macsS r).1.length c)∧w'.ownsRow w.heap.size 9 1 (.slice A (macsS r).1.length c) (macsS r).1.length (encs Value.string (macsS r).1)∧w'.heap[g]?=RdB (macsS r).2∧Upd w w' (fun k=>k=g):=by
 obtain ⟨k,hk⟩:=macs_spec r
 refine (control_reader_macs.calls k g r.1 r.2 _ _ _ (trunc w g) w ⟨hI,trunc_le w g⟩ (trunc_below w g) (hk k (Nat.le_refl k))).mono ?_
 rintro e w' ⟨v,rfl,hr,hi,hb,hk⟩
 obtain ⟨A,c,rfl,o⟩:=rd_own hr
 exact ⟨A,c,rfl,o,hi.1,rd_upd (trunc_below w g) hb hk⟩
theorem rules_c (g:Nat) (r:RS) (w:World) (hI:w.heap[g]?=RdB r) :
  Calls Try.prog 56 #[.pointer (some ⟨g,0,none⟩)] w fun e w'=>∃ A c,e=.returned (.agg #[.int .i64 (rulesS r).kn,.slice A (rulesS r).tab.length c,.string ⟨#[]⟩,.int .i64 (rulesS r).df])∧w'.ownsRow w.heap.size 3 1 (.slice A (rulesS r).tab.length c) (rulesS r).tab.length (encs (Value.int .i64) (rulesS r).tab)∧w'.heap[g]?=RdB (rulesS r).r∧Upd w w' (fun k=>k=g):=by
 obtain ⟨k,hk⟩:=rules_spec r
 refine (control_reader_rules.calls k g r.1 r.2 _ _ _ _ _ _ (trunc w g) w ⟨hI,trunc_le w g⟩ (trunc_below w g) (hk k (Nat.le_refl k))).mono ?_
 rintro e w' ⟨v,rfl,hr,hi,hb,hk⟩
 obtain ⟨A,c,rfl,o⟩:=rd_own hr
 exact ⟨A,c,rfl,o,hi.1,rd_upd (trunc_below w g) hb hk⟩
end Go.Proofs.Ytkgbhlcbjflnlaa.Fl
