/-
  Plain lemmas: one step of a region that draws, in the order of its operations (the number of the next one is what is left of the fuel).
-/
import Derived.Test.YtknmfmedklfepaaGreatDoorThin
namespace Go.Proofs.YtknmfmedklfepaaGreatDoor.P
open Go.RowKit Go.Proofs.YtknmfmedklfepaaGreatDoorW.PrintWords Go.Proofs.YtknmfmedklfepaaGreatDoorW.PrintLast Go.Proofs.YtknmfmedklfepaaGreatDoorW.PrintMore
/-- Three texts that lie behind one another. -/
def S3 (w' : World) (a : Addr) (x y z : ByteArray) : Prop := w'.cell? a = some (.string x) ∧ w'.cell? ⟨a.block, a.off + 1, none⟩ = some (.string y) ∧ w'.cell? ⟨a.block, a.off + 2, none⟩ = some (.string z)
theorem s3B {w W : World} {a : Addr} {x y z : ByteArray} (HB : Aside0 (Below w.heap.size w W)) (h : S3 w a x y z) : S3 W a x y z :=
  ⟨(HB.out.cell (World.block_lt_of_cell? w _ h.1)).trans h.1, (HB.out.cell (World.block_lt_of_cell? w _ h.2.1)).trans h.2.1, (HB.out.cell (World.block_lt_of_cell? w _ h.2.2)).trans h.2.2⟩
theorem dB {P : Program} {f : FuncId} {args : Array Value} {w : World} {r : Value} (h : Calls P f args w fun e w' => e = .returned r ∧ Drawn0 w w') : Calls P f args w fun e w' => e = .returned r ∧ Below w.heap.size w w' := h.mono fun _ _ h => ⟨h.1, h.2.below⟩
section
variable {P : Program} {ops : Array Oper} {Q : Exit → Act → World → Prop} {md : Region.Mode} {S : World → Prop} {ds : List Nat} {oi : Oper} {v : Value} {fuel N m n : Nat} {a a' : Act} {w : World} {T : Bool × List (List Nat × List Nat)}
theorem zU (hT : Aside0 (rtab md ops = T)) (h : wpAnyLast P md ops Q S ds fuel (bA N (2 ^ (N - fuel) - 1)) a' w) (hi : ops[N - 1 - fuel]? = some oi := by rfl) (hN : oi.dst = some n := by rfl) (hw : Region.wanted oi (yielded ops a.tmps) = false := by rfl)
    (hc : anyT T (bA N m).toList (bA N (2 ^ (N - fuel) - 1)).toList (N - 1 - fuel) = true := by kernel_rfl) (ha : a.put (some n) undef = a' := by simp only [pS]; rfl) (hQ : ∀ c a w, Q (.panic c) (a.put oi.dst undef) w → Q (.panic c) a w := by exact fun _ _ _ h => h) : wpAnyLast P md ops Q S ds (fuel + 1) (bA N m) a w :=
  pU (N - 1 - fuel) n _ hT.out h hi hN hc hw ha hQ
theorem zT (hT : Aside0 (rtab md ops = T)) (h : wpAnyLast P md ops Q S ds fuel (bA N (2 ^ (N - fuel) - 1)) a' w) (hi : ops[N - 1 - fuel]? = some oi := by rfl) (hN : oi.dst = some n := by rfl) (hw : Region.wanted oi (yielded ops a.tmps) = true := by rfl)
    (hc : anyT T (bA N m).toList (bA N (2 ^ (N - fuel) - 1)).toList (N - 1 - fuel) = true := by kernel_rfl) (hy : ∀ w', (execOp a.eval oi).run P w' = .ok (.value v) w' := by intro w'; go_simp; with_reducible rfl)
    (ha : a.put (some n) v = a' := by simp only [pS]; rfl) (hQ : ∀ c a w, Q (.panic c) (a.put oi.dst v) w → Q (.panic c) a w := by exact fun _ _ _ h => h) : wpAnyLast P md ops Q S ds (fuel + 1) (bA N m) a w :=
  pT (N - 1 - fuel) n _ hT.out h hi hN hc hw hy ha hQ
theorem zL {B : List Nat} (hT : Aside0 (rtab md ops = T)) (hB : Aside0 (waitsOk T.2 B = true)) (hS : S w) (h : wpAnyLast P md ops Q S ds fuel (bA N (2 ^ (N - fuel) - 1)) a' w) (hi : ops[N - 1 - fuel]? = some oi := by rfl) (hN : oi.dst = some n := by rfl) (hw : Region.wanted oi (yielded ops a.tmps) = true := by rfl)
    (hc : takeW T B ds (bA N m).toList (bA N (2 ^ (N - fuel) - 1)).toList (N - 1 - fuel) = true := by kernel_rfl) (hy : ∀ w', S w' → (execOp a.eval oi).run P w' = .ok (.value v) w' := by first | (rintro w' ⟨⟨s0, s1, s2⟩, s3, s4, s5⟩; go_simp; with_reducible rfl) | (rintro w' ⟨⟨s0, s1, s2⟩, s3⟩; go_simp; with_reducible rfl) | (rintro w' ⟨s0, s1, s2⟩; go_simp; with_reducible rfl) | (rintro w' ⟨s0, s1, s2, s3⟩; go_simp; with_reducible rfl))
    (ha : a.put (some n) v = a' := by simp only [pS]; rfl) (hQ : ∀ c a w, Q (.panic c) (a.put oi.dst v) w → Q (.panic c) a w := by exact fun _ _ _ h => h) :
    wpAnyLast P md ops Q S ds (fuel + 1) (bA N m) a w := tT (N - 1 - fuel) n _ hT.out hB.out hS h hi hN hc hw hy ha hQ
theorem zO {d : Option Tmp} (hT : Aside0 (rtab md ops = T))
    (h : ∀ K : Act → World → Prop, Shut (∀ a' w', S w' → (S w' → wpAnyLast P md ops Q S ds fuel (bA N (2 ^ (N - fuel) - 1)) a' w') → K a' w') → if Region.wanted oi (yielded ops a.tmps) = true then Oper.wp P oi a w K Q else K (a.put d undef) w) (hi : ops[N - 1 - fuel]? = some oi := by rfl) (hN : oi.dst = d := by rfl)
    (hc : (readyT T.2 (bA N m).toList == [N - 1 - fuel] && (bA N m).toList.set (N - 1 - fuel) true == (bA N (2 ^ (N - fuel) - 1)).toList) = true := by kernel_rfl) (hd : N - 1 - fuel ∉ ds := by decide) : wpAnyLast P md ops Q S ds (fuel + 1) (bA N m) a w := oT (N - 1 - fuel) _ hT.out h hi hN hc hd
/-- A call that changes nothing that was there at w0: what holds of all such worlds (S) holds behind it. -/
theorem zC {d : Option Tmp} {w0 : World} {f : FuncId} {fn : Func} {as : Array Operand} {ts : Array TypeId} {args : Array Value} {r : Value} (hS : ∀ W, Aside0 (Below w0.heap.size w0 W) → S W) (hT : Aside0 (rtab md ops = T)) (HB : Aside0 (Below w0.heap.size w0 w)) (hf : P.funcs[f]? = some fn)
    (hC : Calls P f args w fun e w' => e = .returned r ∧ Below w.heap.size w w') (h : ∀ w', Aside0 (Below w0.heap.size w0 w') → S w' → wpAnyLast P md ops Q S ds fuel (bA N (2 ^ (N - fuel) - 1)) (a.put d r) w') (hi : ops[N - 1 - fuel]? = some oi := by rfl) (hN : oi.dst = d := by rfl)
    (hc : (readyT T.2 (bA N m).toList == [N - 1 - fuel] && (bA N m).toList.set (N - 1 - fuel) true == (bA N (2 ^ (N - fuel) - 1)).toList) = true := by kernel_rfl) (hd : N - 1 - fuel ∉ ds := by decide) (hname : (fn.name == "runtime.NumGoroutine") = false := by kernel_rfl) (hb : fn.body.isSome = true := by rfl)
    (hw : Region.wanted oi (yielded ops a.tmps) = true := by rfl) (hop : oi.op = .call { callee := .value (.func f), args := as, argTypes := ts } := by rfl) (hargs : as.map a.eval = args := by (try simp only [List.map_toArray, List.map_cons, List.map_nil]); first | done | rfl) : wpAnyLast P md ops Q S ds (fuel + 1) (bA N m) a w :=
  zO hT (fun _ hK => gS hf args (hC.mono fun _ w' h' => ⟨r, h'.1, hK.out _ _ (hS w' ⟨below_step HB.out h'.2⟩) fun hs => h w' ⟨below_step HB.out h'.2⟩ hs⟩) hname hb hw hN hop hargs) hi hN hc hd
end
/-- The region's begin. -/
theorem zS {P : Program} {ops : Array Oper} {Q : Exit → Act → World → Prop} {S : World → Prop} {a : Act} {w w0 : World} {T : Bool × List (List Nat × List Nat)} {B : List Nat} {id : Nat} (n : Nat) (hS : ∀ W, Aside0 (Below w0.heap.size w0 W) → S W) (HB : Aside0 (Below w0.heap.size w0 w)) (hT : rtab .any ops = T) (hB : waitsOk T.2 B = true)
    (h : ∀ w1, Aside0 (Below w0.heap.size w0 w1) → S w1 → Aside0 (rtab .any ops = T) → Aside0 (waitsOk T.2 B = true) → wpAnyLast P .any ops Q S [] n (bA n 0) a w1) (hm : P.follows .mixedOrders = true := by kernel_rfl) (hn : ops.size = n := by rfl) (hl : Array.replicate n false = bA n 0 := by kernel_rfl) : (Code.region id ops true).wp P Q a w :=
  start_ _ hm hn hl (hS _ ⟨below_drew1 HB.out⟩) fun hs => h _ ⟨below_drew1 HB.out⟩ hs ⟨hT⟩ ⟨hB⟩
theorem zD {P : Program} {md : Region.Mode} {ops : Array Oper} {Q : Exit → Act → World → Prop} {S : World → Prop} {ds : List Nat} {a : Act} {w : World} {T : Bool × List (List Nat × List Nat)} {n : Nat} {l : Array Bool} (hT : Aside0 (rtab md ops = T)) (h : Q .normal a w) (hr : (readyT T.2 l.toList == []) = true := by kernel_rfl) : wpAnyLast P md ops Q S ds n l a w := done_ (done_of hT.out hr) h
end Go.Proofs.YtknmfmedklfepaaGreatDoor.P
