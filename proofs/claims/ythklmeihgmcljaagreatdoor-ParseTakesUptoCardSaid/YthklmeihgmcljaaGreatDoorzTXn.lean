/- Parsing: a comment ahead changes nothing but places. The tokens. Plain. -/
import Derived.Test.YthklmeihgmcljaaGreatDoorzTXm
namespace Go.Proofs.YthklmeihgmcljaaGreatDoor
open Go.RowKit
set_option maxRecDepth 100000
set_option maxHeartbeats 1000000
abbrev cmB : ByteArray := ⟨#[35, 32, 10]⟩
structure Sh3 (s t : ByteArray) : Prop where
 sz : t.size = s.size + 3
 get : ∀ p, t.get! (p + 3) = s.get! p
 cut : ∀ p q, t.extract (p + 3) (q + 3) = s.extract p q
theorem sh3 (s : ByteArray) : Sh3 s (cmB ++ s) := by
 have hz : (cmB ++ s).size = s.size + 3 := by rw [ByteArray.size_append]; show 3 + s.size = _; omega
 have hl : (cmB ++ s).data.toList = [35, 32, 10] ++ s.data.toList := by rw [ByteArray.data_append]; simp
 refine ⟨hz, fun p => ?_, fun p q => ?_⟩
 ·by_cases hp : p < s.size
  ·have a := a8u (s := cmB ++ s) (p := p + 3) (by omega)
   have b := a8u (s := s) hp
   rw [hl, List.getElem?_append_right (by simp)] at a
   rw [show p + 3 - ([35, 32, 10] : List UInt8).length = p from rfl, b] at a
   exact (Option.some.inj a).symm
  ·have e : ∀ (u : ByteArray) (i : Nat), ¬ i < u.size → u.get! i = default := fun u i hi => by
    show u.data[i]! = default
    rw [getElem!_neg]
    exact hi
   rw [e _ _ (by omega), e _ _ hp]
 ·apply ByteArray.ext
  apply Array.toList_inj.1
  rw [a1F, a1F, hl, show q + 3 - (p + 3) = q - p by omega]
  congr 1
section
variable {s t : ByteArray} (S : Sh3 s t)
include S
theorem Sh3.dec (p : Nat) : Utf8.decode t (p + 3) = Utf8.decode s p := by
 rw [Lib.decode_at, Lib.decode_at, S.get p, show p + 3 + 1 = p + 1 + 3 by omega, S.get (p + 1), show p + 3 + 2 = p + 2 + 3 by omega, S.get (p + 2), show p + 3 + 3 = p + 3 + 3 by omega, S.get (p + 3), S.sz, show s.size + 3 - (p + 3) = s.size - p by omega]
theorem Sh3.rn (p : Nat) : rn t (p + 3) = rn s p := by show ((Utf8.decode t (p + 3)).1 : Int) = _; rw [S.dec]
theorem Sh3.wd (p : Nat) : wd t (p + 3) = wd s p := by show (Utf8.decode t (p + 3)).2 = _; rw [S.dec]
theorem Sh3.by8 (p : Nat) : by8 t (p + 3) = by8 s p := by show (t.get! (p + 3)).toNat = _; rw [S.get]
theorem Sh3.whl (is : Int → Bool) : ∀ (f p : Nat) (a : Int × Int), (whl t is f (p + 3) a).1 = (whl s is f p a).1 + 3
 | 0, p, a => rfl
 | f + 1, p, a => by
  rw [Go.Proofs.YthklmeihgmcljaaGreatDoor.whl, Go.Proofs.YthklmeihgmcljaaGreatDoor.whl, S.rn, S.wd, S.sz]
  by_cases c : p < s.size ∧ is (Go.Proofs.YthklmeihgmcljaaGreatDoor.rn s p) = true
  ·rw [if_pos c, if_pos ⟨by omega, c.2⟩, show p + 3 + Go.Proofs.YthklmeihgmcljaaGreatDoor.wd s p = p + Go.Proofs.YthklmeihgmcljaaGreatDoor.wd s p + 3 by omega]
   exact Sh3.whl is f _ _
  ·rw [if_neg c, if_neg (fun x => c ⟨by omega, x.2⟩)]
theorem Sh3.wr (is : Int → Bool) (p : Nat) (a : Int × Int) : (Wr t is (p + 3) a).1 = (Wr s is p a).1 + 3 := by
 unfold Wr
 rw [S.sz, show s.size + 3 - (p + 3) = s.size - p by omega]
 exact S.whl is _ _ _
theorem Sh3.cntF (is : Int → Bool) : ∀ (f p n : Nat), cntF t is f (p + 3) n = cntF s is f p n
 | 0, p, n => rfl
 | f + 1, p, n => by
  rw [Go.Proofs.YthklmeihgmcljaaGreatDoor.cntF, Go.Proofs.YthklmeihgmcljaaGreatDoor.cntF, S.rn, S.wd, S.sz]
  by_cases c : p < s.size ∧ is (Go.Proofs.YthklmeihgmcljaaGreatDoor.rn s p) = true
  ·rw [if_pos c, if_pos ⟨by omega, c.2⟩, show p + 3 + Go.Proofs.YthklmeihgmcljaaGreatDoor.wd s p = p + Go.Proofs.YthklmeihgmcljaaGreatDoor.wd s p + 3 by omega]
   exact Sh3.cntF is f _ _
  ·rw [if_neg c, if_neg (fun x => c ⟨by omega, x.2⟩)]
theorem Sh3.cnt (is : Int → Bool) (p n : Nat) : cnt t is (p + 3) n = cnt s is p n := by
 unfold Go.Proofs.YthklmeihgmcljaaGreatDoor.cnt
 rw [S.sz, show s.size + 3 - (p + 3) = s.size - p by omega]
 exact S.cntF is _ _ _
theorem Sh3.dgF : ∀ (f p v : Nat), dgF t f (p + 3) v = ((dgF s f p v).1 + 3, (dgF s f p v).2)
 | 0, p, v => rfl
 | f + 1, p, v => by
  rw [Go.Proofs.YthklmeihgmcljaaGreatDoor.dgF, Go.Proofs.YthklmeihgmcljaaGreatDoor.dgF, S.by8, S.sz]
  by_cases c : p < s.size ∧ 48 ≤ Go.Proofs.YthklmeihgmcljaaGreatDoor.by8 s p ∧ Go.Proofs.YthklmeihgmcljaaGreatDoor.by8 s p ≤ 57
  ·rw [if_pos c, if_pos ⟨by omega, c.2⟩, show p + 3 + 1 = p + 1 + 3 by omega]
   exact Sh3.dgF f _ _
  ·rw [if_neg c, if_neg (fun x => c ⟨by omega, x.2⟩)]
theorem Sh3.dg (p v : Nat) : dg t (p + 3) v = ((dg s p v).1 + 3, (dg s p v).2) := by
 unfold Go.Proofs.YthklmeihgmcljaaGreatDoor.dg
 rw [S.sz, show s.size + 3 - (p + 3) = s.size - p by omega]
 exact S.dgF _ _ _
theorem Sh3.nlF : ∀ (f p : Nat), nlF t f (p + 3) = nlF s f p + 3
 | 0, p => rfl
 | f + 1, p => by
  rw [Go.Proofs.YthklmeihgmcljaaGreatDoor.nlF, Go.Proofs.YthklmeihgmcljaaGreatDoor.nlF, S.by8, S.sz]
  by_cases c : p < s.size ∧ Go.Proofs.YthklmeihgmcljaaGreatDoor.by8 s p ≠ 10
  ·rw [if_pos c, if_pos ⟨by omega, c.2⟩, show p + 3 + 1 = p + 1 + 3 by omega]
   exact Sh3.nlF f _
  ·rw [if_neg c, if_neg (fun x => c ⟨by omega, x.2⟩)]
theorem Sh3.nl (p : Nat) : nl t (p + 3) = nl s p + 3 := by
 unfold Go.Proofs.YthklmeihgmcljaaGreatDoor.nl
 rw [S.sz, show s.size + 3 - (p + 3) = s.size - p by omega]
 exact S.nlF _ _
theorem Sh3.skF : ∀ (f p : Nat), skF t f (p + 3) = skF s f p + 3
 | 0, p => rfl
 | f + 1, p => by
  rw [Go.Proofs.YthklmeihgmcljaaGreatDoor.skF, Go.Proofs.YthklmeihgmcljaaGreatDoor.skF, S.by8, S.sz, S.nl, S.rn, S.wd]
  by_cases c : p < s.size
  ·rw [if_pos c, if_pos (by omega)]
   by_cases c2 : Go.Proofs.YthklmeihgmcljaaGreatDoor.by8 s p = 35
   ·rw [if_pos c2, if_pos c2]; exact Sh3.skF f _
   ·rw [if_neg c2, if_neg c2]
    by_cases c3 : blankS (Go.Proofs.YthklmeihgmcljaaGreatDoor.rn s p) = true
    ·rw [if_pos c3, if_pos c3, show p + 3 + Go.Proofs.YthklmeihgmcljaaGreatDoor.wd s p = p + Go.Proofs.YthklmeihgmcljaaGreatDoor.wd s p + 3 by omega]
     exact Sh3.skF f _
    ·rw [if_neg c3, if_neg c3]
  ·rw [if_neg c, if_neg (by omega)]
theorem Sh3.sk (p : Nat) : sk t (p + 3) = sk s p + 3 := by
 unfold Go.Proofs.YthklmeihgmcljaaGreatDoor.sk
 rw [S.sz, show s.size + 3 - (p + 3) = s.size - p by omega]
 exact S.skF _ _
theorem Sh3.two (p : Nat) : two t (p + 3) ↔ two s p := by
 unfold Go.Proofs.YthklmeihgmcljaaGreatDoor.two
 rw [S.sz, S.by8, show p + 3 + 1 = p + 1 + 3 by omega, S.by8]
 constructor <;> rintro ⟨h1, h2⟩ <;> exact ⟨by omega, h2⟩
theorem Sh3.one (p : Nat) : (oneO t (p + 3)).err = (oneO s p).err ∧ (oneO t (p + 3)).kind = (oneO s p).kind ∧ (oneO t (p + 3)).text = (oneO s p).text ∧ (oneO t (p + 3)).num = (oneO s p).num ∧ ((oneO s p).err = 0 → (oneO t (p + 3)).stop = (oneO s p).stop + 3) := by
 have e0 : ∀ c : Int, c ≠ 0 → ((On.bad c).err = 0 → (On.bad c).stop = (On.bad c).stop + 3) := fun c hc h => absurd h hc
 unfold oneO
 rw [S.rn]
 by_cases c3 : classS (Go.Proofs.YthklmeihgmcljaaGreatDoor.rn s p) = 3
 ·rw [if_pos c3, if_pos c3]
  unfold wordO
  rw [S.wr, S.cut, S.cnt]
  by_cases d : wordS (s.extract p (Wr s goesS p (0, 0)).1) = true
  ·rw [if_pos d, if_pos d]; exact ⟨rfl, rfl, rfl, rfl, fun _ => rfl⟩
  rw [if_neg d, if_neg d]
  by_cases d2 : 32 < Go.Proofs.YthklmeihgmcljaaGreatDoor.cnt s goesS p 0
  ·rw [if_pos d2, if_pos d2]; exact ⟨rfl, rfl, rfl, rfl, e0 22 (by decide)⟩
  ·rw [if_neg d2, if_neg d2]; exact ⟨rfl, rfl, rfl, rfl, fun _ => rfl⟩
 rw [if_neg c3, if_neg c3]
 by_cases c4 : classS (Go.Proofs.YthklmeihgmcljaaGreatDoor.rn s p) = 4
 ·rw [if_pos c4, if_pos c4]
  unfold numO
  rw [S.dg]
  dsimp only
  rw [S.by8, S.cut, S.rn, S.sz, Nat.add_sub_add_right]
  simp only [Nat.add_lt_add_iff_right]
  by_cases d : 9223372036854775808 ≤ (Go.Proofs.YthklmeihgmcljaaGreatDoor.dg s p 0).2 ∨ (Go.Proofs.YthklmeihgmcljaaGreatDoor.by8 s p = 48 ∧ 1 < (Go.Proofs.YthklmeihgmcljaaGreatDoor.dg s p 0).1 - p) ∨ ((Go.Proofs.YthklmeihgmcljaaGreatDoor.dg s p 0).1 < s.size ∧ classS (Go.Proofs.YthklmeihgmcljaaGreatDoor.rn s (Go.Proofs.YthklmeihgmcljaaGreatDoor.dg s p 0).1) = 3)
  ·rw [if_pos d, if_pos d]; exact ⟨rfl, rfl, rfl, rfl, e0 21 (by decide)⟩
  ·rw [if_neg d, if_neg d]; exact ⟨rfl, rfl, rfl, rfl, fun _ => rfl⟩
 rw [if_neg c4, if_neg c4]
 by_cases c5 : classS (Go.Proofs.YthklmeihgmcljaaGreatDoor.rn s p) = 5
 ·rw [if_pos c5, if_pos c5]
  unfold signO
  rw [S.by8, show p + 3 + 2 = p + 2 + 3 by omega, S.cut, show p + 3 + 1 = p + 1 + 3 by omega, S.cut]
  by_cases d : Go.Proofs.YthklmeihgmcljaaGreatDoor.two s p
  ·rw [if_pos d, if_pos ((S.two p).2 d)]; exact ⟨rfl, rfl, rfl, rfl, fun _ => rfl⟩
  rw [if_neg d, if_neg (fun x => d ((S.two p).1 x))]
  by_cases d2 : Go.Proofs.YthklmeihgmcljaaGreatDoor.by8 s p = 38 ∨ Go.Proofs.YthklmeihgmcljaaGreatDoor.by8 s p = 124
  ·rw [if_pos d2, if_pos d2]; exact ⟨rfl, rfl, rfl, rfl, e0 20 (by decide)⟩
  ·rw [if_neg d2, if_neg d2]; exact ⟨rfl, rfl, rfl, rfl, fun _ => rfl⟩
 ·rw [if_neg c5, if_neg c5]; exact ⟨rfl, rfl, rfl, rfl, e0 20 (by decide)⟩
theorem Sh3.chk : ∀ (n p : Nat), s.size - p ≤ n → chkAt t (p + 3) = (chkAt s p).map (· + 3) := by
 intro n
 induction n with
 | zero =>
  intro p h
  rw [a1f s _ (by omega), a1f t _ (by rw [S.sz]; omega)]
  rfl
 | succ n ih =>
  intro p h
  by_cases hp : p < s.size
  ·have hw := N9 s p
   rw [a3P s p hp, a3P t _ (by rw [S.sz]; omega), S.dec]
   have hb : bad t (p + 3) ↔ bad s p := by unfold bad; rw [S.dec]
   by_cases c : bad s p
   ·rw [if_pos c, if_pos (hb.2 c)]; rfl
   ·rw [if_neg c, if_neg (fun x => c (hb.1 x)), show p + 3 + (Utf8.decode s p).2 = p + (Utf8.decode s p).2 + 3 by omega]
    exact ih _ (by show s.size - (p + Go.Proofs.YthklmeihgmcljaaGreatDoor.wd s p) ≤ n; omega)
  ·rw [a1f s _ (by omega), a1f t _ (by rw [S.sz]; omega)]
   rfl
def ktn (k : Tk) : Int × ByteArray × Int := (k.kind, k.text, k.num)
theorem Sh3.tkF : ∀ (f g p x : Nat) (a b : Int × Int) (out out' : List Tk), s.size + 1 - p ≤ f → s.size + 1 - p ≤ g → p ≤ s.size → Go.Proofs.YthklmeihgmcljaaGreatDoor.sk t x = Go.Proofs.YthklmeihgmcljaaGreatDoor.sk s p + 3 → out'.map ktn = out.map ktn →
  (tkF t g x b out').1.map ktn = (tkF s f p a out).1.map ktn ∧ (tkF t g x b out').2.2 = (tkF s f p a out).2.2 := by
 intro f
 induction f with
 | zero => intro g p x a b out out' h _ hp; omega
 | succ f ih =>
  intro g p x a b out out' hf hg hp hx ho
  have hg1 : 1 ≤ g := by clear hx; omega
  obtain ⟨g, rfl⟩ : ∃ h, g = h + 1 := ⟨g - 1, (Nat.sub_add_cancel hg1).symm⟩
  have hk := b0m hp
  have hlen : out'.length = out.length := by
   have := congrArg List.length ho
   rw [List.length_map, List.length_map] at this
   exact this
  rw [Go.Proofs.YthklmeihgmcljaaGreatDoor.tkF, Go.Proofs.YthklmeihgmcljaaGreatDoor.tkF, hx, S.sz, hlen]
  clear hx
  generalize Go.Proofs.YthklmeihgmcljaaGreatDoor.sk s p = y at hk ⊢
  obtain ⟨o1, o2, o3, o4, o5⟩ := S.one (y)
  by_cases c : ¬ y < s.size
  ·rw [if_pos c, if_pos (by omega)]
   exact ⟨by simp only [List.map_append, List.map_cons, List.map_nil, ktn, ho], rfl⟩
  rw [if_neg c, if_neg (by omega)]
  by_cases c2 : out.length = 32768
  ·rw [if_pos c2, if_pos c2]; exact ⟨rfl, rfl⟩
  rw [if_neg c2, if_neg c2]
  by_cases c3 : (oneO s (y)).err ≠ 0
  ·rw [if_pos c3, if_pos (by rw [o1]; exact c3)]; exact ⟨rfl, o1⟩
  rw [if_neg c3, if_neg (by rw [o1]; exact c3)]
  have c3' : (oneO s (y)).err = 0 := Classical.byContradiction c3
  have hst := a7D (s := s) (p := y) (by omega) c3'
  rw [o5 c3']
  refine ih g _ _ _ _ _ _ (by omega) (by omega) hst.2 (S.sk _) ?_
  simp only [List.map_append, List.map_cons, List.map_nil, ktn, ho, o2, o3, o4]
end
theorem c7p {s : ByteArray} (hs : s.size + 3 ≤ 65536) : (tkS (cmB ++ s)).1.map ktn = (tkS s).1.map ktn ∧ (tkS (cmB ++ s)).2.2 = (tkS s).2.2 := by
 have S := sh3 s
 have hd : Dr (cmB ++ s) 0 (35 :: 32 :: 10 :: s.data.toList) := by
  show (cmB ++ s).data.toList.drop 0 = _
  rw [ByteArray.data_append]
  simp
 generalize cmB ++ s = t at S hd
 have a1 : ¬ 65536 < t.size := by rw [S.sz]; omega
 have a2 : ¬ 65536 < s.size := by omega
 have a3 : s.size + 1 - 0 ≤ s.size + 1 := by omega
 have a4 : s.size + 1 - 0 ≤ t.size + 1 := by rw [S.sz]; omega
 obtain ⟨p0, _, h1⟩ := hd.cons
 obtain ⟨p1, _, h2⟩ := h1.cons
 obtain ⟨p2, _, _⟩ := h2.cons
 obtain ⟨r0, w0⟩ := hd.asc (by decide)
 obtain ⟨r1, w1⟩ := h1.asc (by decide)
 obtain ⟨r2, w2⟩ := h2.asc (by decide)
 have b0 : by8 t 0 = 35 := hd.by8
 have b1 : by8 t 1 = 32 := h1.by8
 have b2 : by8 t 2 = 10 := h2.by8
 have hc : chkAt t 0 = chkAt t 3 := by
  rw [chkN p0 (by rw [r0]; decide), w0, chkN p1 (by rw [r1]; decide), w1, chkN p2 (by rw [r2]; decide), w2]
 have hk : sk t 0 = sk s 0 + 3 := by
  rw [← S.sk 0, b0k p0 b0, a8t p0 (by rw [b0]; decide), a8t p1 (by rw [show by8 t (0 + 1) = 32 from b1]; decide), a7k (fun x => x.2 b2)]
  rw [a8Y p2 (by rw [show by8 t (0 + 1 + 1) = 10 from b2]; decide) (by rw [r2]; decide), w2]
 have hn := S.chk _ 0 (Nat.le_refl _)
 rw [Nat.zero_add, ← hc] at hn
 unfold tkS
 rw [if_neg a1, if_neg a2, hn]
 cases chkAt s 0 with
 | some n =>
  dsimp only [Option.map]
  exact ⟨rfl, rfl⟩
 | none => exact S.tkF (s.size + 1) (t.size + 1) 0 0 (1, 1) (1, 1) [] [] a3 a4 (Nat.zero_le _) hk rfl
end Go.Proofs.YthklmeihgmcljaaGreatDoor
