/-
  SHA-256, plain: the same operations as the machine's, on integers.
-/
import Derived.Test.YtjhmjdgdgpgcdaaDoorSumQ
namespace Go.Sl
def w32 (z : Int) : Int := IntKind.u32.wrap z
def or32 (a b : Int) : Int := bits .or .u32 a b
def xo32 (a b : Int) : Int := bits .xor .u32 a b
def an32 (a b : Int) : Int := bits .and .u32 a b
def nt32 (a : Int) : Int := bits .xor .u32 4294967295 a
def shl32 (x k : Int) : Int := IntKind.u32.wrap (x * 2 ^ k.toNat)
def shrI (x k : Int) : Int := x / 2 ^ k.toNat
theorem or32_comm (a b : Int) : bits .or .u32 a b = bits .or .u32 b a := by
  show IntKind.u32.wrap (((BitVec.ofInt 32 a ||| BitVec.ofInt 32 b).toNat : Nat) : Int) = IntKind.u32.wrap (((BitVec.ofInt 32 b ||| BitVec.ofInt 32 a).toNat : Nat) : Int)
  rw [BitVec.or_comm]
/-- Turned to the right. -/
def rot (x k : Int) : Int := or32 (shrI x k) (shl32 x (32 - k))
theorem w8_32 (b : UInt8) : IntKind.u32.wrap (b.toNat : Int) = (b.toNat : Int) := IntWalk.u32_in _ (by have := b.toNat_lt; omega)
/-- A word of a block. -/
def word32 (b : List UInt8) (t : Nat) : Int := or32 (or32 (or32 (shl32 (gb b (4 * t)).toNat 24) (shl32 (gb b (4 * t + 1)).toNat 16)) (shl32 (gb b (4 * t + 2)).toNat 8)) (gb b (4 * t + 3)).toNat
def sg (x : Int) (p q r : Int) : Int := xo32 (xo32 (rot x p) (rot x q)) (shrI x r)
def sG (x : Int) (p q r : Int) : Int := xo32 (xo32 (rot x p) (rot x q)) (rot x r)
def wnext (w : List Int) (t : Nat) : Int := w32 (w32 (w32 (w.getD (t - 16) 0 + sg (w.getD (t - 15) 0) 7 18 3) + w.getD (t - 7) 0) + sg (w.getD (t - 2) 0) 17 19 10)
/-- A block's words, so many of them. -/
def wsN (b : List UInt8) : Nat → List Int
  | 0 => []
  | n + 1 => wsN b n ++ [if n < 16 then word32 b n else wnext (wsN b n) n]
theorem wsN_length (b : List UInt8) : ∀ n, (wsN b n).length = n
  | 0 => rfl
  | n + 1 => by rw [wsN, List.length_append, wsN_length b n]; rfl
structure S8 where
  a : Int
  b : Int
  c : Int
  d : Int
  e : Int
  f : Int
  g : Int
  h : Int
def S8.t1 (s : S8) (k x : Int) : Int := w32 (w32 (w32 (w32 (s.h + sG s.e 6 11 25) + xo32 (an32 s.e s.f) (an32 (nt32 s.e) s.g)) + k) + x)
def S8.t2 (s : S8) : Int := w32 (sG s.a 2 13 22 + xo32 (xo32 (an32 s.a s.b) (an32 s.a s.c)) (an32 s.b s.c))
def S8.step (s : S8) (k x : Int) : S8 := ⟨w32 (s.t1 k x + s.t2), s.a, s.b, s.c, w32 (s.d + s.t1 k x), s.e, s.f, s.g⟩
def S8.mix (h : S8) (K ws : List Int) : Nat → S8
  | 0 => h
  | n + 1 => (S8.mix h K ws n).step (K.getD n 0) (ws.getD n 0)
def S8.add (h v : S8) : S8 := ⟨w32 (h.a + v.a), w32 (h.b + v.b), w32 (h.c + v.c), w32 (h.d + v.d), w32 (h.e + v.e), w32 (h.f + v.f), w32 (h.g + v.g), w32 (h.h + v.h)⟩
def S8.l (s : S8) : List Int := [s.a, s.b, s.c, s.d, s.e, s.f, s.g, s.h]
abbrev u32s (l : List Int) : List Value := l.map (Value.int .u32)
def shaK : List Int := [1116352408, 1899447441, 3049323471, 3921009573, 961987163, 1508970993, 2453635748, 2870763221, 3624381080, 310598401, 607225278, 1426881987, 1925078388, 2162078206, 2614888103, 3248222580, 3835390401, 4022224774, 264347078, 604807628, 770255983, 1249150122, 1555081692, 1996064986, 2554220882, 2821834349, 2952996808, 3210313671, 3336571891, 3584528711, 113926993, 338241895, 666307205, 773529912, 1294757372, 1396182291, 1695183700, 1986661051, 2177026350, 2456956037, 2730485921, 2820302411, 3259730800, 3345764771, 3516065817, 3600352804, 4094571909, 275423344, 430227734, 506948616, 659060556, 883997877, 958139571, 1322822218, 1537002063, 1747873779, 1955562222, 2024104815, 2227730452, 2361852424, 2428436474, 2756734187, 3204031479, 3329325298]
def sha0 : S8 := ⟨1779033703, 3144134277, 1013904242, 2773480762, 1359893119, 2600822924, 528734635, 1541459225⟩
def blk (all : List UInt8) (k : Nat) : List UInt8 := (all.drop (64 * k)).take 64
def shaStep (h : S8) (b : List UInt8) : S8 := h.add (h.mix shaK (wsN b 64) 64)
def shaH (all : List UInt8) : Nat → S8
  | 0 => sha0
  | k + 1 => shaStep (shaH all k) (blk all k)
/-- The number of bits, in eight bytes; so many of them. -/
def lenB (n : Nat) : Nat → List UInt8
  | 0 => []
  | k + 1 => lenB n k ++ [UInt8.ofNat (n / 2 ^ (56 - 8 * k))]
theorem lenB_length (n : Nat) : ∀ k, (lenB n k).length = k
  | 0 => rfl
  | k + 1 => by rw [lenB, List.length_append, lenB_length n k]; rfl
def padZ (n : Nat) : Nat := (119 - n % 64) % 64
def padL (b : List UInt8) : List UInt8 := b ++ [128] ++ List.replicate (padZ b.length) 0 ++ lenB (b.length * 8) 8
theorem padL_length (b : List UInt8) : (padL b).length = b.length + 9 + padZ b.length := by
  simp only [padL, List.length_append, lenB_length, List.length_replicate, List.length_cons, List.length_nil]; omega
theorem padL_64 (b : List UInt8) : (padL b).length % 64 = 0 := by rw [padL_length, padZ]; omega
def pairI (x y : Int) : Int := bits .or .u64 (IntKind.u64.wrap (IntKind.u64.wrap x * 2 ^ (32 : Int).toNat)) (IntKind.u64.wrap y)
theorem pairI_in (x y : Int) : 0 ≤ pairI x y ∧ pairI x y < 18446744073709551616 := by
  unfold pairI
  show 0 ≤ IntKind.u64.wrap _ ∧ IntKind.u64.wrap _ < _
  rw [IntKind.wrap_u64]; omega
def pairN (x y : Int) : Nat := (pairI x y).toNat
theorem pairN_eq (x y : Int) : ((pairN x y : Nat) : Int) = pairI x y := by have := pairI_in x y; unfold pairN; omega
def S8.fs (h : S8) : Fs := ⟨pairN h.a h.b, pairN h.c h.d, pairN h.e h.f, pairN h.g h.h⟩
def shaF (b : List UInt8) : Fs := (shaH (padL b) ((padL b).length / 64)).fs
theorem shaF_ok (b : List UInt8) : (shaF b).Ok := by
  have h (x y : Int) : pairN x y < 18446744073709551616 := by have := pairI_in x y; unfold pairN; omega
  exact ⟨h _ _, h _ _, h _ _, h _ _⟩
end Go.Sl
