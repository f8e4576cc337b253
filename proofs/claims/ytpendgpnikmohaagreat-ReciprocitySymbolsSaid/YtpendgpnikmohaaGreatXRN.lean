/- The odd primes up to 3000: generators, and the law of quadratic reciprocity, by computation; Euler's criterion from it. No program in sight. -/
import Derived.Test.YtpendgpnikmohaaGreatXPN
set_option maxRecDepth 1000000
set_option linter.unusedVariables false
namespace Go.AM
noncomputable section
def fB (n : Nat) (k : Nat → Bool) : Bool := Nat.rec (motive := fun _ => (Nat → Bool) → Bool) (fun k => k 0) (fun m _ k => k (Nat.succ m)) n k
theorem fB_eq (n : Nat) (k : Nat → Bool) : fB n k = k n := by cases n <;> rfl
def covB (g p n : Nat) : Nat → Nat → (Nat → Bool) → Bool := Nat.rec (motive := fun _ => Nat → Nat → (Nat → Bool) → Bool) (fun x m k => k m) (fun _ ih x m k => fB (Nat.mod (Nat.mul x g) p) fun x' => fB (Nat.lor m (Nat.shiftLeft 1 x)) fun m' => ih x' m' k) n
def okg (p g : Nat) : Bool := Bool.rec false (covB g p (Nat.sub p 1) 1 1 (fun m => Nat.beq m (Nat.sub (Nat.pow 2 p) 1))) (Nat.beq (Nat.mod (Nat.pow g (Nat.div (Nat.sub p 1) 2)) p) (Nat.sub p 1))
def bx (a b : Bool) : Bool := Bool.rec (Bool.not b) b a
def eN (a p : Nat) : Bool := Nat.beq (Nat.mod (Nat.pow a (Nat.div (Nat.sub p 1) 2)) p) 1
def q3 (p r : Nat) : Bool := Bool.rec false (Nat.beq (Nat.mod r 4) 3) (Nat.beq (Nat.mod p 4) 3)
def qr1 (p r : Nat) : Bool := bx (bx (eN p r) (eN r p)) (Bool.not (q3 p r))
def allg (l : List (Nat × Nat)) : Bool := List.rec (motive := fun _ => Bool) true (fun x _ ih => Bool.rec false ih (okg x.1 x.2)) l
def allq (p : Nat) (l : List (Nat × Nat)) : Bool := List.rec (motive := fun _ => Bool) true (fun x _ ih => Bool.rec false ih (Bool.rec (qr1 p x.1) true (Nat.beq p x.1))) l
def allqq (l m : List (Nat × Nat)) : Bool := List.rec (motive := fun _ => Bool) true (fun x _ ih => Bool.rec false ih (allq x.1 m)) l
def PL0 : List (Nat × Nat) := [(3, 2), (19, 2), (43, 3), (71, 7), (101, 2), (131, 2), (163, 2), (193, 5), (229, 6), (263, 5), (293, 2), (337, 10), (373, 2), (409, 21), (443, 2), (479, 13), (521, 3), (569, 3), (601, 7), (641, 3), (673, 5), (719, 11), (757, 2), (809, 3), (839, 11), (881, 3), (929, 3), (971, 6), (1013, 3), (1049, 3), (1091, 2), (1123, 2), (1181, 7), (1223, 5), (1277, 2), (1301, 2), (1361, 3), (1423, 3), (1451, 2), (1487, 5), (1531, 2), (1571, 2), (1609, 7), (1657, 11), (1699, 3), (1747, 2), (1789, 6), (1861, 2), (1889, 3), (1949, 2), (1997, 2), (2029, 2), (2083, 2), (2129, 3), (2161, 23), (2237, 2), (2273, 3), (2311, 3), (2357, 2), (2393, 3), (2441, 6), (2503, 3), (2551, 6), (2617, 5), (2663, 5), (2693, 2), (2729, 3), (2777, 3), (2819, 2), (2861, 2), (2917, 5), (2969, 3)]
def PL1 : List (Nat × Nat) := [(5, 2), (23, 5), (47, 5), (73, 5), (103, 5), (137, 3), (167, 5), (197, 2), (233, 3), (269, 2), (307, 5), (347, 2), (379, 2), (419, 2), (449, 3), (487, 3), (523, 2), (571, 3), (607, 3), (643, 11), (677, 2), (727, 5), (761, 6), (811, 3), (853, 2), (883, 2), (937, 5), (977, 3), (1019, 2), (1051, 7), (1093, 5), (1129, 11), (1187, 2), (1229, 2), (1279, 3), (1303, 6), (1367, 5), (1427, 2), (1453, 2), (1489, 14), (1543, 5), (1579, 3), (1613, 3), (1663, 3), (1709, 3), (1753, 7), (1801, 11), (1867, 2), (1901, 2), (1951, 3), (1999, 3), (2039, 7), (2087, 5), (2131, 2), (2179, 7), (2239, 3), (2281, 7), (2333, 2), (2371, 2), (2399, 11), (2447, 5), (2521, 17), (2557, 2), (2621, 2), (2671, 7), (2699, 2), (2731, 3), (2789, 2), (2833, 5), (2879, 7), (2927, 5), (2971, 10)]
def PL2 : List (Nat × Nat) := [(7, 3), (29, 2), (53, 2), (79, 3), (107, 2), (139, 2), (173, 2), (199, 3), (239, 7), (271, 6), (311, 17), (349, 2), (383, 5), (421, 2), (457, 13), (491, 2), (541, 2), (577, 5), (613, 2), (647, 5), (683, 5), (733, 6), (769, 11), (821, 2), (857, 3), (887, 5), (941, 2), (983, 5), (1021, 10), (1061, 2), (1097, 3), (1151, 17), (1193, 3), (1231, 3), (1283, 2), (1307, 2), (1373, 2), (1429, 6), (1459, 3), (1493, 2), (1549, 2), (1583, 5), (1619, 2), (1667, 2), (1721, 3), (1759, 6), (1811, 6), (1871, 14), (1907, 2), (1973, 2), (2003, 5), (2053, 2), (2089, 7), (2137, 10), (2203, 5), (2243, 2), (2287, 19), (2339, 2), (2377, 5), (2411, 6), (2459, 2), (2531, 2), (2579, 2), (2633, 3), (2677, 2), (2707, 2), (2741, 2), (2791, 6), (2837, 2), (2887, 5), (2939, 2), (2999, 17)]
def PL3 : List (Nat × Nat) := [(11, 2), (31, 3), (59, 2), (83, 2), (109, 6), (149, 2), (179, 2), (211, 2), (241, 7), (277, 5), (313, 10), (353, 3), (389, 2), (431, 7), (461, 2), (499, 7), (547, 2), (587, 2), (617, 3), (653, 2), (691, 3), (739, 3), (773, 2), (823, 3), (859, 2), (907, 2), (947, 2), (991, 6), (1031, 14), (1063, 3), (1103, 5), (1153, 5), (1201, 11), (1237, 2), (1289, 6), (1319, 13), (1381, 2), (1433, 3), (1471, 6), (1499, 2), (1553, 3), (1597, 11), (1621, 2), (1669, 2), (1723, 3), (1777, 5), (1823, 5), (1873, 10), (1913, 3), (1979, 2), (2011, 3), (2063, 5), (2099, 2), (2141, 2), (2207, 5), (2251, 7), (2293, 2), (2341, 7), (2381, 3), (2417, 3), (2467, 2), (2539, 2), (2591, 7), (2647, 3), (2683, 2), (2711, 7), (2749, 6), (2797, 2), (2843, 2), (2897, 3), (2953, 13)]
def PL4 : List (Nat × Nat) := [(13, 2), (37, 2), (61, 2), (89, 3), (113, 3), (151, 6), (181, 2), (223, 3), (251, 6), (281, 3), (317, 2), (359, 7), (397, 5), (433, 5), (463, 3), (503, 5), (557, 2), (593, 3), (619, 2), (659, 2), (701, 2), (743, 5), (787, 2), (827, 2), (863, 5), (911, 17), (953, 3), (997, 7), (1033, 5), (1069, 6), (1109, 2), (1163, 5), (1213, 2), (1249, 7), (1291, 2), (1321, 13), (1399, 13), (1439, 7), (1481, 3), (1511, 11), (1559, 19), (1601, 3), (1627, 3), (1693, 2), (1733, 2), (1783, 10), (1831, 3), (1877, 2), (1931, 2), (1987, 2), (2017, 5), (2069, 2), (2111, 7), (2143, 3), (2213, 2), (2267, 2), (2297, 5), (2347, 3), (2383, 5), (2423, 5), (2473, 5), (2543, 5), (2593, 7), (2657, 3), (2687, 5), (2713, 5), (2753, 3), (2801, 3), (2851, 2), (2903, 5), (2957, 2)]
def PL5 : List (Nat × Nat) := [(17, 3), (41, 6), (67, 2), (97, 5), (127, 3), (157, 5), (191, 19), (227, 2), (257, 3), (283, 3), (331, 3), (367, 6), (401, 3), (439, 15), (467, 2), (509, 2), (563, 2), (599, 7), (631, 3), (661, 2), (709, 2), (751, 3), (797, 2), (829, 2), (877, 2), (919, 7), (967, 5), (1009, 11), (1039, 3), (1087, 3), (1117, 2), (1171, 2), (1217, 3), (1259, 2), (1297, 10), (1327, 3), (1409, 3), (1447, 3), (1483, 2), (1523, 2), (1567, 3), (1607, 5), (1637, 2), (1697, 3), (1741, 2), (1787, 2), (1847, 5), (1879, 6), (1933, 5), (1993, 5), (2027, 2), (2081, 3), (2113, 5), (2153, 3), (2221, 2), (2269, 2), (2309, 2), (2351, 13), (2389, 2), (2437, 2), (2477, 2), (2549, 2), (2609, 3), (2659, 2), (2689, 19), (2719, 3), (2767, 3), (2803, 2), (2857, 11), (2909, 2), (2963, 2)]
def PL : List (Nat × Nat) := PL0 ++ PL1 ++ PL2 ++ PL3 ++ PL4 ++ PL5
theorem gen0 : allg PL0 = true := by decide +kernel
theorem gen1 : allg PL1 = true := by decide +kernel
theorem gen2 : allg PL2 = true := by decide +kernel
theorem gen3 : allg PL3 = true := by decide +kernel
theorem gen4 : allg PL4 = true := by decide +kernel
theorem gen5 : allg PL5 = true := by decide +kernel
theorem qr0x0 : allqq PL0 PL0 = true := by decide +kernel
theorem qr0x1 : allqq PL0 PL1 = true := by decide +kernel
theorem qr0x2 : allqq PL0 PL2 = true := by decide +kernel
theorem qr0x3 : allqq PL0 PL3 = true := by decide +kernel
theorem qr0x4 : allqq PL0 PL4 = true := by decide +kernel
theorem qr0x5 : allqq PL0 PL5 = true := by decide +kernel
theorem qr1x1 : allqq PL1 PL1 = true := by decide +kernel
theorem qr1x2 : allqq PL1 PL2 = true := by decide +kernel
theorem qr1x3 : allqq PL1 PL3 = true := by decide +kernel
theorem qr1x4 : allqq PL1 PL4 = true := by decide +kernel
theorem qr1x5 : allqq PL1 PL5 = true := by decide +kernel
theorem qr2x2 : allqq PL2 PL2 = true := by decide +kernel
theorem qr2x3 : allqq PL2 PL3 = true := by decide +kernel
theorem qr2x4 : allqq PL2 PL4 = true := by decide +kernel
theorem qr2x5 : allqq PL2 PL5 = true := by decide +kernel
theorem qr3x3 : allqq PL3 PL3 = true := by decide +kernel
theorem qr3x4 : allqq PL3 PL4 = true := by decide +kernel
theorem qr3x5 : allqq PL3 PL5 = true := by decide +kernel
theorem qr4x4 : allqq PL4 PL4 = true := by decide +kernel
theorem qr4x5 : allqq PL4 PL5 = true := by decide +kernel
theorem qr5x5 : allqq PL5 PL5 = true := by decide +kernel
def isC (n : Nat) : Bool := [2, 3, 5, 7, 11, 13, 17, 19, 23, 29, 31, 37, 41, 43, 47, 53].any fun d => Nat.beq (n % d) 0 && Nat.blt d n
theorem allC : ((List.range 3001).all fun n => Nat.blt n 3 || isC n || PL.any fun x => Nat.beq x.1 n) = true := by decide +kernel
end
end Go.AM
