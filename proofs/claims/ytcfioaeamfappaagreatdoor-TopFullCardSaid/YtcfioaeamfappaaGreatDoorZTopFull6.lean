/-
  Texts put together (6).
-/
import Derived.Test.YtcfioaeamfappaaGreatDoorZTopFull5
namespace Go.Sl
def x5 (z:Int):Int:=IntKind.u32.wrap z
def FR (a b:Int):Int:=bits .or .u32 a b
def FT (a b:Int):Int:=bits .xor .u32 a b
def ND (a b:Int):Int:=bits .and .u32 a b
def acY (a:Int):Int:=bits .xor .u32 4294967295 a
def uI (x k:Int):Int:=IntKind.u32.wrap (x*2 ^ k.toNat)
def aaZ (x k:Int):Int:=x / 2 ^ k.toNat
theorem JK (a b:Int):bits .or .u32 a b=bits .or .u32 b a:=by
 show IntKind.u32.wrap (((BitVec.ofInt 32 a ||| BitVec.ofInt 32 b).toNat:Nat):Int)=IntKind.u32.wrap (((BitVec.ofInt 32 b ||| BitVec.ofInt 32 a).toNat:Nat):Int)
 rw [BitVec.or_comm]
def rot (x k:Int):Int:=FR (aaZ x k) (uI x (32 - k))
theorem H9 (b:UInt8):IntKind.u32.wrap (b.toNat:Int)=(b.toNat:Int):=IntWalk.u32_in _ (by have:=b.toNat_lt;omega)
def zt (b:List UInt8)(t:Nat):Int:=FR (FR (FR (uI (gb b (4*t)).toNat 24) (uI (gb b (4*t+1)).toNat 16)) (uI (gb b (4*t+2)).toNat 8)) (gb b (4*t+3)).toNat
def sg (x:Int)(p q r:Int):Int:=FT (FT (rot x p) (rot x q)) (aaZ x r)
def sG (x:Int)(p q r:Int):Int:=FT (FT (rot x p) (rot x q)) (rot x r)
def VY (w:List Int)(t:Nat):Int:=x5 (x5 (x5 (w.getD (t - 16) 0+sg (w.getD (t - 15) 0) 7 18 3)+w.getD (t - 7) 0)+sg (w.getD (t - 2) 0) 17 19 10)
def uJ (b:List UInt8):Nat->List Int
 | 0=>[]
 | n+1=>uJ b n++[if n<16 then zt b n else VY (uJ b n) n]
theorem gN (b:List UInt8):∀n,(uJ b n).length=n
 | 0=>rfl
 | n+1=>by rw [uJ,List.length_append,gN b n];rfl
structure S8 where
 a:Int
 b:Int
 c:Int
 d:Int
 e:Int
 f:Int
 g:Int
 h:Int
def S8.t1 (s:S8)(k x:Int):Int:=x5 (x5 (x5 (x5 (s.h+sG s.e 6 11 25)+FT (ND s.e s.f) (ND (acY s.e) s.g))+k)+x)
def S8.t2 (s:S8):Int:=x5 (sG s.a 2 13 22+FT (FT (ND s.a s.b) (ND s.a s.c)) (ND s.b s.c))
def S8.step (s:S8)(k x:Int):S8:=⟨x5 (s.t1 k x+s.t2),s.a,s.b,s.c,x5 (s.d+s.t1 k x),s.e,s.f,s.g⟩
def S8.mix (h:S8)(K ws:List Int):Nat->S8
 | 0=>h
 | n+1=>(S8.mix h K ws n).step (K.getD n 0) (ws.getD n 0)
def S8.add (h v:S8):S8:=⟨x5 (h.a+v.a),x5 (h.b+v.b),x5 (h.c+v.c),x5 (h.d+v.d),x5 (h.e+v.e),x5 (h.f+v.f),x5 (h.g+v.g),x5 (h.h+v.h)⟩
def S8.l (s:S8):List Int:=[s.a,s.b,s.c,s.d,s.e,s.f,s.g,s.h]
abbrev fG (l:List Int):List Value:=l.map (Value.int .u32)
def q9:List Int:=[1116352408,1899447441,3049323471,3921009573,961987163,1508970993,2453635748,2870763221,3624381080,310598401,607225278,1426881987,1925078388,2162078206,2614888103,3248222580,3835390401,4022224774,264347078,604807628,770255983,1249150122,1555081692,1996064986,2554220882,2821834349,2952996808,3210313671,3336571891,3584528711,113926993,338241895,666307205,773529912,1294757372,1396182291,1695183700,1986661051,2177026350,2456956037,2730485921,2820302411,3259730800,3345764771,3516065817,3600352804,4094571909,275423344,430227734,506948616,659060556,883997877,958139571,1322822218,1537002063,1747873779,1955562222,2024104815,2227730452,2361852424,2428436474,2756734187,3204031479,3329325298]
def acZ:S8:=⟨1779033703,3144134277,1013904242,2773480762,1359893119,2600822924,528734635,1541459225⟩
def fN (all:List UInt8)(k:Nat):List UInt8:=(all.drop (64*k)).take 64
def SK (h:S8)(b:List UInt8):S8:=h.add (h.mix q9 (uJ b 64) 64)
def NF (all:List UInt8):Nat->S8
 | 0=>acZ
 | k+1=>SK (NF all k) (fN all k)
def uK (n:Nat):Nat->List UInt8
 | 0=>[]
 | k+1=>uK n k++[UInt8.ofNat (n / 2 ^ (56 - 8*k))]
theorem si (n:Nat):∀k,(uK n k).length=k
 | 0=>rfl
 | k+1=>by rw [uK,List.length_append,si n k];rfl
def lj (n:Nat):Nat:=(119 - n % 64) % 64
def fO (b:List UInt8):List UInt8:=b++[128]++List.replicate (lj b.length) 0++uK (b.length*8) 8
theorem sj (b:List UInt8):(fO b).length=b.length+9+lj b.length:=by
 simp only [fO,List.length_append,si,List.length_replicate,List.length_cons,List.length_nil];omega
theorem SN (b:List UInt8):(fO b).length % 64=0:=by rw [sj,lj];omega
def BU (x y:Int):Int:=bits .or .u64 (IntKind.u64.wrap (IntKind.u64.wrap x*2 ^ (32:Int).toNat)) (IntKind.u64.wrap y)
theorem BV (x y:Int):0<=BU x y/\BU x y<18446744073709551616:=by
 unfold BU
 show 0<=IntKind.u64.wrap _/\IntKind.u64.wrap _<_
 rw [IntKind.wrap_u64];omega
def pB (x y:Int):Nat:=(BU x y).toNat
theorem NG (x y:Int):((pB x y:Nat):Int)=BU x y:=by have:=BV x y;unfold pB;omega
def S8.fs (h:S8):Fs:=⟨pB h.a h.b,pB h.c h.d,pB h.e h.f,pB h.g h.h⟩
def NH (b:List UInt8):Fs:=(NF (fO b) ((fO b).length / 64)).fs
theorem SO (b:List UInt8):(NH b).Ok:=by
 have h (x y:Int):pB x y<18446744073709551616:=by have:=BV x y;unfold pB;omega
 exact ⟨h _ _,h _ _,h _ _,h _ _⟩
theorem aa0 {k:Int}(h:1<=k/\k<=31):bits .and .u64 (18446744073709551616 - k) 31=32 - k:=by
 have key:∀n:_root_.Fin 32,1<=n.val->bits .and .u64 (18446744073709551616 - (n.val:Int)) 31=32 - (n.val:Int):=by decide +kernel
 obtain ⟨n,rfl⟩:∃n:Nat,k=n:=⟨k.toNat,by omega⟩
 exact key ⟨n,by omega⟩ (by show 1<=n;omega)
theorem Ia (b:List UInt8)(n j:Nat)(r:List Value)(h:j<n):(fG (uJ b n)++r)[j]? = some (.int .u32 ((uJ b n).getD j 0)):=by
 have hl:=gN b n
 rw [List.getElem?_append_left (by rw [List.length_map];omega),List.getElem?_map,List.getElem?_eq_getElem oZ,List.getD,List.getElem?_eq_getElem oZ];rfl
theorem Ib (b:List UInt8)(n:Nat):fG (uJ b (n+1))=fG (uJ b n)++[.int .u32 (if n<16 then zt b n else VY (uJ b n) n)]:=by rw [uJ,fG,List.map_append];rfl
theorem zu (l:List Int){j:Nat}(h:j<l.length):(fG l)[j]? = some (.int .u32 (l.getD j 0)):=by
 rw [List.getElem?_map,List.getElem?_eq_getElem h,List.getD,List.getElem?_eq_getElem h];rfl
theorem NI (b:List UInt8){i:Nat}(h:4*i+3<b.length):zt b i=FR (FR (FR (uI (b[4*i]'oZ).toNat 24) (uI (b[4*i+1]'oZ).toNat 16)) (uI (b[4*i+2]'oZ).toNat 8)) (b[4*i+3]).toNat:=by
 unfold zt;rw [sh b oZ,sh b oZ,sh b oZ,sh b h]
def rb (h v:S8)(i:Nat):List Int:=(List.range 8).map fun j=>if j<i then x5 (h.l.getD j 0+v.l.getD j 0) else h.l.getD j 0
theorem pC (h v:S8)(i:Nat):(rb h v i).length=8:=by simp [rb]
theorem SP (h v:S8){i:Nat}(hi:i<8):(rb h v i).getD i 0=h.l.getD i 0:=by
 have:i<(rb h v i).length:=by rw [pC];exact hi
 rw [List.getD,List.getElem?_eq_getElem this]
 simp [rb]
theorem NJ (h v:S8){i:Nat}(hi:i<8):(fG (rb h v i)).set i (.int .u32 (x5 (h.l.getD i 0+v.l.getD i 0)))=fG (rb h v (i+1)):=by
 apply List.ext_getElem?
 intro j
 rw [List.getElem?_set,List.length_map,pC]
 by_cases hj:i=j
 ·subst hj;simp [rb,hi]
 ·rw [if_neg hj]
  simp only [fG,List.getElem?_map,rb]
  by_cases h8:j<8
  ·rw [List.getElem?_range h8]
   simp only [Option.map_some]
   have:(j<i)↔(j<i+1):=by omega
   simp only [this]
  ·rw [List.getElem?_eq_none (l:=List.range 8) (by simp;omega)];rfl
theorem NK (h v:S8):rb h v 8=(h.add v).l:=rfl
theorem NM:q9.length=64:=rfl
theorem NN (s:S8){i:Nat}(h:i<8):(fG s.l)[i]? = some (.int .u32 (s.l.getD i 0)):=zu s.l h
theorem JL (n k:Nat):uK n (k+1)=uK n k++[UInt8.ofNat (n / 2 ^ (56 - 8*k))]:=rfl
theorem FU (all:List UInt8){k:Nat}(h:64*k+64<=all.length):(fN all k).length=64:=by rw [fN,List.length_take,List.length_drop];omega
theorem NO (b:List UInt8)(z:Nat):ak (b++[128]++List.replicate (z+1) 0)=ak (b++[128]++List.replicate z 0)++[.int .u8 0]:=by
 rw [List.replicate_succ',<-List.append_assoc,aE];rfl
def BW (b:List UInt8):List UInt8:=b++[128]++List.replicate (lj b.length) 0
theorem BX (b:List UInt8):(BW b).length=b.length+1+lj b.length:=by simp [BW];omega
theorem NP (b:List UInt8):BW b++uK (b.length*8) 8=fO b:=rfl
theorem NQ (all:List UInt8)(k:Nat):((ak (all.drop (64*k))).drop (0*1)).take ((64 - 0)*1)=ak (fN all k):=by simp [fN,aL]
theorem JM (all:List UInt8)(k n:Nat)(h:all.length<=n+64*k+64):((ak (all.drop (64*k))).drop (64*1)).take (n*1)=ak (all.drop (64*(k+1))):=by
 rw [aY,aL,List.drop_drop,List.take_of_length_le (by rw [List.length_drop];omega),show 64*k+64*1=64*(k+1) by omega]
end Go.Sl
namespace Go.Proofs.YtcfioaeamfappaaGreatDoor
open Go.Sl
set_option maxRecDepth 10000
theorem xk (x k:Int)(hk:1<=k/\k<=31):Ct 291 [.int .u32 x,.int .i64 k] [] fun u Bs=>u = .int .u32 (rot x k)/\Bs=[]:=by
 have h1:IntKind.i64.wrap (-k) = -k:=IntWalk.i64_in _ oZ
 have h2:IntKind.u64.wrap (-k)=18446744073709551616 - k:=by rw [IntKind.wrap_u64];omega
 have h3:=aa0 hk
 have h4:IntKind.u64.wrap (32 - (32 - k))=k:=by rw [IntKind.wrap_u64];omega
 have h5:=JK (IntKind.u32.wrap (x*2 ^ (32 - k).toNat)) (x / 2 ^ k.toNat)
 refine st Tryz.func291 fun w0 => ?_
 refine ge ?_
 refine gz ?_
 exact fin ⟨rfl,rfl⟩ aa
theorem FV (b:List UInt8)(hl:b.length=64):Ct 276 [.agg (ak b).toArray] [] fun u Bs=>u = .agg (fG (uJ b 64)).toArray/\Bs=[]:=by
 have cV:=ai b
 refine st Tryz.func276 fun w0 => ?_
 refine ga ?_;intro b1
 refine ga ?_;intro b2
 refine ga ?_;intro b3
 refine gl [1,2,3] (fun i:Nat=>[(8,.int .i64 i)]) (fun i=>[[(b3,av (fG (uJ b i)++List.replicate (64 - i) (.int .u32 0)) 364)]]) (fun i=>i<=16) (fun i=>16 - i) 0 oZ ?_
 intro i hi
 refine gi ?_ ?_ <;> intro bh
 ·have FW:=gN b i
  have jg:i<16:=by omega
  have x0:b[4*i]? = some _:=List.getElem?_eq_getElem oZ
  have x1:b[4*i+1]? = some _:=List.getElem?_eq_getElem oZ
  have x2:b[4*i+2]? = some _:=List.getElem?_eq_getElem oZ
  have x3:b[4*i+3]? = some _:=List.getElem?_eq_getElem oZ
  have y0:=H9 b[4*i]
  have y1:=H9 b[4*i+1]
  have y2:=H9 b[4*i+2]
  have y3:=H9 b[4*i+3]
  have cu:=Ib b i
  rw [if_pos jg,NI b oZ] at cu
  refine gd [0,4,8,12,16,20,24,28,32,36,40,44,48,52,56,60,64,68,72,76,80,84,88,92,96,100,104,108,112,116,120,127] ?_
  refine gn ?_
  rw [qY (fG (uJ b i)) 64 (.int .u32 0) _ i (by rw [List.length_map,FW]) oZ]
  exact ⟨i+1,by omega,by omega,aq,_,by rw [cu];exact aa⟩
 ·obtain rfl:i=16:=by omega
  refine gl [2,3] (fun i:Nat=>[(5,.int .i64 i)]) (fun i=>[[(b3,av (fG (uJ b i)++List.replicate (64 - i) (.int .u32 0)) 364)]]) (fun i=>16<=i/\i<=64) (fun i=>64 - i) 16 oZ ?_
  rintro i ⟨h16,hi⟩
  refine gi ?_ ?_ <;> intro bh
  ·have FW:=gN b i
   have jg:¬i<16:=by omega
   have x15:=Ia b i (i - 15) (List.replicate (64 - i) (.int .u32 0)) oZ
   have x2:=Ia b i (i - 2) (List.replicate (64 - i) (.int .u32 0)) oZ
   have x16:=Ia b i (i - 16) (List.replicate (64 - i) (.int .u32 0)) oZ
   have x7:=Ia b i (i - 7) (List.replicate (64 - i) (.int .u32 0)) oZ
   have cu:=Ib b i
   rw [if_neg jg] at cu
   refine gd [0,4,8,12,16,20,28,40,44,56,60,64,68,76,84,96,100,25,33,36,48,52,72,81,89,92,104,108,112,119] ?_
   refine gc (xk ((uJ b i).getD (i - 15) 0) 7 oZ) ?_
   rintro _ _ ⟨rfl,rfl⟩
   refine gc (xk ((uJ b i).getD (i - 15) 0) 18 oZ) ?_
   rintro _ _ ⟨rfl,rfl⟩
   refine gc (xk ((uJ b i).getD (i - 2) 0) 17 oZ) ?_
   rintro _ _ ⟨rfl,rfl⟩
   refine gc (xk ((uJ b i).getD (i - 2) 0) 19 oZ) ?_
   rintro _ _ ⟨rfl,rfl⟩
   refine gn ?_
   rw [qY (fG (uJ b i)) 64 (.int .u32 0) _ i (by rw [List.length_map,FW]) oZ]
   exact ⟨i+1,by omega,by omega,aq,_,by rw [cu];exact aa⟩
  ·obtain rfl:i=64:=by omega
   have zj:(fG (uJ b 64)).length=64:=by rw [List.length_map,gN]
   rw [Nat.sub_self,List.replicate_zero,List.append_nil]
   generalize uJ b 64=ws at zj ⊢
   refine gz ?_
   exact fin ⟨rfl,rfl⟩ aa
abbrev gK (T:TypeId)(fr:Nat×Nat):Chunk:=[(0,.cells (fG q9).toArray T fr)]
theorem SQ (T:TypeId)(fr:Nat×Nat)(s0:S8)(ws:List Int)(hw:ws.length=64):Ct 275 [.agg (fG s0.l).toArray,.agg (fG ws).toArray] [gK T fr] fun u Bs=>u = .agg (fG (s0.add (s0.mix q9 ws 64)).l).toArray/\Bs=[gK T fr]:=by
 have zj:(fG ws).length=64:=by rw [List.length_map,hw]
 refine st Tryz.func275 fun w0 => ?_
 refine ga ?_;intro b2
 refine ga ?_;intro b3
 refine ga ?_;intro b4
 refine gl [2,4,35] (fun ((i,s):Nat×S8)=>[(36,.int .i64 i),(5,.int .u32 s.a),(6,.int .u32 s.b),(7,.int .u32 s.c),(8,.int .u32 s.d),(9,.int .u32 s.e),(10,.int .u32 s.f),(11,.int .u32 s.g),(12,.int .u32 s.h)]) (fun _=>[]) (fun (i,s)=>i<=64/\s=S8.mix s0 q9 ws i) (fun (i,_)=>64 - i) (0,s0) ⟨by omega,rfl⟩ ?_
 rintro ⟨i,s⟩ ⟨hi,hs⟩
 refine gi ?_ ?_ <;> intro bh
 ·have x1:=zu ws (j:=i) oZ
  have x2:=zu q9 (j:=i) (by rw [NM];omega)
  refine gd [0,4,12,24,40,44,48,52,56,60,64,68,76,80,84,92,9,17,20,29,32,36,72,88,96,100] ?_
  refine gc (xk s.e 6 oZ) ?_
  rintro _ _ ⟨rfl,rfl⟩
  refine gc (xk s.e 11 oZ) ?_
  rintro _ _ ⟨rfl,rfl⟩
  refine gc (xk s.e 25 oZ) ?_
  rintro _ _ ⟨rfl,rfl⟩
  refine gc (xk s.a 2 oZ) ?_
  rintro _ _ ⟨rfl,rfl⟩
  refine gc (xk s.a 13 oZ) ?_
  rintro _ _ ⟨rfl,rfl⟩
  refine gc (xk s.a 22 oZ) ?_
  rintro _ _ ⟨rfl,rfl⟩
  refine gn ?_
  exact ⟨(i+1,s.step (q9.getD i 0) (ws.getD i 0)),⟨by omega,by rw [hs];rfl⟩,by simp only;omega,aq,_,aa⟩
 ·obtain rfl:i=64:=by omega
  refine gl [2,4,106] (fun i:Nat=>[(107,.int .i64 i)]) (fun i=>[[(b2,av (fG (rb s0 s i)) 362)]]) (fun i=>i<=8) (fun i=>8 - i) 0 oZ ?_
  intro i Rz
  refine gi ?_ ?_ <;> intro pD
  ·have hi8:i<8:=by omega
   have x1:=NN s hi8
   have x2:(fG (rb s0 s i))[i]? = some (.int .u32 (s0.l.getD i 0)):=by rw [zu _ (by rw [pC];omega),SP s0 s hi8]
   have hle:=pC s0 s i
   refine gn ?_
   rw [show (fG (rb s0 s i)).set i (.int .u32 (IntKind.u32.wrap (s0.l.getD i 0+s.l.getD i 0)))=_ from NJ s0 s hi8]
   exact ⟨i+1,by omega,by omega,aq,_,aa⟩
  ·obtain rfl:i=8:=by omega
   rw [NK,hs]
   refine gz ?_
   exact fin ⟨rfl,rfl⟩ aa
theorem zw (s:S8)(b3:Nat)(i:Nat)(hi:i+1<8):Ct 277 [.int .i64 i,ptr b3] [[(b3,av (fG s.l) 362)]] fun u Bs=>u = .int .u64 (pB (s.l.getD i 0) (s.l.getD (i+1) 0))/\Bs=[[(b3,av (fG s.l) 362)]]:=by
 have x1:=NN s (i:=i) oZ
 have x2:=NN s (i:=i+1) oZ
 rw [NG]
 refine st Tryz.func277 fun w0 => ?_
 refine gd [0,4,8,12,16,20,24,28,32,36,40,44] ?_
 refine gz ?_
 exact fin ⟨rfl,rfl⟩ aa
theorem aa1 (T:TypeId)(fr:Nat×Nat)(D:Chunk)(v:Value)(b:List UInt8)(m:Nat)(hm:b.length=m)(hD:Rd D 1 v m (ak b))(cV:m<=1000000):Ct 246 [v] [gK T fr,D] fun u Bs=>u=(NH b).agg/\Bs=[gK T fr,D]:=by
 subst hm
 have hz0:lj b.length<64:=by unfold lj;omega
 have hz1:∀z,z<=lj b.length->((b.length+1+z) % 64=56↔z=lj b.length):=by unfold lj;omega
 have hHl:=BX b
 have hLl:=sj b
 have afm:=SN b
 have hmul:IntKind.u64.wrap ((b.length:Int)*8)=((b.length*8:Nat):Int):=by rw [IntWalk.u64_in _ oZ];omega
 obtain ⟨Ry,c0,rfl⟩:=hD.slice
 refine st Tryz.func246 fun w0 => ?_
 refine ga ?_;intro b2
 refine ga ?_;intro b3
 refine gp ?_;intro ad c C hC
 refine gm ?_;intro g
 refine gp ?_;intro ad c C qZ
 rw [show ak b++[.int .u8 128]=ak (b++[128]) from (aE b [128]).symm] at qZ
 refine gl [0,2,3] (fun ((z,ad,c,_):Nat×Option Addr×Nat×Chunk)=>[(4,.slice ad (b.length+1+z) c)]) (fun (_,_,_,C)=>[C]) (fun (z,ad,c,C)=>z<=lj b.length/\az C 5 1 (.slice ad (b.length+1+z) c) (b.length+1+z) (ak (b++[128]++List.replicate z 0))) (fun (z,_,_,_)=>lj b.length - z) (0,ad,c,C) ⟨by omega,by rw [List.replicate_zero,List.append_nil];exact qZ⟩ ?_
 rintro ⟨z,ad,c,C⟩ ⟨hz,hC⟩
 refine gi ?_ ?_ <;> intro bh
 ·have Ic:=hz1 z hz
  refine gm ?_;intro g
  refine gp ?_;intro ad c C BY
  rw [show ak (b++[128]++List.replicate z 0)++[.int .u8 0]=_ from (NO b z).symm] at BY
  refine gn ?_
  exact ⟨(z+1,ad,c,C),⟨by simp at bh;omega,BY⟩,by simp only;simp at bh;omega,aq,_,aa⟩
 ·have Ic:=hz1 z hz
  obtain rfl:z=lj b.length:=by simp at bh;omega
  have hC:az C 5 1 (.slice ad (b.length+1+lj b.length) c) (b.length+1+lj b.length) (ak (BW b)):=hC
  refine gl [0,2,3] (fun ((k,ad,c,_):Nat×Option Addr×Nat×Chunk)=>[(4,.slice ad (b.length+1+lj b.length+k) c),(5,.int .i64 (56 - 8*(k:Int)))]) (fun (_,_,_,C)=>[C]) (fun (k,ad,c,C)=>k<=8/\az C 5 1 (.slice ad (b.length+1+lj b.length+k) c) (b.length+1+lj b.length+k) (ak (BW b++uK (b.length*8) k))) (fun (k,_,_,_)=>8 - k) (0,ad,c,C) ⟨by omega,by rw [uK,List.append_nil];exact hC⟩ ?_
  rintro ⟨k,ad,c,C⟩ ⟨hk,hC⟩
  refine gi ?_ ?_ <;> intro bh
  ·have hk7:k<=7:=by omega
   have hsh:((b.length*8:Nat):Int) / 2 ^ (56 - 8*(k:Int)).toNat=((b.length*8 / 2 ^ (56 - 8*k):Nat):Int):=by rw [show (56 - 8*(k:Int)).toNat=56 - 8*k by omega];simp
   have hw8:=w8 (b.length*8 / 2 ^ (56 - 8*k))
   refine gm ?_;intro g
   refine gp ?_;intro ad c C BY
   rw [show ak (BW b++uK (b.length*8) k)++[.int .u8 (UInt8.ofNat (b.length*8 / 2 ^ (56 - 8*k))).toNat]=ak (BW b++uK (b.length*8) (k+1)) by rw [JL,<-List.append_assoc,aE (BW b++_)];rfl] at BY
   refine gn ?_
   exact ⟨(k+1,ad,c,C),⟨by omega,BY⟩,by simp only;omega,aq,_,aa⟩
  ·obtain rfl:k=8:=by omega
   rw [NP] at hC
   have RA:=hC.dL
   have hlen:b.length+1+lj b.length+8=(fO b).length - 64*0:=by omega
   rw [hlen] at hC RA ⊢
   refine gl [2,3] (fun ((j,ad,c):Nat×Option Addr×Nat)=>[(4,.slice ad ((fO b).length - 64*j) c)]) (fun (j,_,_)=>[[(b3,av (fG (NF (fO b) j).l) 362)]]) (fun (j,ad,c)=>j<=(fO b).length / 64/\(fO b).length - 64*j<=c/\Rd C 1 (.slice ad ((fO b).length - 64*j) c) ((fO b).length - 64*j) (ak ((fO b).drop (64*j)))) (fun (j,_,_)=>(fO b).length / 64 - j) (0,ad,c) ⟨by omega,RA,by rw [Nat.mul_zero,List.drop_zero];exact hC.rd⟩ ?_
   rintro ⟨j,ad,c⟩ ⟨hj,hc,hR⟩
   refine gi ?_ ?_ <;> intro bh
   ·have oV:64*j+64<=(fO b).length:=by omega
    have uw:=FU (fO b) oV
    have hbb:(ak (fN (fO b) j)).length=64:=by rw [ai,uw]
    have hn:64 - 0=64:=rfl
    have nZ:=NQ (fO b) j
    refine gd [0,4,8,12,16,21,25,31] ?_
    refine gw ?_;intro ad2 kr
    obtain ⟨g2,afn,rfl⟩:=kr.addr oZ
    refine gc (FV (fN (fO b) j) uw) ?_
    rintro _ _ ⟨rfl,rfl⟩
    refine gc (SQ T fr (NF (fO b) j) (uJ (fN (fO b) j) 64) (gN _ _)) ?_
    rintro _ _ ⟨rfl,rfl⟩
    have hn:(fO b).length - 64*j - 64=(fO b).length - 64*(j+1):=by omega
    have nZ:=JM (fO b) j ((fO b).length - 64*j - 64) oZ
    refine gw ?_;intro fJ zx
    refine gn ?_
    exact ⟨(j+1,fJ,c - 64),⟨by omega,by omega,zx⟩,by simp only;omega,aq,_,aa⟩
   ·obtain rfl:j=(fO b).length / 64:=by omega
    rw [NH]
    generalize NF (fO b) ((fO b).length / 64)=h
    refine gc (zw h b3 0 oZ) ?_
    rintro _ _ ⟨rfl,rfl⟩
    refine gc (zw h b3 2 oZ) ?_
    rintro _ _ ⟨rfl,rfl⟩
    refine gc (zw h b3 4 oZ) ?_
    rintro _ _ ⟨rfl,rfl⟩
    refine gc (zw h b3 6 oZ) ?_
    rintro _ _ ⟨rfl,rfl⟩
    refine gz ?_
    exact fin ⟨rfl,rfl⟩ aa
end Go.Proofs.YtcfioaeamfappaaGreatDoor
namespace Go.Sl
def iU (kind:Int)(b:List UInt8):Fs×Int:=if kind=1 then (aF b,0) else if kind=2 then (NH b,0) else (⟨0,0,0,0⟩,20)
theorem BZ {kind:Int}{b:List UInt8}:(iU kind b).2=0↔(kind=1\/kind=2):=by
 unfold iU
 split
 ·simp [*]
 ·split
  ·simp [*]
  ·simp [*]
def sM (kind:Int)(s:Fs)(b:List UInt8):Bool:=decide ((iU kind b).2=0)&&s.JI (iU kind b).1
theorem JN {kind:Int}(hk:kind=1\/kind=2)(b:List UInt8):sM kind (iU kind b).1 b=true:=by
 unfold sM
 rw [Fs.FQ,decide_eq_true (BZ.2 hk)];simp
end Go.Sl
namespace Go.Proofs.YtcfioaeamfappaaGreatDoor
open Go.Sl
set_option maxRecDepth 10000
section
variable (T:TypeId)(fr:Nat×Nat)(O:Chunk)(v:Value)(b:List UInt8)(m:Nat)(hm:b.length=m)(hO:Rd O 1 v m (ak b))(cV:m<=1000000)
include hm hO cV
theorem zy (kind:Int):Ct 196 [.int .i64 kind,v] [gK T fr,O] fun u Bs=>u = .tuple #[(iU kind b).1.agg,.int .i64 (iU kind b).2]/\Bs=[gK T fr,O]:=by
 refine st Tryz.func196 fun w0 => ?_
 refine ga ?_;intro b1
 refine gi ?_ ?_ <;> intro h1
 ·have h1:kind=1:=by simpa using h1
  rw [iU,if_pos h1]
  refine ge ?_
  refine ga ?_;intro p
  refine gc (aaY O v b m hm hO cV p) ?_
  rintro _ _ ⟨s,x0,x1,x2,x3,k,hR,rfl⟩
  refine ge ?_
  refine ga ?_;intro b2
  have hk:=hR.hk
  refine gi ?_ ?_ <;> intro h0
  ·obtain rfl:k=0:=by omega
   rw [hR.aaX]
   refine gz ?_
   exact fin ⟨rfl,rfl⟩ aa
  ·refine gd [0,4,8,12,16,20,24,28,33,39] ?_
   refine gc (NB s x0 x1 x2 x3) ?_
   rintro _ _ ⟨rfl,rfl⟩
   rw [hR.done oZ]
   refine gz ?_
   exact fin ⟨rfl,rfl⟩ aa
 ·have h1:¬kind=1:=by simpa using h1
  rw [iU,if_neg h1]
  refine gi ?_ ?_ <;> intro h2
  ·have h2:kind=2:=by simpa using h2
   rw [if_pos h2]
   refine gc (aa1 T fr O v b m hm hO cV) ?_
   rintro _ _ ⟨rfl,rfl⟩
   refine gz ?_
   exact fin ⟨rfl,rfl⟩ aa
  ·have h2:¬kind=2:=by simpa using h2
   rw [if_neg h2]
   refine gz ?_
   exact fin ⟨rfl,rfl⟩ aa
theorem zz (kind:Int)(s:Fs):Ct 176 [.int .i64 kind,s.agg,v] [gK T fr,O] fun u Bs=>u = .bool (sM kind s b)/\Bs=[gK T fr,O]:=by
 obtain ⟨z,hz⟩:∃z,z=iU kind b:=⟨_,rfl⟩
 unfold sM
 have hK:=zy T fr O v b m hm hO cV kind
 rw [<-hz] at hK ⊢
 refine st Tryz.func176 fun w0 => ?_
 refine ga ?_;intro b1
 refine gc hK ?_
 rintro _ _ ⟨rfl,rfl⟩
 refine ga ?_;intro b2
 refine gg ?_ ?_ <;> intro h0
 ·have h0:z.2=0:=by simpa using h0
  rw [decide_eq_true h0]
  refine gz ?_
  exact fin ⟨rfl,rfl⟩ aa
 ·have h0:¬z.2=0:=by simpa using h0
  rw [decide_eq_false h0]
  refine gz ?_
  exact fin ⟨rfl,rfl⟩ aa
end
end Go.Proofs.YtcfioaeamfappaaGreatDoor
namespace Go.Sl
def JO (s:Fs):List UInt8:=ae s.a 8++ae s.b 8++ae s.c 8++ae s.d 8
theorem ln (s:Fs):(JO s).length=32:=by simp [JO,af]
def mu (b:List UInt8)(q:Nat):Fs:=⟨nm b q 8,nm b (q+8) 8,nm b (q+16) 8,nm b (q+24) 8⟩
theorem Cb {s:Fs}(h:s.Ok)(x y:List UInt8){q:Nat}(hx:x.length=q):mu (x++(JO s++y)) q=s:=by
 have e8:=p8
 have ha:=h.a;have hb:=h.b;have hc:=h.c;have hd:=h.d
 have f1:=bF x (ae s.b 8++(ae s.c 8++(ae s.d 8++y))) s.a (q:=q) (k:=8) hx oZ
 have f2:=bF (x++ae s.a 8) (ae s.c 8++(ae s.d 8++y)) s.b (q:=q+8) (k:=8) (by simp [af,hx]) oZ
 have f3:=bF (x++(ae s.a 8++ae s.b 8)) (ae s.d 8++y) s.c (q:=q+16) (k:=8) (by simp [af,hx]) oZ
 have f4:=bF (x++(ae s.a 8++(ae s.b 8++ae s.c 8))) y s.d (q:=q+24) (k:=8) (by simp [af,hx]) oZ
 simp only [List.append_assoc] at f1 f2 f3 f4
 simp only [mu,JO,List.append_assoc,f1,f2,f3,f4]
def aC (x:List UInt8):List UInt8:=x++List.replicate (96 - x.length) 0
theorem ea {x:List UInt8}(h:x.length<=96):(aC x).length=96:=by simp [aC];omega
def whole (x:List UInt8):List UInt8:=aC x++JO (aF (aC x))
theorem fP {x:List UInt8}(h:x.length<=96):(whole x).length=128:=by rw [whole,List.length_append,ea h,ln]
def fQ (b letters:List UInt8):Bool:=decide (b.length=128/\b.take 4=letters/\mu b 96=aF (b.take 96))
theorem gQ {x letters:List UInt8}(h:x.length<=96)(hl:letters.length=4)(hp:∃r,x=letters++r):fQ (whole x) letters=true/\(whole x).take 96=aC x:=by
 have h1:(whole x).take 96=aC x:=List.take_left' (ea h)
 refine ⟨?_,h1⟩
 simp only [fQ,decide_eq_true_eq]
 refine ⟨fP h, ?_, ?_⟩
 ·obtain ⟨r,rfl⟩:=hp
  rw [whole,aC,List.append_assoc,List.append_assoc,List.take_left' hl]
 ·rw [h1]
  have:=Cb (nc (aC x)) (aC x) [] (ea h)
  rw [List.append_nil] at this
  exact this
structure Tp where
 kind:Int
 leaves:Int
 bz:Int
deriving DecidableEq
def Tp.lay (t:Tp):List Value:=[.int .i64 t.kind,.int .i64 t.leaves,.int .i64 t.bz]
abbrev Tp.agg (t:Tp):Value:=.agg #[.int .i64 t.kind,.int .i64 t.leaves,.int .i64 t.bz]
theorem Tp.aj (t:Tp):t.lay.length=3:=rfl
theorem Tp.bC (t:Tp):∀u∈t.lay,u.oneCell'=true:=fun u hu=>by
 simp only [Tp.lay,List.mem_cons,List.not_mem_nil,or_false] at hu
 rcases hu with rfl | rfl | rfl <;> rfl
structure Tp.Ok (t:Tp):Prop where
 kind : -9223372036854775808<=t.kind/\t.kind<=9223372036854775807
 leaves : -9223372036854775808<=t.leaves/\t.leaves<=9223372036854775807
 bz : -9223372036854775808<=t.bz/\t.bz<=9223372036854775807
def uL:Tp:=⟨0,0,0⟩
def Tp.made (t:Tp):Prop:=324<=t.bz/\t.bz<=8192/\(t.kind=1/\t.leaves=1\/t.kind=2/\2<=t.leaves/\t.leaves<=5\/t.kind=3/\3<=t.leaves/\t.leaves<=5)
instance (t:Tp):Decidable t.made:=by unfold Tp.made;infer_instance
def wX (t:Tp):List UInt8:=ae t.kind.toNat 1++(ae t.leaves.toNat 1++ae t.bz.toNat 4)
theorem uM (t:Tp):(wX t).length=6:=by simp [wX,af]
def JQ (b:List UInt8)(q:Nat):Tp:=⟨nm b q 1,nm b (q+1) 1,nm b (q+2) 4⟩
theorem NR {t:Tp}(h:t.made)(x y:List UInt8){q:Nat}(hx:x.length=q):JQ (x++(wX t++y)) q=t:=by
 obtain ⟨h1,h2,h3⟩:=h
 have e1:=p1;have e4:=p4
 have f1:=bF x (ae t.leaves.toNat 1++(ae t.bz.toNat 4++y)) t.kind.toNat (q:=q) (k:=1) hx oZ
 have f2:=bF (x++ae t.kind.toNat 1) (ae t.bz.toNat 4++y) t.leaves.toNat (q:=q+1) (k:=1) (by simp [af,hx]) oZ
 have f3:=bF (x++(ae t.kind.toNat 1++ae t.leaves.toNat 1)) y t.bz.toNat (q:=q+2) (k:=4) (by simp [af,hx]) oZ
 simp only [List.append_assoc] at f1 f2 f3
 simp only [JQ,wX,List.append_assoc,f1,f2,f3]
 cases t with | mk k l s=>simp only [Tp.mk.injEq];simp only at h1 h2 h3;omega
structure eR where
 pool:Nat
 aJ:List Tp
 top:Int
 place:Int
deriving DecidableEq
structure eR.Ok (l:eR):Prop where
 pool:l.pool<18446744073709551616
 top : -9223372036854775808<=l.top/\l.top<=9223372036854775807
 place : -9223372036854775808<=l.place/\l.place<=9223372036854775807
 aJ:∀t∈l.aJ,t.Ok
def NS:eR:=⟨0,[],0,0⟩
def eR.may (l:eR):Prop:=1<=l.aJ.length/\l.aJ.length<=4/\0<=l.top/\l.top<l.aJ.length/\0<=l.place/\l.place<(l.aJ.getD l.top.toNat uL).leaves/\∀t∈l.aJ,t.made
instance (l:eR):Decidable l.may:=by unfold eR.may;infer_instance
def uN (l:eR):Int:=if l.may then 0 else 42
def iu:List UInt8:=[85,67,76,66]
def gR:List UInt8:=[85,67,85,66]
def Ie (l:eR):List UInt8:=iu++(ae l.pool 8++(ae l.top.toNat 1++(ae l.place.toNat 1++ae l.aJ.length 1)))
theorem lq (l:eR):(Ie l).length=15:=by simp [Ie,iu,af]
def dJ (l:eR):List UInt8:=Ie l++l.aJ.flatMap wX
theorem uO:∀l:List Tp,(l.flatMap wX).length=6*l.length
 | []=>rfl
 | t :: r=>by rw [List.flatMap_cons,List.length_append,uM,uO r,List.length_cons];omega
theorem ji (l:eR):(dJ l).length=15+6*l.aJ.length:=by rw [dJ,List.length_append,lq,uO]
def FX (x:List UInt8):eR:=⟨nm x 4 8,(List.range (nm x 14 1)).map fun i=>JQ x (15+6*i),nm x 12 1,nm x 13 1⟩
def zA (b:List UInt8):Int :=
 if fQ b iu=false then 43 else if 4<nm (b.take 96) 14 1 then 43
 else if (b.take 96).drop (15+6*nm (b.take 96) 14 1)≠List.replicate (96 - (15+6*nm (b.take 96) 14 1)) 0 then 43 else uN (FX (b.take 96))
def NT (b:List UInt8):eR:=if zA b=0 then FX (b.take 96) else NS
theorem zB (h:List UInt8)(y:List UInt8):∀(l:List Tp) (x:List UInt8) {q:Nat},x.length=q->(∀t∈l,t.made)->(List.range l.length).map (fun i=>JQ (x++(l.flatMap wX++y)) (q+6*i))=l
 | [],_,_,_,_=>rfl
 | t :: r,x,q,hx,hm=>by
  have ih:=zB h y r (x++wX t) (q:=q+6) (by rw [List.length_append,uM,hx]) (fun u hu=>hm u (by simp [hu]))
  rw [List.length_cons,List.range_succ_eq_map,List.map_cons,List.map_map]
  have h0:JQ (x++((t :: r).flatMap wX++y)) (q+6*0)=t:=by
   rw [List.flatMap_cons,List.append_assoc];exact NR (hm t (by simp)) x _ hx
  rw [h0]
  congr 1
  conv=>rhs;rw [<-ih]
  apply List.map_congr_left
  intro i _
  simp only [Function.comp]
  rw [List.flatMap_cons,List.append_assoc,List.append_assoc,show q+6*(i+1)=q+6+6*i by omega]
theorem JR {l:eR}(h:uN l=0)(ho:l.Ok):zA (whole (dJ l))=0/\NT (whole (dJ l))=l:=by
 have hm:l.may:=by unfold uN at h;split at h <;> first | assumption | cases h
 obtain ⟨m1,m2,m3,m4,m5,m6,m7⟩:=hm
 have hl:=ji l
 obtain ⟨o1,o2⟩:=gQ (x:=dJ l) (letters:=iu) oZ rfl ⟨_,by rw [dJ,Ie,List.append_assoc]⟩
 have mj:l.place<=5:=by
  have:l.top.toNat<l.aJ.length:=by omega
  have qR:l.aJ.getD l.top.toNat uL∈l.aJ:=by simp [List.getD,this]
  have:=m7 _ qR
  unfold Tp.made at this
  omega
 have e1:=p1;have e8:=p8
 have x6:=ho.pool
 have hx:aC (dJ l)=Ie l++(l.aJ.flatMap wX++List.replicate (96 - (dJ l).length) 0):=by rw [aC,dJ,List.append_assoc]
 have f1:=bF iu ((ae l.top.toNat 1++(ae l.place.toNat 1++ae l.aJ.length 1))++(l.aJ.flatMap wX++List.replicate (96 - (dJ l).length) 0)) l.pool (q:=4) (k:=8) rfl oZ
 have f2:=bF (iu++ae l.pool 8) ((ae l.place.toNat 1++ae l.aJ.length 1)++(l.aJ.flatMap wX++List.replicate (96 - (dJ l).length) 0)) l.top.toNat (q:=12) (k:=1) (by simp [iu,af]) oZ
 have f3:=bF (iu++(ae l.pool 8++ae l.top.toNat 1)) (ae l.aJ.length 1++(l.aJ.flatMap wX++List.replicate (96 - (dJ l).length) 0)) l.place.toNat (q:=13) (k:=1) (by simp [iu,af]) oZ
 have f4:=bF (iu++(ae l.pool 8++(ae l.top.toNat 1++ae l.place.toNat 1))) (l.aJ.flatMap wX++List.replicate (96 - (dJ l).length) 0) l.aJ.length (q:=14) (k:=1) (by simp [iu,af]) oZ
 have f5:=zB [] (List.replicate (96 - (dJ l).length) 0) l.aJ (Ie l) (q:=15) (lq l) m7
 have Yi:aC (dJ l)=iu++(ae l.pool 8++(ae l.top.toNat 1++(ae l.place.toNat 1++(ae l.aJ.length 1++(l.aJ.flatMap wX++List.replicate (96 - (dJ l).length) 0))))):=by
  rw [hx,Ie];simp only [List.append_assoc]
 simp only [List.append_assoc] at f1 f2 f3 f4
 rw [<-Yi] at f1 f2 f3 f4
 rw [<-hx] at f5
 have gh:FX (aC (dJ l))=l:=by
  simp only [FX,f1,f2,f3,f4,f5]
  cases l with | mk p t tp pl=>simp only [eR.mk.injEq];simp only at m3 m5;exact ⟨trivial,trivial,by omega,by omega⟩
 have hd:(aC (dJ l)).drop (15+6*nm (aC (dJ l)) 14 1)=List.replicate (96 - (15+6*nm (aC (dJ l)) 14 1)) 0:=by
  rw [f4,aC,List.drop_left' hl,hl]
 have hE:zA (whole (dJ l))=0:=by
  unfold zA
  rw [o2,if_neg (by rw [o1];decide),if_neg (by rw [f4];omega),if_neg (fun q=>q hd),gh,h]
 exact ⟨hE,by rw [NT,if_pos hE,o2,gh]⟩
structure Ub where
 pool:Nat
 txg:Nat
 note:Nat
 root:Pt
deriving DecidableEq
def Ub.lay (u:Ub):List Value:=[.int .u64 u.pool,.int .u64 u.txg,.int .u64 u.note,.int .i64 u.root.top,.int .i64 u.root.at_,.int .i64 u.root.bytes,.int .u64 u.root.bj,.int .i64 u.root.kind,.int .u64 u.root.a,.int .u64 u.root.b,.int .u64 u.root.c,.int .u64 u.root.d]
abbrev Ub.agg (u:Ub):Value:=.agg #[.int .u64 u.pool,.int .u64 u.txg,.int .u64 u.note,.int .i64 u.root.top,.int .i64 u.root.at_,.int .i64 u.root.bytes,.int .u64 u.root.bj,.int .i64 u.root.kind,.int .u64 u.root.a,.int .u64 u.root.b,.int .u64 u.root.c,.int .u64 u.root.d]
structure Ub.Ok (u:Ub):Prop where
 pool:u.pool<18446744073709551616
 txg:u.txg<18446744073709551616
 note:u.note<18446744073709551616
 root:u.root.Ok
def jj:Ub:=⟨0,0,0,ah⟩
def zC (u:Ub):Int:=if 1<=u.txg/\u.txg<=281474976710656/\fy u.root=0/\u.root.bj<=u.txg then 0 else 44
def kx (u:Ub):List UInt8:=gR++(ae u.pool 8++(ae u.txg 8++(ae u.note 8++JJ u.root)))
theorem jk (u:Ub):(kx u).length=76:=by simp [kx,gR,af,lh]
def JS (x:List UInt8):Ub:=⟨nm x 4 8,nm x 12 8,nm x 20 8,Nw x 28⟩
def zD (b:List UInt8):Int:=if fQ b gR=false then 45 else if (b.take 96).drop 76≠List.replicate 20 0 then 45 else zC (JS (b.take 96))
def NU (b:List UInt8):Ub:=if zD b=0 then JS (b.take 96) else jj
theorem zE {u:Ub}(h:zC u=0):1<=u.txg/\u.txg<=281474976710656/\fy u.root=0/\u.root.bj<=u.txg:=by
 unfold zC at h;split at h
 ·assumption
 ·cases h
theorem JT {u:Ub}(h:zC u=0)(ho:u.Ok):zD (whole (kx u))=0/\NU (whole (kx u))=u:=by
 obtain ⟨m1,m2,m3,m4⟩:=zE h
 have hl:=jk u
 have e8:=p8
 have q1:=ho.pool;have q2:=ho.txg;have q3:=ho.note
 obtain ⟨o1,o2⟩:=gQ (x:=kx u) (letters:=gR) oZ rfl ⟨_,rfl⟩
 have hx:aC (kx u)=gR++(ae u.pool 8++(ae u.txg 8++(ae u.note 8++(JJ u.root++List.replicate 20 0)))):=by
  rw [aC,hl,kx];simp only [List.append_assoc]
 have f1:=bF gR (ae u.txg 8++(ae u.note 8++(JJ u.root++List.replicate 20 0))) u.pool (q:=4) (k:=8) rfl oZ
 have f2:=bF (gR++ae u.pool 8) (ae u.note 8++(JJ u.root++List.replicate 20 0)) u.txg (q:=12) (k:=8) (by simp [gR,af]) oZ
 have f3:=bF (gR++(ae u.pool 8++ae u.txg 8)) (JJ u.root++List.replicate 20 0) u.note (q:=20) (k:=8) (by simp [gR,af]) oZ
 have f4:=BS (zp m3) ho.root (gR++(ae u.pool 8++(ae u.txg 8++ae u.note 8))) (List.replicate 20 0) (q:=28) (by simp [gR,af])
 simp only [List.append_assoc] at f1 f2 f3 f4
 rw [<-hx] at f1 f2 f3 f4
 have gh:JS (aC (kx u))=u:=by simp only [JS,f1,f2,f3,f4]
 have hd:(aC (kx u)).drop 76=List.replicate 20 0:=by rw [aC,List.drop_left' hl,hl]
 have hE:zD (whole (kx u))=0:=by
  unfold zD
  rw [o2,if_neg (by rw [o1];decide),if_neg (fun q=>q hd),gh,h]
 exact ⟨hE,by rw [NU,if_pos hE,o2,gh]⟩
theorem tf {t:Tp}(h:t.kind<1\/3<t.kind\/t.bz<324\/8192<t.bz):decide t.made=false:=decide_eq_false (by unfold Tp.made;omega)
theorem SR {t:Tp}(h:¬t.kind<1/\¬3<t.kind/\¬t.bz<324/\¬8192<t.bz){b:Bool}(hb:b=true↔t.kind<=t.leaves/\t.leaves<=(if t.kind=1 then 1 else 5)):decide t.made=b:=by
 rw [Bool.eq_iff_iff,hb,decide_eq_true_eq];unfold Tp.made;split <;> omega
end Go.Sl
namespace Go.Proofs.YtcfioaeamfappaaGreatDoor
open Go.Sl
set_option maxRecDepth 10000
theorem Yj (t:Tp):Ct 86 [t.agg] [] fun u Bs=>u = .bool (decide t.made)/\Bs=[]:=by
 refine st Tryz.func86 fun w0 => ?_
 refine ga ?_;intro b1
 refine ga ?_;intro b3
 refine gg ?_ ?_ <;> intro h1
 ·rw [tf (.inl h1)];refine gz ?_;exact fin ⟨rfl,rfl⟩ aa
 refine gg ?_ ?_ <;> intro h2
 ·rw [tf (.inr (.inl h2))];refine gz ?_;exact fin ⟨rfl,rfl⟩ aa
 refine gg ?_ ?_ <;> intro h3
 ·rw [tf (.inr (.inr (.inl h3)))];refine gz ?_;exact fin ⟨rfl,rfl⟩ aa
 refine gi ?_ ?_ <;> intro h4
 ·rw [tf (.inr (.inr (.inr h4)))];refine gz ?_;exact fin ⟨rfl,rfl⟩ aa
 rcases (show t.kind=1\/t.kind=2\/t.kind=3 by omega) with hk | hk | hk
 all_goals
  obtain ⟨k,lv,sc⟩:=t
  obtain rfl:k=_:=hk
  refine gg ?_ ?_ <;> intro h5
  all_goals
   refine gz ?_
   exact fin ⟨congrArg Value.bool (SR ⟨h1,h2,h3,h4⟩ (by simp at h5 ⊢;omega)).symm,rfl⟩ aa
end Go.Proofs.YtcfioaeamfappaaGreatDoor
namespace Go.Sl
abbrev mv (l:eR)(v:Value):Value:=.agg #[.int .u64 l.pool,v,.int .i64 l.top,.int .i64 l.place]
def eR.half (l:eR):Prop:=1<=l.aJ.length/\l.aJ.length<=4/\0<=l.top/\l.top<l.aJ.length/\0<=l.place/\l.place<(l.aJ.getD l.top.toNat uL).leaves
theorem ia (l:eR):uN l=0↔l.half/\∀t∈l.aJ,t.made:=by
 unfold uN;split
 ·rename_i h;obtain ⟨h1,h2,h3,h4,h5,h6,h7⟩:=h;exact ⟨fun _=>⟨⟨h1,h2,h3,h4,h5,h6⟩,h7⟩,fun _=>rfl⟩
 ·rename_i h;exact ⟨fun q=>(by cases q),fun ⟨⟨h1,h2,h3,h4,h5,h6⟩,h7⟩=>absurd ⟨h1,h2,h3,h4,h5,h6,h7⟩ h⟩
theorem NV {l:eR}(h:uN l≠0):uN l=42:=by
 unfold uN at *;split
 ·rename_i c;rw [if_pos c] at h;exact absurd rfl h
 ·rfl
theorem NW {l:eR}(h:¬l.half):uN l=42:=NV (fun q=>h ((ia l).1 q).1)
theorem Ig {l:eR}{n:Nat}(h:l.top=n)(hn:n<l.aJ.length):l.aJ.getD l.top.toNat uL=l.aJ[n]:=by simp [h,List.getD,hn]
theorem JU {α:Type}{p:α->Prop}{l:List α}{i:Nat}{a:α}(h:∀x∈l.take i,p x)(hx:l[i]? = some a)(ha:p a):∀x∈l.take (i+1),p x:=by
 obtain ⟨hi,rfl⟩:=List.getElem?_eq_some_iff.1 hx
 rw [List.take_succ_eq_append_getElem hi]
 intro x hx
 rcases List.mem_append.1 hx with hx | hx
 ·exact h x hx
 ·obtain rfl:=List.mem_singleton.1 hx;exact ha
end Go.Sl
namespace Go.Proofs.YtcfioaeamfappaaGreatDoor
open Go.Sl
set_option maxRecDepth 10000
theorem NX (O:Chunk)(v:Value)(l:List Tp)(n:Nat)(hn:l.length=n)(hO:Rd O 3 v n (l.flatMap Tp.lay)):Ct 84 [v,.func (.func 85) #[] #[]] [O] fun u Bs=>u = .bool (!decide (∀t∈l,t.made))/\Bs=[O]:=by
 subst hn
 have FY:=hO.2.2.1
 simp only [maxLen] at FY
 obtain ⟨ad,c,rfl⟩:=hO.slice
 refine st Tryz.func84 fun w0 => ?_
 refine ge ?_
 refine gl [0,1,7] (fun i:Nat=>[(8,.int .i64 i)]) (fun _=>[]) (fun i=>i<=l.length/\∀t∈l.take i,t.made) (fun i=>l.length - i) 0 ⟨by omega,fun _ h=>by simp at h⟩ ?_
 rintro i ⟨hi,hm⟩
 refine gi ?_ ?_ <;> intro bh
 ·have hx:l[i]? = some l[i]:=List.getElem?_eq_getElem oZ
  have hs:=ar Tp.aj l i _ hx
  obtain ⟨g,off,rfl⟩:=hO.addr oZ
  refine ge ?_
  refine ga ?_;intro b1
  refine gc (Yj l[i]) ?_
  rintro _ _ ⟨rfl,rfl⟩
  refine gi ?_ ?_ <;> intro Rv
  ·have eV:¬ ∀t∈l,t.made:=fun q=>by simp [q _ (List.getElem_mem (by omega:i<l.length))] at Rv
   refine gz ?_
   exact fin ⟨congrArg Value.bool (by rw [decide_eq_false eV];simp),rfl⟩ aa
  ·refine gn ?_
   exact ⟨i+1,⟨by omega,JU hm hx (by simpa using Rv)⟩,by omega,aq,_,aa⟩
 ·obtain rfl:i=l.length:=by omega
  rw [List.take_length] at hm
  refine gz ?_
  exact fin ⟨congrArg Value.bool (by rw [decide_eq_true hm];rfl),rfl⟩ aa
theorem re (O:Chunk)(v:Value)(l:eR)(n:Nat)(hn:l.aJ.length=n)(hO:Rd O 3 v n (l.aJ.flatMap Tp.lay)):Ct 34 [mv l v] [O] fun u Bs=>u = .int .i64 (uN l)/\Bs=[O]:=by
 subst hn
 have hO':=hO
 obtain ⟨pool,aJ,top,fA⟩:=l
 simp only at hO hO'
 change Ct _ [.agg #[.int .u64 pool,v,.int .i64 top,.int .i64 fA]] _ _
 have no:∀ {p:Prop},(eR.half ⟨pool,aJ,top,fA⟩->p)->¬p->(42:Int)=uN ⟨pool,aJ,top,fA⟩:=fun f h=>(NW fun q=>h (f q)).symm
 obtain ⟨ad,c,rfl⟩:=hO.slice
 refine st Tryz.func34 fun w0 => ?_
 refine ga ?_;intro b1
 refine gg ?_ ?_ <;> intro h1
 ·refine gz ?_;exact fin ⟨congrArg _ (no (fun q=>q.1) (by simp only;omega)),rfl⟩ aa
 refine gg ?_ ?_ <;> intro h2
 ·refine gz ?_;exact fin ⟨congrArg _ (no (fun q=>q.2.1) (by simp only;omega)),rfl⟩ aa
 refine gg ?_ ?_ <;> intro h3
 ·refine gz ?_;exact fin ⟨congrArg _ (no (fun q=>q.2.2.1) (by simp only;omega)),rfl⟩ aa
 refine gg ?_ ?_ <;> intro h4
 ·refine gz ?_;exact fin ⟨congrArg _ (no (fun q=>q.2.2.2.1) (by simp only;omega)),rfl⟩ aa
 refine gg ?_ ?_ <;> intro h5
 ·refine gz ?_;exact fin ⟨congrArg _ (no (fun q=>q.2.2.2.2.1) (by simp only;omega)),rfl⟩ aa
 obtain ⟨k,rfl⟩:∃k:Nat,top=k:=⟨top.toNat,by omega⟩
 have hk:k<aJ.length:=by omega
 have hx:=ar Tp.aj aJ k _ (List.getElem?_eq_getElem hk) 1 _ rfl
 obtain ⟨g,off,rfl⟩:=hO.addr oZ
 refine gi ?_ ?_ <;> intro h6
 ·refine gz ?_;exact fin ⟨congrArg _ (no (fun q=>q.2.2.2.2.2) (by rw [Ig rfl hk];simp only;omega)),rfl⟩ aa
 refine gc (NX O _ aJ aJ.length rfl hO') ?_
 rintro _ _ ⟨rfl,rfl⟩
 have hh:eR.half ⟨pool,aJ,k,fA⟩:=by unfold eR.half;rw [Ig rfl hk];simp only;omega
 refine gi ?_ ?_ <;> intro h7
 ·refine gz ?_;exact fin ⟨congrArg _ (NV (fun q=>by simp at h7;obtain ⟨x,hx,hm⟩:=h7;exact hm (((ia _).1 q).2 x hx))).symm,rfl⟩ aa
 ·refine gz ?_;exact fin ⟨congrArg _ ((ia _).2 ⟨hh,by simpa using h7⟩).symm,rfl⟩ aa
end Go.Proofs.YtcfioaeamfappaaGreatDoor
namespace Go.Sl
def four (L:List Nat):List UInt8:=L.flatMap fun n=>ae n 8
theorem x8 {L:List Nat}{i x:Nat}(h:L[i]? = some x):four (L.take (i+1))=four (L.take i)++ae x 8:=by
 obtain ⟨hi,rfl⟩:=List.getElem?_eq_some_iff.1 h
 rw [List.take_succ_eq_append_getElem hi,four,four,List.flatMap_append];simp
theorem Cc (L:List Nat):(four L).length=8*L.length:=by
 induction L with
 | nil=>rfl
 | cons a r ih=>simp only [four,List.flatMap_cons,List.length_append,af,List.length_cons] at *;omega
theorem uP (L:List Nat)(i:Nat):(four (L.take i)).length<=8*i:=by
 rw [Cc,List.length_take];omega
theorem JV {l:List Tp}{i:Nat}{t:Tp}(h:l[i]? = some t):(l.take (i+1)).flatMap wX=(l.take i).flatMap wX++wX t:=by
 obtain ⟨hi,rfl⟩:=List.getElem?_eq_some_iff.1 h
 rw [List.take_succ_eq_append_getElem hi,List.flatMap_append];simp
theorem FZ {l:eR}(h:l.half)(hm:∀t∈l.aJ,t.made):l.place<=5:=by
 obtain ⟨m1,m2,m3,m4,m5,m6⟩:=h
 have:l.top.toNat<l.aJ.length:=by omega
 have qR:l.aJ.getD l.top.toNat uL∈l.aJ:=by simp [List.getD,this]
 have:=hm _ qR
 unfold Tp.made at this
 omega
theorem Ih (s:Fs):four [s.a,s.b,s.c,s.d]=JO s:=by simp [four,JO]
end Go.Sl
namespace Go.Proofs.YtcfioaeamfappaaGreatDoor
open Go.Sl
set_option maxRecDepth 10000
theorem Ce (p room:Nat)(bs:List UInt8)(A:Chunk)(s:Fs)(hs:s.Ok)(hA:wW p room bs A)(hf:bs.length+32<=room):Ct 199 [ptr p,s.agg] [A] fun _ Bs=>∃A',wW p room (bs++JO s) A'/\Bs=[A']:=by
 refine st Tryz.func199 fun w0 => ?_
 refine ga ?_;intro b3
 refine gl [0,14] (fun ((i,_):Nat×Chunk)=>[(15,.int .i64 i)]) (fun (_,A)=>[A]) (fun (i,A)=>i<=4/\wW p room (bs++four ([s.a,s.b,s.c,s.d].take i)) A) (fun (i,_)=>4 - i) (0,A) ⟨by omega,by rw [List.take_zero];simpa [four] using hA⟩ ?_
 rintro ⟨i,A⟩ ⟨hi,hA⟩
 refine gi ?_ ?_ <;> intro bh
 ·have hi4:i<4:=by omega
  obtain ⟨x,hx⟩:∃x,[s.a,s.b,s.c,s.d][i]? = some x:=⟨_,List.getElem?_eq_getElem hi4⟩
  have hv:([s.a,s.b,s.c,s.d].map fun n:Nat=>Value.int .u64 n)[i]? = some (.int .u64 x):=by rw [List.getElem?_map,hx];rfl
  have hb:x<256 ^ 8:=by
   have:=List.mem_of_getElem? hx
   obtain ⟨h1,h2,h3,h4⟩:=hs
   simp at this;rcases this with rfl | rfl | rfl | rfl <;> assumption
  have hl:=uP [s.a,s.b,s.c,s.d] i
  refine gc (fx p room _ A x 8 hA oZ hb (by rw [List.length_append];omega)) ?_
  rintro _ _ ⟨A',dX,rfl⟩
  rw [List.append_assoc,<-x8 hx] at dX
  refine gn ?_
  exact ⟨(i+1,A'),⟨by omega,dX⟩,by simp only;omega,aq,_,aa⟩
 ·obtain rfl:i=4:=by omega
  refine gz ?_
  exact fin ⟨_,by rw [<-Ih];exact hA,rfl⟩ aa
theorem SU (p room:Nat)(A O:Chunk)(v:Value)(l:eR)(n:Nat)(hn:l.aJ.length=n)(hO:Rd O 3 v n (l.aJ.flatMap Tp.lay))(ho:l.Ok)(hm:uN l=0)(hA:wW p room [] A)(hr:39<=room):Ct 139 [ptr p,mv l v] [A,O] fun _ Bs=>∃A',wW p room (dJ l) A'/\Bs=[A',O]:=by
 subst hn
 obtain ⟨hh,F0⟩:=(ia l).1 hm
 have mj:=FZ hh F0
 obtain ⟨m1,m2,m3,m4,m5,m6⟩:=hh
 obtain ⟨ad,c,rfl⟩:=hO.slice
 obtain ⟨g,off,rfl⟩:=hO.addr oZ
 obtain ⟨pool,aJ,top,fA⟩:=l
 obtain ⟨o1, -, -, -⟩:=ho
 simp only at *
 obtain ⟨tn,rfl⟩:∃n:Nat,top=n:=⟨top.toNat,by omega⟩
 obtain ⟨pn,rfl⟩:∃n:Nat,fA=n:=⟨fA.toNat,by omega⟩
 have hH:Ie ⟨pool,aJ,tn,pn⟩=iu++ae pool 8++ae tn 1++ae pn 1++ae aJ.length 1:=by simp [Ie]
 change Ct _ [ptr p,.agg #[.int .u64 pool,.slice (some ⟨g,off,none⟩) aJ.length c,.int .i64 tn,.int .i64 pn]] _ _
 refine st Tryz.func139 fun w0 => ?_
 refine ga ?_;intro b3
 refine gm ?_;intro b7
 refine gc (na p room [] iu A _ _ hA (HC (g:=b7) (T:=5) iu dZ) (by simp [iu];omega)) ?_
 rintro _ _ ⟨A1,l6,rfl⟩
 refine gc (fx p room _ A1 pool 8 l6 oZ o1 (by simp [iu];omega)) ?_
 rintro _ _ ⟨A2,lr,rfl⟩
 refine gc (fx p room _ A2 tn 1 lr oZ oZ (by simp [iu,af];omega)) ?_
 rintro _ _ ⟨A3,uQ,rfl⟩
 refine gc (fx p room _ A3 pn 1 uQ oZ oZ (by simp [iu,af];omega)) ?_
 rintro _ _ ⟨A4,wY,rfl⟩
 refine gc (fx p room _ A4 aJ.length 1 wY oZ oZ (by simp [iu,af];omega)) ?_
 rintro _ _ ⟨A5,E3,rfl⟩
 rw [List.nil_append,<-hH] at E3
 refine gl [0,31,32] (fun ((i,_):Nat×Chunk)=>[(33,.int .i64 i)]) (fun (_,A)=>[A]) (fun (i,A)=>i<=aJ.length/\wW p room (Ie ⟨pool,aJ,tn,pn⟩++(aJ.take i).flatMap wX) A) (fun (i,_)=>aJ.length - i) (0,A5) ⟨by omega,by simpa using E3⟩ ?_
 rintro ⟨i,A⟩ ⟨hi,hA⟩
 refine gi ?_ ?_ <;> intro bh
 ·obtain ⟨⟨k,lv,sc⟩,hx⟩:=eB (l:=aJ) (i:=i) oZ
  have Rv:=F0 _ (List.mem_of_getElem? hx)
  have cu:=JV hx
  have hs:=ar Tp.aj aJ i _ hx
  have hl:=lq ⟨pool,aJ,tn,pn⟩
  have JW:=uO (aJ.take i)
  rw [List.length_take,Nat.min_eq_left oZ] at JW
  unfold Tp.made at Rv
  simp only at Rv
  obtain ⟨kn,rfl⟩:∃n:Nat,k=n:=⟨k.toNat,by omega⟩
  obtain ⟨vn,rfl⟩:∃n:Nat,lv=n:=⟨lv.toNat,by omega⟩
  obtain ⟨sn,rfl⟩:∃n:Nat,sc=n:=⟨sc.toNat,by omega⟩
  have hB:wX ⟨kn,vn,sn⟩=ae kn 1++ae vn 1++ae sn 4:=by simp [wX]
  change Sub (i*3) [.int .i64 kn,.int .i64 vn,.int .i64 sn] _ at hs
  refine ga ?_;intro b5
  refine gc (fx p room _ A kn 1 hA oZ oZ (by simp only [List.length_append];omega)) ?_
  rintro _ _ ⟨B1,hB1,rfl⟩
  refine gc (fx p room _ B1 vn 1 hB1 oZ oZ (by simp only [List.length_append,af];omega)) ?_
  rintro _ _ ⟨B2,hB2,rfl⟩
  refine gc (fx p room _ B2 sn 4 hB2 oZ oZ (by simp only [List.length_append,af];omega)) ?_
  rintro _ _ ⟨B3,hB3,rfl⟩
  refine gn ?_
  exact ⟨(i+1,B3),⟨by omega,by rw [cu,hB];simpa using hB3⟩,by simp only;omega,aq,_,aa⟩
 ·obtain rfl:i=aJ.length:=by omega
  rw [List.take_length] at hA
  refine gz ?_
  exact fin ⟨_,hA,rfl⟩ aa
theorem Ii (T:TypeId)(fr:Nat×Nat)(O:Chunk)(v:Value)(b:List UInt8)(hb:b.length=96)(hO:Rd O 1 v 96 (ak b)):Ct 137 [v,.int .i64 0] [gK T fr,O] fun u Bs=>∃g,u = .tuple #[.slice (some ⟨g,0,none⟩) 128 128,.int .i64 0]/\Bs=[[(g,av (ak (b++JO (aF b))) 5)],gK T fr,O]:=by
 have hK:=zy T fr O v b 96 hb hO oZ 1
 rw [show iU 1 b=(aF b,0) from rfl] at hK
 simp only at hK
 obtain ⟨ad,c,rfl⟩:=hO.slice
 refine st Tryz.func137 fun w0 => ?_
 refine gc hK ?_
 rintro _ _ ⟨rfl,rfl⟩
 refine ga ?_;intro b6
 refine gc (uG 128 oZ) ?_
 rintro _ _ ⟨p,A,rfl,hA,rfl⟩
 refine gc (na p 128 [] b A O (.slice ad 96 c) hA (by rw [hb];exact hO) (by simp;omega)) ?_
 rintro _ _ ⟨A1,l6,rfl⟩
 rw [List.nil_append] at l6
 refine gc (Ce p 128 b A1 (aF b) (nc b) l6 oZ) ?_
 rintro _ _ ⟨A2,lr,rfl⟩
 have hl:(b++JO (aF b)).length=128:=by rw [List.length_append,ln,hb]
 have hD:=n8 p 128 _ A2 lr oZ
 rw [hl] at hD
 refine gc hD ?_
 rintro _ _ ⟨g,rfl,rfl⟩
 refine gz ?_
 exact fin ⟨g,rfl,rfl⟩ aa
theorem F2 (T:TypeId)(fr:Nat×Nat)(O:Chunk)(v:Value)(l:eR)(n:Nat)(hn:l.aJ.length=n)(hO:Rd O 3 v n (l.aJ.flatMap Tp.lay))(ho:l.Ok)(hm:uN l=0):Ct 88 [mv l v] [gK T fr,O] fun u Bs=>∃g,u = .tuple #[.slice (some ⟨g,0,none⟩) 128 128,.int .i64 0]/\Bs=[[(g,av (ak (whole (dJ l))) 5)],gK T fr,O]:=by
 have hL:=ji l
 have hh:=((ia l).1 hm).1.2.1
 have hE:=re O v l n hn hO
 rw [hm] at hE
 refine st Tryz.func88 fun w0 => ?_
 refine ga ?_;intro b1
 refine ge ?_
 refine ga ?_;intro b4
 refine gc hE ?_
 rintro _ _ ⟨rfl,rfl⟩
 refine gc (uG 96 oZ) ?_
 rintro _ _ ⟨p,A,rfl,hA,rfl⟩
 refine gc (SU p 96 A O v l n hn hO ho hm hA oZ) ?_
 rintro _ _ ⟨A1,l6,rfl⟩
 refine gc (HV p 96 (dJ l) A1 96 l6 oZ) ?_
 rintro _ _ ⟨A2,lr,rfl⟩
 have hp:(aC (dJ l)).length=96:=ea oZ
 have hD:=n8 p 96 (aC (dJ l)) A2 lr oZ
 rw [hp] at hD
 refine gc hD ?_
 rintro _ _ ⟨g,rfl,rfl⟩
 have hR:Rd [(g,av (ak (aC (dJ l))) 5)] 1 (.slice (some ⟨g,0,none⟩) 96 96) 96 (ak (aC (dJ l))):=aw (by rw [ai,hp]) (aK _) oZ _
 refine gc (Ii T fr _ _ _ hp hR) ?_
 rintro _ _ ⟨g2,rfl,rfl⟩
 refine gz ?_
 exact fin ⟨g2,rfl,rfl⟩ aa
theorem ya (p:Nat)(bs:List UInt8)(i:Nat)(A:Chunk)(hA:n9 p bs i 0 A)(hi:i+32<=bs.length):Ct 226 [ptr p] [A] fun u Bs=>∃A',u=(mu bs i).agg/\n9 p bs (i+32) 0 A'/\Bs=[A']:=by
 refine st Tryz.func226 fun w0 => ?_
 refine ga ?_;intro b2
 refine gc (cj p bs i 8 A hA oZ oZ) ?_
 rintro _ _ ⟨A1,rfl,l6,rfl⟩
 refine gc (cj p bs (i+8) 8 A1 l6 oZ oZ) ?_
 rintro _ _ ⟨A2,rfl,lr,rfl⟩
 refine gc (cj p bs (i+8+8) 8 A2 lr oZ oZ) ?_
 rintro _ _ ⟨A3,rfl,uQ,rfl⟩
 refine gc (cj p bs (i+8+8+8) 8 A3 uQ oZ oZ) ?_
 rintro _ _ ⟨A4,rfl,wY,rfl⟩
 refine gz ?_
 exact fin ⟨A4,rfl,wY,rfl⟩ aa
end Go.Proofs.YtcfioaeamfappaaGreatDoor
namespace Go.Sl
theorem SV (p:Pt):SI p=JO ⟨p.a,p.b,p.c,p.d⟩:=rfl
theorem SW (b:List UInt8)(q:Nat):nm b q 1<256/\nm b q 2<65536/\nm b q 4<4294967296/\nm b q 8<18446744073709551616:=⟨HZ b q 1,HZ b q 2,HZ b q 4,HZ b q 8⟩
end Go.Sl
namespace Go.Proofs.YtcfioaeamfappaaGreatDoor
open Go.Sl
set_option maxRecDepth 10000
theorem kA (p:Pt)(h:fy p=0):Ct 212 [p.agg] [] fun u Bs=>u = .int .i64 0/\Bs=[]:=by
 rcases x4 h with rfl | hg
 ·refine st Tryz.func212 fun w0 => ?_
  refine ga ?_;intro b1
  refine gz ?_
  exact fin ⟨rfl,rfl⟩ aa
 ·obtain ⟨h1,h2,h3,h4,h5,h6,h7,h8,h9⟩:=hg
  refine st Tryz.func212 fun w0 => ?_
  refine ga ?_;intro b1
  refine gi ?_ ?_ <;> intro hz
  ·simp at hz;omega
  ·rcases h9 with h9 | h9
   all_goals
    obtain ⟨tp,at_,fB,bi,kd,a,b,c,d⟩:=p
    simp only at *
    obtain rfl:kd=_:=h9
    refine gz ?_
    exact fin ⟨rfl,rfl⟩ aa
theorem Cf (p room:Nat)(bs:List UInt8)(A:Chunk)(x:Pt)(hx:fy x=0)(ho:x.Ok)(hA:wW p room bs A)(hf:bs.length+48<=room):Ct 267 [ptr p,x.agg] [A] fun _ Bs=>∃A',wW p room (bs++JJ x) A'/\Bs=[A']:=by
 obtain ⟨m1,m2,m3,m4,m5⟩:=zp hx
 obtain ⟨o1,o2,o3,o4,o5,o6,o7,o8,o9⟩:=ho
 obtain ⟨tp,at_,fB,bi,kd,a,b,c,d⟩:=x
 simp only at *
 obtain ⟨tn,rfl⟩:∃n:Nat,tp=n:=⟨tp.toNat,by omega⟩
 obtain ⟨an,rfl⟩:∃n:Nat,at_=n:=⟨at_.toNat,by omega⟩
 obtain ⟨bn,rfl⟩:∃n:Nat,fB=n:=⟨fB.toNat,by omega⟩
 obtain ⟨kn,rfl⟩:∃n:Nat,kd=n:=⟨kd.toNat,by omega⟩
 refine st Tryz.func267 fun w0 => ?_
 refine ga ?_;intro b3
 refine gc (fx p room _ A tn 1 hA oZ oZ oZ) ?_
 rintro _ _ ⟨A1,l6,rfl⟩
 refine gc (fx p room _ A1 kn 1 l6 oZ oZ (by simp only [List.length_append,af];omega)) ?_
 rintro _ _ ⟨A2,lr,rfl⟩
 refine gc (fx p room _ A2 bn 2 lr oZ oZ (by simp only [List.length_append,af];omega)) ?_
 rintro _ _ ⟨A3,uQ,rfl⟩
 refine gc (fx p room _ A3 an 4 uQ oZ oZ (by simp only [List.length_append,af];omega)) ?_
 rintro _ _ ⟨A4,wY,rfl⟩
 refine gc (fx p room _ A4 bi 8 wY oZ oZ (by simp only [List.length_append,af];omega)) ?_
 rintro _ _ ⟨A5,E3,rfl⟩
 refine gc (Ce p room _ A5 ⟨a,b,c,d⟩ ⟨o6,o7,o8,o9⟩ E3 (by simp only [List.length_append,af];omega)) ?_
 rintro _ _ ⟨A6,RB,rfl⟩
 refine gz ?_
 exact fin ⟨A6,by simpa [JJ,SV] using RB,rfl⟩ aa
theorem uR (x:Pt)(hx:fy x=0)(ho:x.Ok):Ct 219 [x.agg] [] fun u Bs=>∃g,u = .tuple #[.slice (some ⟨g,0,none⟩) 64 64,.int .i64 0]/\Bs=[[(g,av (ak (di x)) 5)]]:=by
 refine st Tryz.func219 fun w0 => ?_
 refine ga ?_;intro b1
 refine ge ?_
 refine ga ?_;intro b4
 refine gc (kA x hx) ?_
 rintro _ _ ⟨rfl,rfl⟩
 refine gc (uG 64 oZ) ?_
 rintro _ _ ⟨p,A,rfl,hA,rfl⟩
 refine gc (Cf p 64 [] A x hx ho hA (by simp)) ?_
 rintro _ _ ⟨A1,l6,rfl⟩
 have hl:=lh x
 rw [List.nil_append] at l6
 refine gc (HV p 64 (JJ x) A1 64 l6 oZ) ?_
 rintro _ _ ⟨A2,lr,rfl⟩
 rw [hl] at lr
 have hD:=n8 p 64 (di x) A2 lr (by rw [aZ];omega)
 rw [aZ] at hD
 refine gc hD ?_
 rintro _ _ ⟨g,rfl,rfl⟩
 refine gz ?_
 exact fin ⟨g,rfl,rfl⟩ aa
theorem yb (p:Nat)(bs:List UInt8)(i:Nat)(A:Chunk)(hA:n9 p bs i 0 A)(hi:i+48<=bs.length):Ct 235 [ptr p] [A] fun u Bs=>∃A',u=(Nw bs i).agg/\n9 p bs (i+48) 0 A'/\Bs=[A']:=by
 have n1:numOf (cut bs i 1)<256:=(SW bs i).1
 have n2:numOf (cut bs (i+1) 1)<256:=(SW bs (i+1)).1
 have n3:numOf (cut bs (i+1+1) 2)<65536:=(SW bs (i+1+1)).2.1
 have n4:numOf (cut bs (i+1+1+2) 4)<4294967296:=(SW bs (i+1+1+2)).2.2.1
 refine st Tryz.func235 fun w0 => ?_
 refine ga ?_;intro b2
 refine gc (cj p bs i 1 A hA oZ oZ) ?_
 rintro _ _ ⟨A1,rfl,l6,rfl⟩
 refine gc (cj p bs (i+1) 1 A1 l6 oZ oZ) ?_
 rintro _ _ ⟨A2,rfl,lr,rfl⟩
 refine gc (cj p bs (i+1+1) 2 A2 lr oZ oZ) ?_
 rintro _ _ ⟨A3,rfl,uQ,rfl⟩
 refine gc (cj p bs (i+1+1+2) 4 A3 uQ oZ oZ) ?_
 rintro _ _ ⟨A4,rfl,wY,rfl⟩
 refine gc (cj p bs (i+1+1+2+4) 8 A4 wY oZ oZ) ?_
 rintro _ _ ⟨A5,rfl,E3,rfl⟩
 refine ga ?_;intro b3
 refine gc (ya p bs (i+1+1+2+4+8) A5 E3 oZ) ?_
 rintro _ _ ⟨A6,rfl,RB,rfl⟩
 refine gz ?_
 exact fin ⟨A6,rfl,RB,rfl⟩ aa
end Go.Proofs.YtcfioaeamfappaaGreatDoor
namespace Go.Sl
theorem JX (b L:List UInt8):fQ b L=true↔b.length=128/\b.take 4=L/\mu b 96=aF (b.take 96):=by unfold fQ;rw [decide_eq_true_eq]
theorem uS {b L:List UInt8}(h:¬(b.length=128/\b.take 4=L/\mu b 96=aF (b.take 96))):fQ b L=false:=by unfold fQ;exact decide_eq_false h
theorem JY (b:List UInt8)(q:Nat):mu (b.drop q) 0=mu b q:=by simp [mu,nm,List.drop_drop]
end Go.Sl
namespace Go.Proofs.YtcfioaeamfappaaGreatDoor
open Go.Sl
set_option maxRecDepth 10000
theorem pE (T:TypeId)(fr:Nat×Nat)(O:Chunk)(ad:Option Addr)(c:Nat)(b L:List UInt8)(hb:b.length=128)(hc:128<=c)(hL:L.length=4)(hO:Rd O 1 (.slice ad 128 c) 128 (ak b)):Ct 170 [.slice ad 128 c,str L] [gK T fr,O] fun u Bs=>∃w,u = .tuple #[w,.bool (fQ b L)]/\(fQ b L=true->Rd O 1 w 96 (ak (b.take 96)))/\Bs=[gK T fr,O]:=by
 refine st Tryz.func170 fun w0 => ?_
 have hn:L.length - 0=4:=by omega
 have nZ:((ak b).drop (0*1)).take ((L.length - 0)*1)=ak (b.take 4):=by rw [hn];simp [aL]
 refine gw ?_;intro ad2 kr
 refine gi ?_ ?_ <;> intro h1
 ·have eV:fQ b L=false:=uS fun q=>by simp at h1;exact h1 q.2.1
  refine gz ?_
  exact fin ⟨_,by rw [eV],fun q=>(by rw [eV] at q;cases q),rfl⟩ aa
 ·have h1:b.take 4=L:=by simpa using h1
  have hn3:128 - 96=32:=rfl
  have afo:((ak b).drop (96*1)).take ((128 - 96)*1)=ak (b.drop 96):=by rw [aY,aL,List.take_of_length_le (by rw [List.length_drop];omega)]
  have hn5:96 - 0=96:=rfl
  have afp:((ak b).drop (0*1)).take ((96 - 0)*1)=ak (b.take 96):=by simp [aL]
  have hl3:(b.drop 96).length=32:=by rw [List.length_drop];omega
  have hl5:(b.take 96).length=96:=by rw [List.length_take];omega
  refine gd [0,4,16,20,9,13,27,30] ?_
  refine gw ?_;intro fJ zx
  refine gw ?_;intro rf hR5
  refine gc (q8 (b.drop 96) 32 hl3 oZ O _ zx) ?_
  rintro _ _ ⟨p,A,rfl,hA,rfl⟩
  refine gc (ya p (b.drop 96) 0 A hA oZ) ?_
  rintro _ _ ⟨A1,rfl,l6,rfl⟩
  refine gc (zz T fr O _ (b.take 96) 96 hl5 hR5 oZ 1 (mu (b.drop 96) 0)) ?_
  rintro _ _ ⟨rfl,rfl⟩
  have hk:sM 1 (mu (b.drop 96) 0) (b.take 96)=decide (mu b 96=aF (b.take 96)):=by rw [JY];show (true&&Fs.JI _ _)=_;rw [Bool.true_and,Fs.FQ];rfl
  rw [hk]
  refine gi ?_ ?_ <;> intro h2
  ·have eV:fQ b L=false:=uS fun q=>by simp at h2;exact h2 q.2.2
   refine gz ?_
   exact fin ⟨_,by rw [eV],fun q=>(by rw [eV] at q;cases q),rfl⟩ aa
  ·have Yk:fQ b L=true:=(JX b L).2 ⟨hb,h1,by simpa using h2⟩
   refine gw ?_;intro F3 hR6
   refine gz ?_
   exact fin ⟨_,by rw [Yk],fun _=>hR6,rfl⟩ aa
theorem Ch (T:TypeId)(fr:Nat×Nat)(O:Chunk)(ad:Option Addr)(c:Nat)(b:List UInt8)(hb:b.length=128)(hc:128<=c)(hO:Rd O 1 (.slice ad 128 c) 128 (ak b))(h:fQ b iu=false):Ct 126 [.slice ad 128 c] [gK T fr,O] fun u Bs=>u = .tuple #[mv NS (.slice none 0 0),.int .i64 43]/\Bs=[gK T fr,O]:=by
 have nC:=pE T fr O ad c b iu hb hc rfl hO
 rw [h] at nC
 refine st Tryz.func126 fun w0 => ?_
 refine ga ?_;intro b2
 refine gc nC ?_
 rintro _ _ ⟨w,rfl,_,rfl⟩
 refine gz ?_
 exact fin ⟨rfl,rfl⟩ aa
end Go.Proofs.YtcfioaeamfappaaGreatDoor
namespace Go.Sl
theorem oc {x:Pt}(h:fy x=0)(ho:x.Ok):Nw (di x) 0=x:=by
 have:=BS (zp h) ho [] (List.replicate 16 0) (q:=0) rfl
 simpa [di] using this
theorem NY {u:Ub}(h:zC u=0)(ho:u.Ok):JS (aC (kx u))=u:=by
 obtain ⟨h1,h2⟩:=JT h ho
 have o2:=(gQ (x:=kx u) (letters:=gR) (by rw [jk];omega) rfl ⟨_,rfl⟩).2
 rw [NU,if_pos h1,o2] at h2;exact h2
theorem NZ {l:eR}(h:uN l=0)(ho:l.Ok):FX (aC (dJ l))=l:=by
 obtain ⟨h1,h2⟩:=JR h ho
 have h4:=((ia l).1 h).1.2.1
 have o2:=(gQ (x:=dJ l) (letters:=iu) (by rw [ji];omega) rfl ⟨_,by rw [dJ,Ie,List.append_assoc]⟩).2
 rw [NT,if_pos h1,o2] at h2;exact h2
end Go.Sl
namespace Go.Proofs.YtcfioaeamfappaaGreatDoor
open Go.Sl
set_option maxRecDepth 10000
theorem uT {x:List UInt8}{i:Nat}(h:x.length=i):j1 (aC x) i=true:=by
 rw [j1,aC,List.drop_left' h];simp
theorem zF (x:Pt):j1 (di x) 48=true:=by
 rw [j1,di,List.drop_left' (lh x)];simp
theorem uU (O:Chunk)(ad:Option Addr)(c:Nat)(x:Pt)(hx:fy x=0)(ho:x.Ok)(hO:Rd O 1 (.slice ad 64 c) 64 (ak (di x))):Ct 179 [.slice ad 64 c] [O] fun u Bs=>u = .tuple #[x.agg,.int .i64 0]/\Bs=[O]:=by
 have hl:=aZ x
 have gh:=oc hx ho
 refine st Tryz.func179 fun w0 => ?_
 refine ga ?_;intro b2
 refine ge ?_
 refine ga ?_;intro b8
 refine ga ?_;intro wV
 refine gc (q8 (di x) 64 hl oZ O _ hO) ?_
 rintro _ _ ⟨p,A,rfl,hA,rfl⟩
 have hT:=yb p (di x) 0 A hA oZ
 rw [gh] at hT
 refine gc hT ?_
 rintro _ _ ⟨A1,rfl,l6,rfl⟩
 refine ga ?_;intro RC
 have hP:=FP p (di x) 48 A1 l6 oZ
 rw [hl,zF] at hP
 refine gc hP ?_
 rintro _ _ ⟨A2,lr,rfl⟩
 have hD:=td p (di x) 64 0 A2 lr oZ
 rw [hl] at hD
 refine gc hD ?_
 rintro _ _ ⟨rfl,rfl⟩
 refine gc (kA x hx) ?_
 rintro _ _ ⟨rfl,rfl⟩
 refine gz ?_
 exact fin ⟨rfl,rfl⟩ aa
theorem rh (x:Ub)(h:zC x=0):Ct 157 [x.agg] [] fun u Bs=>u = .int .i64 0/\Bs=[]:=by
 obtain ⟨m1,m2,m3,m4⟩:=zE h
 refine st Tryz.func157 fun w0 => ?_
 refine ga ?_;intro b1
 refine gc (kA x.root m3) ?_
 rintro _ _ ⟨rfl,rfl⟩
 refine gz ?_
 exact fin ⟨rfl,rfl⟩ aa
theorem F4 (T:TypeId)(fr:Nat×Nat)(x:Ub)(h:zC x=0)(ho:x.Ok):Ct 213 [x.agg] [gK T fr] fun u Bs=>∃g,u = .tuple #[.slice (some ⟨g,0,none⟩) 128 128,.int .i64 0]/\Bs=[[(g,av (ak (whole (kx x))) 5)],gK T fr]:=by
 obtain ⟨m1,m2,m3,m4⟩:=zE h
 have hl:=jk x
 have q1:=ho.pool;have q2:=ho.txg;have q3:=ho.note
 refine st Tryz.func213 fun w0 => ?_
 refine ga ?_;intro b1
 refine ge ?_
 refine ga ?_;intro b4
 refine gc (rh x h) ?_
 rintro _ _ ⟨rfl,rfl⟩
 refine gc (uG 96 oZ) ?_
 rintro _ _ ⟨p,A,rfl,hA,rfl⟩
 refine ge ?_
 refine ga ?_;intro b3
 refine gm ?_;intro b7
 refine gc (na p 96 [] gR A _ _ hA (HC (g:=b7) (T:=5) gR dZ) (by simp [gR])) ?_
 rintro _ _ ⟨A1,l6,rfl⟩
 refine gc (fx p 96 _ A1 x.pool 8 l6 oZ q1 (by simp [gR])) ?_
 rintro _ _ ⟨A2,lr,rfl⟩
 refine gc (fx p 96 _ A2 x.txg 8 lr oZ q2 (by simp [gR,af])) ?_
 rintro _ _ ⟨A3,uQ,rfl⟩
 refine gc (fx p 96 _ A3 x.note 8 uQ oZ q3 (by simp [gR,af])) ?_
 rintro _ _ ⟨A4,wY,rfl⟩
 refine gc (Cf p 96 _ A4 x.root m3 ho.root wY (by simp [gR,af])) ?_
 rintro _ _ ⟨A5,E3,rfl⟩
 have E3:wW p 96 (kx x) A5:=by simpa [kx] using E3
 refine gc (HV p 96 (kx x) A5 96 E3 oZ) ?_
 rintro _ _ ⟨A6,RB,rfl⟩
 have hp:(aC (kx x)).length=96:=ea oZ
 have hD:=n8 p 96 (aC (kx x)) A6 RB oZ
 rw [hp] at hD
 refine gc hD ?_
 rintro _ _ ⟨g,rfl,rfl⟩
 have hR:Rd [(g,av (ak (aC (kx x))) 5)] 1 (.slice (some ⟨g,0,none⟩) 96 96) 96 (ak (aC (kx x))):=aw (by rw [ai,hp]) (aK _) oZ _
 refine gc (Ii T fr _ _ _ hp hR) ?_
 rintro _ _ ⟨g2,rfl,rfl⟩
 refine gz ?_
 exact fin ⟨g2,rfl,rfl⟩ aa
theorem Ci (T:TypeId)(fr:Nat×Nat)(O:Chunk)(ad:Option Addr)(c:Nat)(b:List UInt8)(hb:b.length=128)(hc:128<=c)(hO:Rd O 1 (.slice ad 128 c) 128 (ak b))(h:fQ b gR=false):Ct 152 [.slice ad 128 c] [gK T fr,O] fun u Bs=>u = .tuple #[jj.agg,.int .i64 45]/\Bs=[gK T fr,O]:=by
 have nC:=pE T fr O ad c b gR hb hc rfl hO
 rw [h] at nC
 refine st Tryz.func152 fun w0 => ?_
 refine ga ?_;intro b2
 refine gc nC ?_
 rintro _ _ ⟨w,rfl,_,rfl⟩
 refine gz ?_
 exact fin ⟨rfl,rfl⟩ aa
theorem F5 (T:TypeId)(fr:Nat×Nat)(O:Chunk)(ad:Option Addr)(c:Nat)(x:Ub)(h:zC x=0)(ho:x.Ok)(hc:128<=c)(hO:Rd O 1 (.slice ad 128 c) 128 (ak (whole (kx x)))):Ct 152 [.slice ad 128 c] [gK T fr,O] fun u Bs=>u = .tuple #[x.agg,.int .i64 0]/\Bs=[gK T fr,O]:=by
 have hl:=jk x
 obtain ⟨o1,o2⟩:=gQ (x:=kx x) (letters:=gR) oZ rfl ⟨_,rfl⟩
 have nC:=pE T fr O ad c _ gR (fP oZ) hc rfl hO
 rw [o1,o2] at nC
 have gh:=NY h ho
 have hp:(aC (kx x)).length=96:=ea oZ
 refine st Tryz.func152 fun w0 => ?_
 refine ga ?_;intro b2
 refine gc nC ?_
 rintro _ _ ⟨w,rfl,hw,rfl⟩
 have hw:=hw rfl
 obtain ⟨ad2,c2,rfl⟩:=hw.slice
 refine ge ?_
 refine ga ?_;intro b8
 refine ga ?_;intro wV
 refine gc (q8 (aC (kx x)) 96 hp oZ O _ hw) ?_
 rintro _ _ ⟨p,A,rfl,hA,rfl⟩
 refine ge ?_
 refine ga ?_;intro c2
 refine gc (pA p (aC (kx x)) 0 4 A hA oZ) ?_
 rintro _ _ ⟨A1,b1,rfl,l6,rfl⟩
 refine gc (cj p (aC (kx x)) 4 8 A1 l6 oZ oZ) ?_
 rintro _ _ ⟨A2,rfl,lr,rfl⟩
 refine gc (cj p (aC (kx x)) 12 8 A2 lr oZ oZ) ?_
 rintro _ _ ⟨A3,rfl,uQ,rfl⟩
 refine gc (cj p (aC (kx x)) 20 8 A3 uQ oZ oZ) ?_
 rintro _ _ ⟨A4,rfl,wY,rfl⟩
 refine gc (yb p (aC (kx x)) 28 A4 wY oZ) ?_
 rintro _ _ ⟨A5,rfl,E3,rfl⟩
 refine ga ?_;intro RC
 have hP:=FP p (aC (kx x)) 76 A5 E3 oZ
 rw [hp,uT hl] at hP
 have hag:(JS (aC (kx x))).agg=x.agg:=by rw [gh]
 have Cj:=rh x h
 rw [<-hag] at Cj ⊢
 refine gc hP ?_
 rintro _ _ ⟨A6,RB,rfl⟩
 have hD:=td p (aC (kx x)) 96 0 A6 RB oZ
 rw [hp] at hD
 refine gc hD ?_
 rintro _ _ ⟨rfl,rfl⟩
 refine gc Cj ?_
 rintro _ _ ⟨rfl,rfl⟩
 refine gz ?_
 exact fin ⟨rfl,rfl⟩ aa
end Go.Proofs.YtcfioaeamfappaaGreatDoor
namespace Go.Sl
section
variable {α:Type}{T:TypeId}{s:Nat}{lay:List α->List Value}
def wZ (T:TypeId)(s:Nat)(lay:List α->List Value):Chunk->List Value->List (List α)->Prop
 | D,[],[]=>D=[]
 | D,v :: vs,x :: xs=>∃C D',D=C++D'/\az C T s v x.length (lay x)/\wZ T s lay D' vs xs
 | _,_,_=>False
theorem wZ.len:∀ {D:Chunk} {vs:List Value} {xs:List (List α)},wZ T s lay D vs xs->vs.length=xs.length
 | _,[],[],_=>rfl
 | _,_ :: _,_ :: _,⟨_,_,_,_,h⟩=>by simp [h.len]
 | _,[],_ :: _,h=>h.elim
 | _,_ :: _,[],h=>h.elim
theorem wZ.snoc {C:Chunk}{v:Value}{x:List α}(hC:az C T s v x.length (lay x)):∀ {D:Chunk} {vs:List Value} {xs:List (List α)},wZ T s lay D vs xs->wZ T s lay (D++C) (vs++[v]) (xs++[x])
 | _,[],[],h=>by
  cases h
  exact ⟨C,[],by simp,hC,rfl⟩
 | _,_ :: _,_ :: _,⟨C0,D',e,SX,h⟩=>⟨C0,D'++C,by rw [e,List.append_assoc],SX,h.snoc hC⟩
 | _,[],_ :: _,h=>h.elim
 | _,_ :: _,[],h=>h.elim
theorem wZ.at:∀ {D:Chunk} {vs:List Value} {xs:List (List α)},wZ T s lay D vs xs->∀ {i:Nat} (hi:i<xs.length),
  ∃A C B v,D=A++(C++B)/\vs[i]? = some v/\az C T s v xs[i].length (lay xs[i])/\∀C' v' x',az C' T s v' x'.length (lay x')->wZ T s lay (A++(C'++B)) (vs.set i v') (xs.set i x')
 | _,v :: vs,x :: xs,⟨C,D',e,hC,h⟩,0,_=>⟨[],C,D',v,by simpa using e,rfl,hC,fun C' v' x' bA=>⟨C',D',by simp,bA,h⟩⟩
 | _,v :: vs,x :: xs,⟨C,D',e,hC,h⟩,i+1,hi=>by
  obtain ⟨A,C2,B,v2,e2,hv,hB,hk⟩:=h.at (i:=i) (by simpa using hi)
  refine ⟨C++A,C2,B,v2,by rw [e,e2,List.append_assoc],hv,hB,fun C' v' x' bA => ?_⟩
  exact ⟨C,A++(C'++B),by rw [List.append_assoc],hC,hk C' v' x' bA⟩
 | _,[],[],_,_,hi=>absurd hi (by simp)
 | _,[],_ :: _,h,_,_=>h.elim
 | _,_ :: _,[],h,_,_=>h.elim
theorem wZ.rd {D:Chunk}{vs:List Value}{xs:List (List α)}(h:wZ T s lay D vs xs){i:Nat}(hi:i<xs.length):∃v,vs[i]? = some v/\Rd D s v xs[i].length (lay xs[i]):=by
 obtain ⟨A,C,B,v,rfl,hv,hC, -⟩:=h.at hi
 exact ⟨v,hv,hC.rd.sub fun x hx=>by simp [hx]⟩
end
section
variable {α:Type}{lay:α->List Value}{s:Nat}
theorem ri (hl:∀a,(lay a).length=s):∀(k:Nat) (l:List α),(l.flatMap lay).drop (k*s)=(l.drop k).flatMap lay
 | 0,l=>by simp
 | k+1,[]=>by simp
 | k+1,y :: r=>by rw [List.flatMap_cons,Nat.succ_mul,List.drop_succ_cons,<-ri hl k r,Nat.add_comm (k*s) s,<-List.drop_drop,List.drop_left' (hl y)]
theorem kB (hl:∀a,(lay a).length=s):∀(k:Nat) (l:List α),(l.flatMap lay).take (k*s)=(l.take k).flatMap lay
 | 0,l=>by simp
 | k+1,[]=>by simp
 | k+1,y :: r=>by rw [List.flatMap_cons,List.take_succ_cons,List.flatMap_cons,<-kB hl k r,Nat.succ_mul,Nat.add_comm (k*s) s,List.take_add,List.take_left' (hl y),List.drop_left' (hl y)]
end
theorem SY (xs:List UInt8)(i:Nat)(x:UInt8):(ak xs).set i (.int .u8 x.toNat)=ak (xs.set i x):=by simp [ak,List.map_set]
section
variable {α:Type}
def cY (n k:Nat):Nat:=(n+(k - 1)) / k
def kC (k:Nat)(l:List α)(i:Nat):List (List α):=(List.range i).map fun j=>(l.drop (j*k)).take k
def jl (k:Nat)(l:List α):List (List α):=kC k l (cY l.length k)
theorem uV (k:Nat)(l:List α)(i:Nat):kC k l (i+1)=kC k l i++[(l.drop (i*k)).take k]:=by simp [kC,List.range_succ]
theorem zG (k:Nat)(l:List α)(i:Nat):(kC k l i).length=i:=by simp [kC]
theorem dA (k:Nat)(l:List α):(jl k l).length=cY l.length k:=zG _ _ _
theorem lu {k:Nat}{l:List α}{i:Nat}(h:i<(jl k l).length):(jl k l)[i]=(l.drop (i*k)).take k:=by simp [jl,kC]
theorem og {n k i:Nat}(h1:n<=i*k)(h2:i*k<n+k):cY n k=i:=by
 unfold cY
 have hk:0<k:=by
  rcases Nat.eq_zero_or_pos k with rfl | h
  ·simp at h2;omega
  ·exact h
 rw [Nat.div_eq_iff hk]
 constructor
 ·omega
 ·have:=Nat.succ_mul i k;omega
end
def eg (x:List UInt8):List UInt8:=if x=List.replicate x.length 0 then [] else x
def bp (x:List UInt8):Bool:=decide (x=List.replicate x.length 0)
theorem Ck {x:List UInt8}(h:bp x=true):eg x=[]:=by simp only [bp,decide_eq_true_eq] at h;simp only [eg];rw [if_pos h]
theorem mw {x:List UInt8}(h:bp x=false):eg x=x:=by simp only [bp,decide_eq_false_iff_not] at h;simp only [eg];rw [if_neg h]
def eS (b:List UInt8):List (List UInt8):=(jl 1024 b).map eg
theorem F6 {b:List UInt8}{i:Nat}(hi:i<b.length)(h:b.take i=List.replicate i 0)(hz:b[i]=0):b.take (i+1)=List.replicate (i+1) 0:=by
 rw [List.take_add_one,h,List.getElem?_eq_getElem hi,hz,List.replicate_succ'];rfl
theorem JZ {b:List UInt8}{i:Nat}(hi:i<b.length)(hz:b[i]≠0):bp b=false:=by
 simp only [bp,decide_eq_false_iff_not]
 intro h
 apply hz
 have:b[i]? = some 0:=by rw [h,List.getElem?_replicate,if_pos hi]
 rw [List.getElem?_eq_getElem hi] at this
 exact Option.some.inj this
theorem J0 {b:List UInt8}(h:b.take b.length=List.replicate b.length 0):bp b=true:=by
 rw [List.take_length] at h
 simpa [bp] using h
abbrev aO (l:List Pt):List Value:=l.flatMap Pt.lay
end Go.Sl
namespace Go.Proofs.YtcfioaeamfappaaGreatDoor
open Go.Sl
set_option maxRecDepth 10000
set_option maxHeartbeats 4000000
theorem zH (v:Value)(O:Chunk)(b:List UInt8)(n:Nat)(hn:b.length=n)(hO:Rd O 1 v n (ak b)):Ct 261 [v] [O] fun u Bs=>u = .bool (bp b)/\Bs=[O]:=by
 have FY:=hO.2.2.1
 simp only [maxLen] at FY
 obtain ⟨ad,c,rfl⟩:=hO.slice
 refine st Tryz.func261 fun w0 => ?_
 refine ge ?_
 refine ge ?_
 refine gl [0,1,6,7] (fun (i:Nat)=>[(8,.int .i64 i)]) (fun _=>[]) (fun i=>i<=n/\b.take i=List.replicate i 0) (fun i=>n - i) 0 ⟨by omega,rfl⟩ ?_
 rintro i ⟨hi,hb⟩
 refine gi ?_ ?_ <;> intro bh
 ·have bo:i<b.length:=by omega
  obtain ⟨g,o,rfl⟩:=hO.addr oZ
  obtain ⟨x,hx⟩:∃x,b[i]? = some x:=eB bo
  have yc:b[i]=x:=by rw [List.getElem?_eq_getElem bo] at hx;exact Option.some.inj hx
  refine ge ?_
  refine gi ?_ ?_ <;> intro eP
  ·refine gz ?_
   exact fin ⟨congrArg _ (JZ bo (by rw [yc];intro h0;rw [h0] at eP;exact absurd eP dZ)).symm,rfl⟩ aa
  ·refine gn ?_
   exact ⟨i+1,⟨by omega,F6 bo hb (by rw [yc];exact UInt8.toNat_inj.1 (by show x.toNat=0;omega))⟩,by omega,aq,_,aa⟩
 ·obtain rfl:i=b.length:=by omega
  refine gz ?_
  exact fin ⟨congrArg _ (J0 hb).symm,rfl⟩ aa
theorem Cl (O:Chunk)(ad:Option Addr)(m c:Nat)(xs:List Value)(hR:Rd O 1 (.slice ad m c) m xs)(hm:1<=m/\m<=100000):Ct 116 [.slice ad m c] [O] fun u Bs=>∃ba c' D',u = .slice ba m c'/\az D' 5 1 (.slice ba m c') m xs/\Bs=[D',O]:=by
 obtain ⟨g,o,rfl⟩:=hR.addr oZ
 refine st Tryz.func116 fun w0 => ?_
 refine gm ?_;intro b
 have hB:az [(b,av [] 5)] 5 1 (.slice (some ⟨b,0,none⟩) 0 0) 0 []:=⟨rfl,by simp,.inr ⟨b,0,[],rfl,rfl,by omega,by simp [maxLen],rfl⟩⟩
 refine gp ?_;intro ba c' C' bA
 rw [Nat.zero_add,List.nil_append] at bA
 refine gz ?_
 exact fin ⟨ba,c',C',by rw [Nat.zero_add],bA,rfl⟩ aa
theorem Cn (O:Chunk)(ad:Option Addr)(m c:Nat)(xs:List Value)(hR:Rd O 9 (.slice ad m c) m xs)(hm:1<=m/\m<=100000):Ct 115 [.slice ad m c] [O] fun u Bs=>∃ba c' D',u = .slice ba m c'/\az D' 85 9 (.slice ba m c') m xs/\Bs=[D',O]:=by
 obtain ⟨g,o,rfl⟩:=hR.addr oZ
 refine st Tryz.func115 fun w0 => ?_
 refine gm ?_;intro b
 have hB:az [(b,av [] 85)] 85 9 (.slice (some ⟨b,0,none⟩) 0 0) 0 []:=⟨rfl,by simp,.inr ⟨b,0,[],rfl,rfl,by omega,by simp [maxLen],rfl⟩⟩
 refine gp ?_;intro ba c' C' bA
 rw [Nat.zero_add,List.nil_append] at bA
 refine gz ?_
 exact fin ⟨ba,c',C',by rw [Nat.zero_add],bA,rfl⟩ aa
theorem rj (O:Chunk)(ad:Option Addr)(n c k:Nat)(b:List UInt8)(hn:b.length=n)(hR:Rd O 1 (.slice ad n c) n (ak b))(hc:n<=c)(hb:n<=10000)(hk:1<=k/\k<=10000):Ct 177 [.slice ad n c,.int .i64 k] [O] fun u Bs=>∃ba c' vs D V,u = .slice ba (cY n k) c'/\az D 28 1 u (cY n k) vs/\wZ 5 1 ak V vs (jl k b)/\Bs=[D,V,O]:=by
 refine st Tryz.func177 fun w0 => ?_
 refine gl [1] (fun ((i,ad,m,c,v5,_):Nat×Option Addr×Nat×Nat×Value×List Value×Chunk×Chunk)=>[(0,.slice ad m c),(5,v5)]) (fun (_,_,_,_,_,_,D,V)=>[D,V]) (fun (i,ad,m,c,v5,vs,D,V)=>m=n - i*k/\i*k<n+k/\m<=c/\Rd O 1 (.slice ad m c) m (ak (b.drop (i*k)))/\(∃rf c5,v5 = .slice rf i c5)/\az D 28 1 v5 i vs/\wZ 5 1 ak V vs (kC k b i)) (fun (i,_)=>n+k - i*k) (0,ad,n,c,.slice none 0 0,[],[],[]) ⟨by simp,by omega,hc,by simpa using hR,⟨none,0,rfl⟩,az.nil _ _,rfl⟩ ?_
 clear hR
 rintro ⟨i,ad,m,c,v5,vs,D,V⟩ ⟨rfl,hi,hc,hR,⟨rf,c5,rfl⟩,hD,hV⟩
 have hsi:(i+1)*k=i*k+k:=Nat.succ_mul i k
 have hii:i*1<=i*k:=Nat.mul_le_mul_left i hk.1
 refine gi ?_ ?_ <;> intro bh
 ·refine go ?_
  rw [show min (k:Int) ((n - i*k:Nat):Int)=((min k (n - i*k):Nat):Int) by omega]
  obtain ⟨q,hq⟩:∃q,q=min k (n - i*k):=⟨_,rfl⟩
  rw [<-hq]
  have nZ:((ak (b.drop (i*k))).drop (0*1)).take ((q - 0)*1)=ak ((b.drop (i*k)).take k):=by
   rw [Nat.zero_mul,List.drop_zero,Nat.sub_zero,Nat.mul_one,aL,hq]
   congr 1
   refine List.take_eq_take_iff.2 ?_
   rw [List.length_drop,hn];omega
  have HH:q - 0=q:=rfl
  refine gw ?_;intro ad2 kr
  refine gc (Cl O ad2 q _ _ kr oZ) ?_
  rintro _ _ ⟨fJ,c3,D3,rfl,Yl,rfl⟩
  refine gm ?_;intro b19
  refine gp ?_;intro pF c4 D4 hD4
  have hz:((ak (b.drop (i*k))).drop (q*1)).take ((n - i*k - q)*1)=ak (b.drop ((i+1)*k)):=by
   rw [Nat.mul_one,Nat.mul_one,aY,aL,List.drop_drop,List.take_of_length_le (by rw [List.length_drop,hn];omega)]
   congr 1
   rcases Nat.le_total k (n - i*k) with h | h
   ·rw [show q=k by omega,hsi]
   ·rw [List.drop_eq_nil_of_le (by rw [hn];omega),List.drop_eq_nil_of_le (by rw [hn];omega)]
  have Ic:n - i*k - q=n - (i+1)*k:=by omega
  clear kr nZ
  refine gw ?_;intro F3 hR6
  refine gn ?_
  refine ⟨(i+1,F3,_,_,_,_,D4,V++D3),⟨rfl,by omega,by omega,hR6,⟨pF,c4,rfl⟩,hD4, ?_⟩,by simp only;omega,aq,_,aa⟩
  rw [uV]
  refine hV.snoc ?_
  rw [show ((b.drop (i*k)).take k).length=q by rw [List.length_take,List.length_drop,hn];omega]
  exact Yl
 ·have nN:cY n k=i:=og oZ hi
  have Sd:kC k b i=jl k b:=by rw [jl,hn,nN]
  rw [Sd] at hV
  refine gz ?_
  rw [<-nN] at hD ⊢
  exact fin ⟨rf,c5,vs,D,V,rfl,hD,hV,rfl⟩ aa
theorem J1 (O:Chunk)(ad:Option Addr)(n c k:Nat)(b:List Pt)(hn:b.length=n)(hR:Rd O 9 (.slice ad n c) n (aO b))(hc:n<=c)(hb:n<=10000)(hk:1<=k/\k<=10000):Ct 290 [.slice ad n c,.int .i64 k] [O] fun u Bs=>∃ba c' vs D V,u = .slice ba (cY n k) c'/\az D 88 1 u (cY n k) vs/\wZ 85 9 aO V vs (jl k b)/\Bs=[D,V,O]:=by
 refine st Tryz.func290 fun w0 => ?_
 refine gl [1] (fun ((i,ad,m,c,v5,_):Nat×Option Addr×Nat×Nat×Value×List Value×Chunk×Chunk)=>[(0,.slice ad m c),(5,v5)]) (fun (_,_,_,_,_,_,D,V)=>[D,V]) (fun (i,ad,m,c,v5,vs,D,V)=>m=n - i*k/\i*k<n+k/\m<=c/\Rd O 9 (.slice ad m c) m (aO (b.drop (i*k)))/\(∃rf c5,v5 = .slice rf i c5)/\az D 88 1 v5 i vs/\wZ 85 9 aO V vs (kC k b i)) (fun (i,_)=>n+k - i*k) (0,ad,n,c,.slice none 0 0,[],[],[]) ⟨by simp,by omega,hc,by simpa using hR,⟨none,0,rfl⟩,az.nil _ _,rfl⟩ ?_
 clear hR
 rintro ⟨i,ad,m,c,v5,vs,D,V⟩ ⟨rfl,hi,hc,hR,⟨rf,c5,rfl⟩,hD,hV⟩
 have hsi:(i+1)*k=i*k+k:=Nat.succ_mul i k
 have hii:i*1<=i*k:=Nat.mul_le_mul_left i hk.1
 refine gi ?_ ?_ <;> intro bh
 ·refine go ?_
  rw [show min (k:Int) ((n - i*k:Nat):Int)=((min k (n - i*k):Nat):Int) by omega]
  obtain ⟨q,hq⟩:∃q,q=min k (n - i*k):=⟨_,rfl⟩
  rw [<-hq]
  have nZ:((aO (b.drop (i*k))).drop (0*9)).take ((q - 0)*9)=aO ((b.drop (i*k)).take k):=by
   rw [Nat.zero_mul,List.drop_zero,Nat.sub_zero]
   show (List.flatMap _ _).take (q*9)=List.flatMap _ _
   rw [kB Pt.aj,hq]
   congr 1
   refine List.take_eq_take_iff.2 ?_
   rw [List.length_drop,hn];omega
  have HH:q - 0=q:=rfl
  refine gw ?_;intro ad2 kr
  refine gc (Cn O ad2 q _ _ kr oZ) ?_
  rintro _ _ ⟨fJ,c3,D3,rfl,Yl,rfl⟩
  refine gm ?_;intro b19
  refine gp ?_;intro pF c4 D4 hD4
  have hz:((aO (b.drop (i*k))).drop (q*9)).take ((n - i*k - q)*9)=aO (b.drop ((i+1)*k)):=by
   show ((List.flatMap _ _).drop (q*9)).take ((n - i*k - q)*9)=List.flatMap _ _
   rw [ri Pt.aj,kB Pt.aj,List.drop_drop,List.take_of_length_le (by rw [List.length_drop,hn];omega)]
   congr 1
   rcases Nat.le_total k (n - i*k) with h | h
   ·rw [show q=k by omega,hsi]
   ·rw [List.drop_eq_nil_of_le (by rw [hn];omega),List.drop_eq_nil_of_le (by rw [hn];omega)]
  have Ic:n - i*k - q=n - (i+1)*k:=by omega
  clear kr nZ
  refine gw ?_;intro F3 hR6
  refine gn ?_
  refine ⟨(i+1,F3,_,_,_,_,D4,V++D3),⟨rfl,by omega,by omega,hR6,⟨pF,c4,rfl⟩,hD4, ?_⟩,by simp only;omega,aq,_,aa⟩
  rw [uV]
  refine hV.snoc ?_
  rw [show ((b.drop (i*k)).take k).length=q by rw [List.length_take,List.length_drop,hn];omega]
  exact Yl
 ·have nN:cY n k=i:=og oZ hi
  have Sd:kC k b i=jl k b:=by rw [jl,hn,nN]
  rw [Sd] at hV
  refine gz ?_
  rw [<-nN] at hD ⊢
  exact fin ⟨rf,c5,vs,D,V,rfl,hD,hV,rfl⟩ aa
theorem N0 (ad:Option Addr)(n c:Nat)(vs:List Value)(xs:List (List UInt8))(D V:Chunk)(hD:az D 28 1 (.slice ad n c) n vs)(hV:wZ 5 1 ak V vs xs)(hn:n<=10000):Ct 220 [.slice ad n c] [D,V]
  fun u Bs=>∃ws D' V',u = .slice ad n c/\az D' 28 1 u n ws/\wZ 5 1 ak V' ws (xs.map eg)/\Bs=[D',V']:=by
 have RD:=hD.1
 rw [Nat.mul_one] at RD
 have VM:=hV.len
 refine st Tryz.func220 fun w0 => ?_
 refine gl [0,5,6] (fun ((i,_):Nat×List Value×Chunk×Chunk)=>[(7,.int .i64 i)]) (fun (_,_,D,V)=>[D,V]) (fun (i,ws,D,V)=>i<=n/\az D 28 1 (.slice ad n c) n ws/\wZ 5 1 ak V ws ((xs.take i).map eg++xs.drop i)) (fun (i,_)=>n - i) (0,vs,D,V) ⟨by omega,hD,by simpa using hV⟩ ?_
 clear hD hV
 rintro ⟨i,ws,D,V⟩ ⟨hi,hD,hV⟩
 refine gi ?_ ?_ <;> intro bh
 ·have bo:i<xs.length:=by omega
  obtain ⟨g,c2,r,hv,rfl,F7,lS,tc⟩:=hD.opened oZ
  cases hv
  have A7:=hD.1
  rw [Nat.mul_one] at A7
  obtain ⟨A,E,B,v,rfl,Ym,hE,eQ⟩:=hV.at (i:=i) (by simp;omega)
  have uW:((xs.take i).map eg++xs.drop i)[i]'(by simp;omega)=xs[i]:=by
   rw [List.getElem_append_right (by simp;omega)]
   simp [Nat.min_eq_left (Nat.le_of_lt bo)]
  rw [uW] at hE
  have bV:(ws++r)[i]? = some v:=by rw [List.getElem?_append_left oZ];exact Ym
  have cu:(xs.take (i+1)).map eg++xs.drop (i+1)=((xs.take i).map eg++xs.drop i).set i (eg xs[i]):=by
   rw [List.take_add_one,List.getElem?_eq_getElem bo,List.map_append,List.set_append_right _ _ (show (List.map eg (List.take i xs)).length<=i by simp;omega)]
   rw [List.length_map,List.length_take,Nat.min_eq_left (Nat.le_of_lt bo),Nat.sub_self,List.drop_eq_getElem_cons bo]
   simp only [Option.toList_some,List.map_cons,List.map_nil,List.set_cons_zero,List.append_assoc,List.cons_append,List.nil_append]
  refine gs ?_
  refine gc (zH v E xs[i] _ rfl hE.rd) ?_
  rintro _ _ ⟨rfl,rfl⟩
  refine gi ?_ ?_ <;> intro cV
  ·have hB0:=eQ [] (.slice none 0 0) [] (az.nil _ _)
   rw [<-Ck cV,<-cu] at hB0
   have Cp:(ws++r).set i (.slice none 0 0)=ws.set i (.slice none 0 0)++r:=List.set_append_left _ _ oZ
   have BR:az [(g,av (ws.set i (.slice none 0 0)++r) 28)] 28 1 (.slice (some ⟨g,0,none⟩) n c) n (ws.set i (.slice none 0 0)):=tX (by rw [List.length_set];exact hD.1) (fun u hu=>by
    rcases List.mem_or_eq_of_mem_set hu with h | rfl
    ·exact hD.2.1 u h
    ·rfl) F7 lS (by rw [List.length_set];exact tc)
   refine gn ?_
   rw [Cp]
   exact ⟨(i+1,ws.set i (.slice none 0 0),_,A++([]++B)),⟨by omega,BR,hB0⟩,by simp only;omega,aq,_,aa⟩
  ·have e:=mw (x:=xs[i]) (by simpa using cV)
   have ac0:(xs.take (i+1)).map eg++xs.drop (i+1)=(xs.take i).map eg++xs.drop i:=by
    rw [List.take_add_one,List.getElem?_eq_getElem bo,List.map_append,List.drop_eq_getElem_cons bo]
    simp [e]
   refine gn ?_
   exact ⟨(i+1,ws,_,A++(E++B)),⟨by omega,hD,by rw [ac0];exact hV⟩,by simp only;omega,aq,_,aa⟩
 ·obtain rfl:i=n:=by omega
  rw [show i=xs.length by omega,List.take_length,List.drop_length,List.append_nil] at hV
  refine gz ?_
  exact fin ⟨ws,D,V,rfl,hD,hV,rfl⟩ aa
end Go.Proofs.YtcfioaeamfappaaGreatDoor
namespace Go.Sl
def fR (l:List Pt):List UInt8:=l.flatMap di
def kD (l:List Pt):List (List UInt8):=(jl 16 l).map fun g=>eg (fR g)
theorem jm (l:List Pt):(fR l).length=64*l.length:=by
 induction l with
 | nil=>rfl
 | cons x r ih=>simp only [fR,List.flatMap_cons,List.length_append,aZ,List.length_cons] at *;omega
theorem pG {α β:Type}{f:α->List β}{k:Nat}(hk:0<k)(hf:∀x,(f x).length=k)(l:List α):jl k (l.flatMap f)=l.map f:=by
 have hl:(l.flatMap f).length=l.length*k:=by
  induction l with
  | nil=>simp
  | cons x r ih=>rw [List.flatMap_cons,List.length_append,ih,hf,List.length_cons,Nat.succ_mul];omega
 have hn:cY (l.length*k) k=l.length:=og (Nat.le_refl _) oZ
 apply List.ext_getElem
 ·rw [dA,hl,hn,List.length_map]
 ·intro i h1 h2
  rw [lu]
  rw [List.length_map] at h2
  clear hl hn h1
  rw [List.getElem_map]
  induction l generalizing i with
  | nil=>simp at h2
  | cons x r ih =>
   cases i with
   | zero=>rw [Nat.zero_mul,List.drop_zero,List.flatMap_cons,List.take_left' (hf x)];rfl
   | succ i =>
    rw [List.flatMap_cons,Nat.succ_mul,Nat.add_comm,<-List.drop_drop,List.drop_left' (hf x),ih i (by simpa using h2)]
    ·rfl
    ·simpa using h2
theorem gV {α:Type}{l:List α}{i:Nat}(h:i<l.length):l.take (i+1)=l.take i++[l[i]]:=by rw [List.take_add_one,List.getElem?_eq_getElem h];rfl
theorem J2 {l:List Pt}{i:Nat}(h:i<l.length):fR (l.take (i+1))=fR (l.take i)++di l[i]:=by rw [fR,gV h,List.flatMap_append,List.flatMap_singleton];rfl
end Go.Sl
namespace Go.Proofs.YtcfioaeamfappaaGreatDoor
open Go.Sl
set_option maxRecDepth 10000
set_option maxHeartbeats 4000000
theorem SZ (O:Chunk)(ad:Option Addr)(n c:Nat)(b:List UInt8)(hn:b.length=n)(hR:Rd O 1 (.slice ad n c) n (ak b))(hc:n<=c)(hb:n<=10000) :
  Ct 163 [.slice ad n c] [O] fun u Bs=>∃ba c' vs D V,u = .slice ba (cY n 1024) c'/\az D 28 1 u (cY n 1024) vs/\wZ 5 1 ak V vs (eS b)/\Bs=[D,V,O]:=by
 have hN:cY n 1024<=10000:=by unfold cY;omega
 refine st Tryz.func163 fun w0 => ?_
 refine gc (rj O ad n c 1024 b hn hR hc hb oZ) ?_
 rintro _ _ ⟨iI,c1,vs,D,V,rfl,hD,hV,rfl⟩
 refine gc (N0 iI _ c1 vs _ D V hD hV hN) ?_
 rintro _ _ ⟨ws,D',V',rfl,eo,RG,rfl⟩
 refine gz ?_
 exact fin ⟨iI,c1,ws,D',V',rfl,eo,RG,rfl⟩ aa
theorem N1 (O:Chunk)(ad:Option Addr)(n c:Nat)(l:List Pt)(hn:l.length=n)(hR:Rd O 9 (.slice ad n c) n (aO l))(hc:n<=c)(hb:n<=1000)(hp:∀x∈l,fy x=0/\x.Ok) :
  Ct 265 [.slice ad n c] [O] fun u Bs=>∃ba c' vs D V,u = .tuple #[.slice ba (cY n 16) c',.int .i64 0]/\az D 28 1 (.slice ba (cY n 16) c') (cY n 16) vs/\wZ 5 1 ak V vs (kD l)/\Bs=[D,V,O]:=by
 have hN:cY n 16<=1000:=by unfold cY;omega
 have qE:(jl 16 l).length=cY n 16:=by rw [dA,hn]
 refine st Tryz.func265 fun w0 => ?_
 refine gc (J1 O ad n c 16 l hn hR hc oZ oZ) ?_
 rintro _ _ ⟨iI,c1,vs,D0,V0,rfl,E7,S0,rfl⟩
 have uX:=E7.rd
 generalize cY n 16=N at *
 refine gl [0,16,17] (fun ((i,v4,_):Nat×Value×List Value×Chunk×Chunk)=>[(18,.int .i64 i),(4,v4)]) (fun (_,_,_,D,V)=>[D,V]) (fun (i,v4,ws,D,V)=>i<=N/\(∃pF c4,v4 = .slice pF i c4)/\az D 28 1 v4 i ws/\wZ 5 1 ak V ws (((jl 16 l).take i).map fR)) (fun (i,_)=>N - i) (0,.slice none 0 0,[],[],[]) ⟨by omega,⟨none,0,rfl⟩,az.nil _ _,rfl⟩ ?_
 rintro ⟨i,v4,ws,D,V⟩ ⟨hi,⟨pF,c4,rfl⟩,hD,hV⟩
 refine gi ?_ ?_ <;> intro bh
 ·have bo:i<(jl 16 l).length:=by omega
  obtain ⟨v,Ym,xl⟩:=S0.rd bo
  obtain ⟨g,hg⟩:∃g,g=(jl 16 l)[i]:=⟨_,rfl⟩
  rw [<-hg] at xl
  have hgl:g.length<=16:=by rw [hg,lu,List.length_take];omega
  have hgp:∀x∈g,fy x=0/\x.Ok:=fun x hx=>hp x (by rw [hg,lu] at hx;exact List.mem_of_mem_drop (List.mem_of_mem_take hx))
  obtain ⟨g1,o1,rfl⟩:=uX.addr oZ
  obtain ⟨adg,cg,rfl⟩:=xl.slice
  refine gl [0,4,16,17,18,22,23] (fun ((j,v7,_):Nat×Value×Chunk)=>[(24,.int .i64 j),(7,v7)]) (fun (_,_,C)=>[C]) (fun (j,v7,C)=>j<=g.length/\(∃sN c7,v7 = .slice sN (64*j) c7)/\az C 5 1 v7 (64*j) (ak (fR (g.take j)))) (fun (j,_)=>g.length - j) (0,.slice none 0 0,[]) ⟨by omega,⟨none,0,rfl⟩,az.nil _ _⟩ ?_
  rintro ⟨j,v7,C⟩ ⟨hj,⟨sN,c7,rfl⟩,hC⟩
  refine gi ?_ ?_ <;> intro oV
  ·have hjg:j<g.length:=by omega
   have hx:g[j]? = some g[j]:=List.getElem?_eq_getElem hjg
   obtain ⟨x,yc⟩:∃x,x=g[j]:=⟨_,rfl⟩
   rw [<-yc] at hx
   have hs:=ar Pt.aj g j _ hx
   obtain ⟨g2,o2,rfl⟩:=xl.addr oZ
   obtain ⟨Cq,Yi⟩:=hgp x (by rw [yc];exact List.getElem_mem _)
   refine ga ?_;intro b9
   refine gc (uR x Cq Yi) ?_
   rintro _ _ ⟨VZ,rfl,rfl⟩
   have hRe:Rd [(VZ,av (ak (di x)) 5)] 1 (.slice (some ⟨VZ,0,none⟩) 64 64) 64 (ak (di x)):=aw (by rw [ai,aZ]) (aK _) oZ _
   refine gp ?_;intro yd c8 C8 LN
   have he:ak (fR (g.take j))++ak (di x)=ak (fR (g.take (j+1))):=by rw [J2 hjg,<-yc,aE]
   rw [he] at LN
   refine gn ?_
   exact ⟨(j+1,_,C8),⟨by omega,⟨yd,c8,rfl⟩,LN⟩,by simp only;omega,aq,_,aa⟩
  ·obtain rfl:j=g.length:=by omega
   rw [List.take_length] at hC
   refine gm ?_;intro b42
   refine gp ?_;intro rf c5 D5 hD5
   refine gn ?_
   refine ⟨(i+1,_,_,D5,V++C),⟨by omega,⟨rf,c5,rfl⟩,hD5, ?_⟩,by simp only;omega,aq,_,aa⟩
   rw [gV bo,List.map_append,<-hg]
   exact hV.snoc (by rw [jm];exact hC)
 ·obtain rfl:i=N:=by omega
  rw [List.take_of_length_le oZ] at hV
  refine gc (N0 pF _ c4 ws _ D V hD hV oZ) ?_
  rintro _ _ ⟨ws',D',V',rfl,eo,RG,rfl⟩
  rw [List.map_map] at RG
  refine gz ?_
  exact fin ⟨pF,c4,ws',D',V',rfl,eo,RG,rfl⟩ aa
theorem N2 (O:Chunk)(ad:Option Addr)(n c k:Nat)(l:List Pt)(hk:l.length=k)(hn:n=64*k)(hR:Rd O 1 (.slice ad n c) n (ak (fR l)))(hc:n<=c)(hb:1<=k/\k<=16)(hp:∀x∈l,fy x=0/\x.Ok) :
  Ct 182 [.slice ad n c] [O] fun u Bs=>∃ba c' D,u = .tuple #[.slice ba k c',.int .i64 0]/\az D 85 9 (.slice ba k c') k (aO l)/\Bs=[D,O]:=by
 subst hn
 have Sd:jl 64 (fR l)=l.map di:=pG oZ aZ l
 have hN:cY (64*k) 64=k:=og oZ oZ
 have hm0:(64*k) % 64=0:=by omega
 refine st Tryz.func182 fun w0 => ?_
 refine gc (rj O ad _ c 64 _ (by rw [jm,hk]) hR hc oZ oZ) ?_
 rintro _ _ ⟨iI,c1,vs,D0,V0,rfl,E7,S0,rfl⟩
 rw [hN] at E7 ⊢
 rw [Sd] at S0
 have uX:=E7.rd
 obtain ⟨g1,o1,rfl⟩:=uX.addr oZ
 refine gl [24,25] (fun ((i,v4,_):Nat×Value×Chunk)=>[(26,.int .i64 i),(4,v4)]) (fun (_,_,D)=>[D]) (fun (i,v4,D)=>i<=k/\(∃pF c4,v4 = .slice pF i c4)/\az D 85 9 v4 i (aO (l.take i))) (fun (i,_)=>k - i) (0,.slice none 0 0,[]) ⟨by omega,⟨none,0,rfl⟩,az.nil _ _⟩ ?_
 rintro ⟨i,v4,D⟩ ⟨hi,⟨pF,c4,rfl⟩,hD⟩
 refine gi ?_ ?_ <;> intro bh
 ·have bo:i<l.length:=by omega
  obtain ⟨v,Ym,xl⟩:=S0.rd (i:=i) (by simpa using bo)
  rw [List.getElem_map] at xl
  obtain ⟨x,yc⟩:∃x,x=l[i]:=⟨_,rfl⟩
  rw [<-yc,aZ] at xl
  obtain ⟨Cq,Yi⟩:=hp x (by rw [yc];exact List.getElem_mem _)
  obtain ⟨j2,cv,rfl⟩:=xl.slice
  refine gc (uU V0 j2 cv x Cq Yi xl) ?_
  rintro _ _ ⟨rfl,rfl⟩
  refine ga ?_;intro b7
  refine gm ?_;intro b39
  refine gp ?_;intro rf c5 D5 hD5
  refine gn ?_
  refine ⟨(i+1,_,D5),⟨by omega,⟨rf,c5,rfl⟩, ?_⟩,by simp only;omega,aq,_,aa⟩
  rw [gV bo,<-yc]
  simpa [aO,Pt.lay] using hD5
 ·obtain rfl:i=k:=by omega
  rw [List.take_of_length_le oZ] at hD
  refine gz ?_
  exact fin ⟨pF,c4,D,rfl,hD,rfl⟩ aa
end Go.Proofs.YtcfioaeamfappaaGreatDoor
