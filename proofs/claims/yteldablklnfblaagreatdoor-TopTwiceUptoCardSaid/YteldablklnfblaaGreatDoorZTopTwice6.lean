/-
  Texts put together (6).
-/
import Derived.Test.YteldablklnfblaaGreatDoorZTopTwice5
namespace Go.Sl
def yh (z:Int):Int:=IntKind.u32.wrap z
def F7 (a b:Int):Int:=bits .or .u32 a b
def F8 (a b:Int):Int:=bits .xor .u32 a b
def N3 (a b:Int):Int:=bits .and .u32 a b
def adk (a:Int):Int:=bits .xor .u32 4294967295 a
def uS (x k:Int):Int:=IntKind.u32.wrap (x*2 ^ k.toNat)
def abi (x k:Int):Int:=x / 2 ^ k.toNat
theorem J4 (a b:Int):bits .or .u32 a b=bits .or .u32 b a:=by
 show IntKind.u32.wrap (((BitVec.ofInt 32 a ||| BitVec.ofInt 32 b).toNat:Nat):Int)=IntKind.u32.wrap (((BitVec.ofInt 32 b ||| BitVec.ofInt 32 a).toNat:Nat):Int)
 rw [BitVec.or_comm]
def rot (x k:Int):Int:=F7 (abi x k) (uS x (32 - k))
theorem Is (b:UInt8):IntKind.u32.wrap (b.toNat:Int)=(b.toNat:Int):=IntWalk.u32_in _ (by have:=b.toNat_lt;omega)
def zH (b:List UInt8)(t:Nat):Int:=F7 (F7 (F7 (uS (gb b (4*t)).toNat 24) (uS (gb b (4*t+1)).toNat 16)) (uS (gb b (4*t+2)).toNat 8)) (gb b (4*t+3)).toNat
def sg (x:Int)(p q r:Int):Int:=F8 (F8 (rot x p) (rot x q)) (abi x r)
def sG (x:Int)(p q r:Int):Int:=F8 (F8 (rot x p) (rot x q)) (rot x r)
def Wq (w:List Int)(t:Nat):Int:=yh (yh (yh (w.getD (t - 16) 0+sg (w.getD (t - 15) 0) 7 18 3)+w.getD (t - 7) 0)+sg (w.getD (t - 2) 0) 17 19 10)
def uT (b:List UInt8):Nat->List Int
 | 0=>[]
 | n+1=>uT b n++[if n<16 then zH b n else Wq (uT b n) n]
theorem gQ (b:List UInt8):∀n,(uT b n).length=n
 | 0=>rfl
 | n+1=>by rw [uT,List.length_append,gQ b n];rfl
structure S8 where
 a:Int
 b:Int
 c:Int
 d:Int
 e:Int
 f:Int
 g:Int
 h:Int
def S8.t1 (s:S8)(k x:Int):Int:=yh (yh (yh (yh (s.h+sG s.e 6 11 25)+F8 (N3 s.e s.f) (N3 (adk s.e) s.g))+k)+x)
def S8.t2 (s:S8):Int:=yh (sG s.a 2 13 22+F8 (F8 (N3 s.a s.b) (N3 s.a s.c)) (N3 s.b s.c))
def S8.step (s:S8)(k x:Int):S8:=⟨yh (s.t1 k x+s.t2),s.a,s.b,s.c,yh (s.d+s.t1 k x),s.e,s.f,s.g⟩
def S8.mix (h:S8)(K ws:List Int):Nat->S8
 | 0=>h
 | n+1=>(S8.mix h K ws n).step (K.getD n 0) (ws.getD n 0)
def S8.add (h v:S8):S8:=⟨yh (h.a+v.a),yh (h.b+v.b),yh (h.c+v.c),yh (h.d+v.d),yh (h.e+v.e),yh (h.f+v.f),yh (h.g+v.g),yh (h.h+v.h)⟩
def S8.l (s:S8):List Int:=[s.a,s.b,s.c,s.d,s.e,s.f,s.g,s.h]
abbrev eT (l:List Int):List Value:=l.map (Value.int .u32)
def nJ:List Int:=[1116352408,1899447441,3049323471,3921009573,961987163,1508970993,2453635748,2870763221,3624381080,310598401,607225278,1426881987,1925078388,2162078206,2614888103,3248222580,3835390401,4022224774,264347078,604807628,770255983,1249150122,1555081692,1996064986,2554220882,2821834349,2952996808,3210313671,3336571891,3584528711,113926993,338241895,666307205,773529912,1294757372,1396182291,1695183700,1986661051,2177026350,2456956037,2730485921,2820302411,3259730800,3345764771,3516065817,3600352804,4094571909,275423344,430227734,506948616,659060556,883997877,958139571,1322822218,1537002063,1747873779,1955562222,2024104815,2227730452,2361852424,2428436474,2756734187,3204031479,3329325298]
def adm:S8:=⟨1779033703,3144134277,1013904242,2773480762,1359893119,2600822924,528734635,1541459225⟩
def fO (all:List UInt8)(k:Nat):List UInt8:=(all.drop (64*k)).take 64
def Tf (h:S8)(b:List UInt8):S8:=h.add (h.mix nJ (uT b 64) 64)
def N4 (all:List UInt8):Nat->S8
 | 0=>adm
 | k+1=>Tf (N4 all k) (fO all k)
def uU (n:Nat):Nat->List UInt8
 | 0=>[]
 | k+1=>uU n k++[UInt8.ofNat (n / 2 ^ (56 - 8*k))]
theorem sC (n:Nat):∀k,(uU n k).length=k
 | 0=>rfl
 | k+1=>by rw [uU,List.length_append,sC n k];rfl
def lx (n:Nat):Nat:=(119 - n % 64) % 64
def fP (b:List UInt8):List UInt8:=b++[128]++List.replicate (lx b.length) 0++uU (b.length*8) 8
theorem sD (b:List UInt8):(fP b).length=b.length+9+lx b.length:=by
 simp only [fP,List.length_append,sC,List.length_replicate,List.length_cons,List.length_nil];omega
theorem Tg (b:List UInt8):(fP b).length % 64=0:=by rw [sD,lx];omega
def Cl (x y:Int):Int:=bits .or .u64 (IntKind.u64.wrap (IntKind.u64.wrap x*2 ^ (32:Int).toNat)) (IntKind.u64.wrap y)
theorem Cn (x y:Int):0<=Cl x y/\Cl x y<18446744073709551616:=by
 unfold Cl
 show 0<=IntKind.u64.wrap _/\IntKind.u64.wrap _<_
 rw [IntKind.wrap_u64];omega
def pJ (x y:Int):Nat:=(Cl x y).toNat
theorem N5 (x y:Int):((pJ x y:Nat):Int)=Cl x y:=by have:=Cn x y;unfold pJ;omega
def S8.fs (h:S8):Fs:=⟨pJ h.a h.b,pJ h.c h.d,pJ h.e h.f,pJ h.g h.h⟩
def N6 (b:List UInt8):Fs:=(N4 (fP b) ((fP b).length / 64)).fs
theorem Th (b:List UInt8):(N6 b).Ok:=by
 have h (x y:Int):pJ x y<18446744073709551616:=by have:=Cn x y;unfold pJ;omega
 exact ⟨h _ _,h _ _,h _ _,h _ _⟩
theorem abj {k:Int}(h:1<=k/\k<=31):bits .and .u64 (18446744073709551616 - k) 31=32 - k:=by
 have key:∀n:_root_.Fin 32,1<=n.val->bits .and .u64 (18446744073709551616 - (n.val:Int)) 31=32 - (n.val:Int):=by decide +kernel
 obtain ⟨n,rfl⟩:∃n:Nat,k=n:=⟨k.toNat,by omega⟩
 exact key ⟨n,by omega⟩ (by show 1<=n;omega)
theorem It (b:List UInt8)(n j:Nat)(r:List Value)(h:j<n):(eT (uT b n)++r)[j]? = some (.int .u32 ((uT b n).getD j 0)):=by
 have hl:=gQ b n
 rw [List.getElem?_append_left (by rw [List.length_map];omega),List.getElem?_map,List.getElem?_eq_getElem oZ,List.getD,List.getElem?_eq_getElem oZ];rfl
theorem Iu (b:List UInt8)(n:Nat):eT (uT b (n+1))=eT (uT b n)++[.int .u32 (if n<16 then zH b n else Wq (uT b n) n)]:=by rw [uT,eT,List.map_append];rfl
theorem zI (l:List Int){j:Nat}(h:j<l.length):(eT l)[j]? = some (.int .u32 (l.getD j 0)):=by
 rw [List.getElem?_map,List.getElem?_eq_getElem h,List.getD,List.getElem?_eq_getElem h];rfl
theorem N7 (b:List UInt8){i:Nat}(h:4*i+3<b.length):zH b i=F7 (F7 (F7 (uS (b[4*i]'oZ).toNat 24) (uS (b[4*i+1]'oZ).toNat 16)) (uS (b[4*i+2]'oZ).toNat 8)) (b[4*i+3]).toNat:=by
 unfold zH;rw [sB b oZ,sB b oZ,sB b oZ,sB b h]
def ru (h v:S8)(i:Nat):List Int:=(List.range 8).map fun j=>if j<i then yh (h.l.getD j 0+v.l.getD j 0) else h.l.getD j 0
theorem pK (h v:S8)(i:Nat):(ru h v i).length=8:=by simp [ru]
theorem Ti (h v:S8){i:Nat}(hi:i<8):(ru h v i).getD i 0=h.l.getD i 0:=by
 have:i<(ru h v i).length:=by rw [pK];exact hi
 rw [List.getD,List.getElem?_eq_getElem this]
 simp [ru]
theorem N8 (h v:S8){i:Nat}(hi:i<8):(eT (ru h v i)).set i (.int .u32 (yh (h.l.getD i 0+v.l.getD i 0)))=eT (ru h v (i+1)):=by
 apply List.ext_getElem?
 intro j
 rw [List.getElem?_set,List.length_map,pK]
 by_cases hj:i=j
 ·subst hj;simp [ru,hi]
 ·rw [if_neg hj]
  simp only [eT,List.getElem?_map,ru]
  by_cases h8:j<8
  ·rw [List.getElem?_range h8]
   simp only [Option.map_some]
   have:(j<i)↔(j<i+1):=by omega
   simp only [this]
  ·rw [List.getElem?_eq_none (l:=List.range 8) (by simp;omega)];rfl
theorem N9 (h v:S8):ru h v 8=(h.add v).l:=rfl
theorem Oa:nJ.length=64:=rfl
theorem Oc (s:S8){i:Nat}(h:i<8):(eT s.l)[i]? = some (.int .u32 (s.l.getD i 0)):=zI s.l h
theorem J5 (n k:Nat):uU n (k+1)=uU n k++[UInt8.ofNat (n / 2 ^ (56 - 8*k))]:=rfl
theorem F9 (all:List UInt8){k:Nat}(h:64*k+64<=all.length):(fO all k).length=64:=by rw [fO,List.length_take,List.length_drop];omega
theorem Od (b:List UInt8)(z:Nat):ak (b++[128]++List.replicate (z+1) 0)=ak (b++[128]++List.replicate z 0)++[.int .u8 0]:=by
 rw [List.replicate_succ',<-List.append_assoc,aE];rfl
def Cp (b:List UInt8):List UInt8:=b++[128]++List.replicate (lx b.length) 0
theorem Cq (b:List UInt8):(Cp b).length=b.length+1+lx b.length:=by simp [Cp];omega
theorem Oe (b:List UInt8):Cp b++uU (b.length*8) 8=fP b:=rfl
theorem Of (all:List UInt8)(k:Nat):((ak (all.drop (64*k))).drop (0*1)).take ((64 - 0)*1)=ak (fO all k):=by simp [fO,aL]
theorem J6 (all:List UInt8)(k n:Nat)(h:all.length<=n+64*k+64):((ak (all.drop (64*k))).drop (64*1)).take (n*1)=ak (all.drop (64*(k+1))):=by
 rw [aY,aL,List.drop_drop,List.take_of_length_le (by rw [List.length_drop];omega),show 64*k+64*1=64*(k+1) by omega]
end Go.Sl
namespace Go.Proofs.YteldablklnfblaaGreatDoor
open Go.Sl
set_option maxRecDepth 10000
theorem xy (x k:Int)(hk:1<=k/\k<=31):Ct 291 [.int .u32 x,.int .i64 k] [] fun u Bs=>u = .int .u32 (rot x k)/\Bs=[]:=by
 have h1:IntKind.i64.wrap (-k) = -k:=IntWalk.i64_in _ oZ
 have h2:IntKind.u64.wrap (-k)=18446744073709551616 - k:=by rw [IntKind.wrap_u64];omega
 have h3:=abj hk
 have h4:IntKind.u64.wrap (32 - (32 - k))=k:=by rw [IntKind.wrap_u64];omega
 have h5:=J4 (IntKind.u32.wrap (x*2 ^ (32 - k).toNat)) (x / 2 ^ k.toNat)
 refine st Tryz.func291 fun w0 => ?_
 refine ge ?_
 refine gz ?_
 exact fin ⟨rfl,rfl⟩ aa
theorem Ga (b:List UInt8)(hl:b.length=64):Ct 276 [.agg (ak b).toArray] [] fun u Bs=>u = .agg (eT (uT b 64)).toArray/\Bs=[]:=by
 have dr:=ai b
 refine st Tryz.func276 fun w0 => ?_
 refine ga ?_;intro b1
 refine ga ?_;intro b2
 refine ga ?_;intro b3
 refine gl [1,2,3] (fun i:Nat=>[(8,.int .i64 i)]) (fun i=>[[(b3,ax (eT (uT b i)++List.replicate (64 - i) (.int .u32 0)) 366)]]) (fun i=>i<=16) (fun i=>16 - i) 0 oZ ?_
 intro i hi
 refine gi ?_ ?_ <;> intro bo
 ·have Gb:=gQ b i
  have jh:i<16:=by omega
  have x0:b[4*i]? = some _:=List.getElem?_eq_getElem oZ
  have x1:b[4*i+1]? = some _:=List.getElem?_eq_getElem oZ
  have x2:b[4*i+2]? = some _:=List.getElem?_eq_getElem oZ
  have x3:b[4*i+3]? = some _:=List.getElem?_eq_getElem oZ
  have y0:=Is b[4*i]
  have y1:=Is b[4*i+1]
  have y2:=Is b[4*i+2]
  have y3:=Is b[4*i+3]
  have cw:=Iu b i
  rw [if_pos jh,N7 b oZ] at cw
  refine gd [0,4,8,12,16,20,24,28,32,36,40,44,48,52,56,60,64,68,72,76,80,84,88,92,96,100,104,108,112,116,120,127] ?_
  refine gn ?_
  rw [rn (eT (uT b i)) 64 (.int .u32 0) _ i (by rw [List.length_map,Gb]) oZ]
  exact ⟨i+1,by omega,by omega,aq,_,by rw [cw];exact aa⟩
 ·obtain rfl:i=16:=by omega
  refine gl [2,3] (fun i:Nat=>[(5,.int .i64 i)]) (fun i=>[[(b3,ax (eT (uT b i)++List.replicate (64 - i) (.int .u32 0)) 366)]]) (fun i=>16<=i/\i<=64) (fun i=>64 - i) 16 oZ ?_
  rintro i ⟨h16,hi⟩
  refine gi ?_ ?_ <;> intro bo
  ·have Gb:=gQ b i
   have jh:¬i<16:=by omega
   have x15:=It b i (i - 15) (List.replicate (64 - i) (.int .u32 0)) oZ
   have x2:=It b i (i - 2) (List.replicate (64 - i) (.int .u32 0)) oZ
   have x16:=It b i (i - 16) (List.replicate (64 - i) (.int .u32 0)) oZ
   have x7:=It b i (i - 7) (List.replicate (64 - i) (.int .u32 0)) oZ
   have cw:=Iu b i
   rw [if_neg jh] at cw
   refine gd [0,4,8,12,16,20,28,40,44,56,60,64,68,76,84,96,100,25,33,36,48,52,72,81,89,92,104,108,112,119] ?_
   refine gc (xy ((uT b i).getD (i - 15) 0) 7 oZ) ?_
   rintro _ _ ⟨rfl,rfl⟩
   refine gc (xy ((uT b i).getD (i - 15) 0) 18 oZ) ?_
   rintro _ _ ⟨rfl,rfl⟩
   refine gc (xy ((uT b i).getD (i - 2) 0) 17 oZ) ?_
   rintro _ _ ⟨rfl,rfl⟩
   refine gc (xy ((uT b i).getD (i - 2) 0) 19 oZ) ?_
   rintro _ _ ⟨rfl,rfl⟩
   refine gn ?_
   rw [rn (eT (uT b i)) 64 (.int .u32 0) _ i (by rw [List.length_map,Gb]) oZ]
   exact ⟨i+1,by omega,by omega,aq,_,by rw [cw];exact aa⟩
  ·obtain rfl:i=64:=by omega
   have zy:(eT (uT b 64)).length=64:=by rw [List.length_map,gQ]
   rw [Nat.sub_self,List.replicate_zero,List.append_nil]
   generalize uT b 64=ws at zy ⊢
   refine gz ?_
   exact fin ⟨rfl,rfl⟩ aa
abbrev gK (T:TypeId)(fr:Nat×Nat):Chunk:=[(0,.cells (eT nJ).toArray T fr)]
theorem Tj (T:TypeId)(fr:Nat×Nat)(s0:S8)(ws:List Int)(hw:ws.length=64):Ct 275 [.agg (eT s0.l).toArray,.agg (eT ws).toArray] [gK T fr] fun u Bs=>u = .agg (eT (s0.add (s0.mix nJ ws 64)).l).toArray/\Bs=[gK T fr]:=by
 have zy:(eT ws).length=64:=by rw [List.length_map,hw]
 refine st Tryz.func275 fun w0 => ?_
 refine ga ?_;intro b2
 refine ga ?_;intro b3
 refine ga ?_;intro b4
 refine gl [2,4,35] (fun ((i,s):Nat×S8)=>[(36,.int .i64 i),(5,.int .u32 s.a),(6,.int .u32 s.b),(7,.int .u32 s.c),(8,.int .u32 s.d),(9,.int .u32 s.e),(10,.int .u32 s.f),(11,.int .u32 s.g),(12,.int .u32 s.h)]) (fun _=>[]) (fun (i,s)=>i<=64/\s=S8.mix s0 nJ ws i) (fun (i,_)=>64 - i) (0,s0) ⟨by omega,rfl⟩ ?_
 rintro ⟨i,s⟩ ⟨hi,hs⟩
 refine gi ?_ ?_ <;> intro bo
 ·have x1:=zI ws (j:=i) oZ
  have x2:=zI nJ (j:=i) (by rw [Oa];omega)
  refine gd [0,4,12,24,40,44,48,52,56,60,64,68,76,80,84,92,9,17,20,29,32,36,72,88,96,100] ?_
  refine gc (xy s.e 6 oZ) ?_
  rintro _ _ ⟨rfl,rfl⟩
  refine gc (xy s.e 11 oZ) ?_
  rintro _ _ ⟨rfl,rfl⟩
  refine gc (xy s.e 25 oZ) ?_
  rintro _ _ ⟨rfl,rfl⟩
  refine gc (xy s.a 2 oZ) ?_
  rintro _ _ ⟨rfl,rfl⟩
  refine gc (xy s.a 13 oZ) ?_
  rintro _ _ ⟨rfl,rfl⟩
  refine gc (xy s.a 22 oZ) ?_
  rintro _ _ ⟨rfl,rfl⟩
  refine gn ?_
  exact ⟨(i+1,s.step (nJ.getD i 0) (ws.getD i 0)),⟨by omega,by rw [hs];rfl⟩,by simp only;omega,aq,_,aa⟩
 ·obtain rfl:i=64:=by omega
  refine gl [2,4,106] (fun i:Nat=>[(107,.int .i64 i)]) (fun i=>[[(b2,ax (eT (ru s0 s i)) 364)]]) (fun i=>i<=8) (fun i=>8 - i) 0 oZ ?_
  intro i RZ
  refine gi ?_ ?_ <;> intro pL
  ·have hi8:i<8:=by omega
   have x1:=Oc s hi8
   have x2:(eT (ru s0 s i))[i]? = some (.int .u32 (s0.l.getD i 0)):=by rw [zI _ (by rw [pK];omega),Ti s0 s hi8]
   have hle:=pK s0 s i
   refine gn ?_
   rw [show (eT (ru s0 s i)).set i (.int .u32 (IntKind.u32.wrap (s0.l.getD i 0+s.l.getD i 0)))=_ from N8 s0 s hi8]
   exact ⟨i+1,by omega,by omega,aq,_,aa⟩
  ·obtain rfl:i=8:=by omega
   rw [N9,hs]
   refine gz ?_
   exact fin ⟨rfl,rfl⟩ aa
theorem zJ (s:S8)(b3:Nat)(i:Nat)(hi:i+1<8):Ct 277 [.int .i64 i,ptr b3] [[(b3,ax (eT s.l) 364)]] fun u Bs=>u = .int .u64 (pJ (s.l.getD i 0) (s.l.getD (i+1) 0))/\Bs=[[(b3,ax (eT s.l) 364)]]:=by
 have x1:=Oc s (i:=i) oZ
 have x2:=Oc s (i:=i+1) oZ
 rw [N5]
 refine st Tryz.func277 fun w0 => ?_
 refine gd [0,4,8,12,16,20,24,28,32,36,40,44] ?_
 refine gz ?_
 exact fin ⟨rfl,rfl⟩ aa
theorem abk (T:TypeId)(fr:Nat×Nat)(D:Chunk)(v:Value)(b:List UInt8)(m:Nat)(hm:b.length=m)(hD:Rd D 1 v m (ak b))(dr:m<=1000000):Ct 246 [v] [gK T fr,D] fun u Bs=>u=(N6 b).agg/\Bs=[gK T fr,D]:=by
 subst hm
 have hz0:lx b.length<64:=by unfold lx;omega
 have hz1:∀z,z<=lx b.length->((b.length+1+z) % 64=56↔z=lx b.length):=by unfold lx;omega
 have hHl:=Cq b
 have hLl:=sD b
 have afC:=Tg b
 have hmul:IntKind.u64.wrap ((b.length:Int)*8)=((b.length*8:Nat):Int):=by rw [IntWalk.u64_in _ oZ];omega
 obtain ⟨RY,c0,rfl⟩:=hD.slice
 refine st Tryz.func246 fun w0 => ?_
 refine ga ?_;intro b2
 refine ga ?_;intro b3
 refine gp ?_;intro ad c C hC
 refine gm ?_;intro g
 refine gp ?_;intro ad c C rp
 rw [show ak b++[.int .u8 128]=ak (b++[128]) from (aE b [128]).symm] at rp
 refine gl [0,2,3] (fun ((z,ad,c,_):Nat×Option Addr×Nat×Chunk)=>[(4,.slice ad (b.length+1+z) c)]) (fun (_,_,_,C)=>[C]) (fun (z,ad,c,C)=>z<=lx b.length/\az C 5 1 (.slice ad (b.length+1+z) c) (b.length+1+z) (ak (b++[128]++List.replicate z 0))) (fun (z,_,_,_)=>lx b.length - z) (0,ad,c,C) ⟨by omega,by rw [List.replicate_zero,List.append_nil];exact rp⟩ ?_
 rintro ⟨z,ad,c,C⟩ ⟨hz,hC⟩
 refine gi ?_ ?_ <;> intro bo
 ·have Iw:=hz1 z hz
  refine gm ?_;intro g
  refine gp ?_;intro ad c C Cu
  rw [show ak (b++[128]++List.replicate z 0)++[.int .u8 0]=_ from (Od b z).symm] at Cu
  refine gn ?_
  exact ⟨(z+1,ad,c,C),⟨by simp at bo;omega,Cu⟩,by simp only;simp at bo;omega,aq,_,aa⟩
 ·have Iw:=hz1 z hz
  obtain rfl:z=lx b.length:=by simp at bo;omega
  have hC:az C 5 1 (.slice ad (b.length+1+lx b.length) c) (b.length+1+lx b.length) (ak (Cp b)):=hC
  refine gl [0,2,3] (fun ((k,ad,c,_):Nat×Option Addr×Nat×Chunk)=>[(4,.slice ad (b.length+1+lx b.length+k) c),(5,.int .i64 (56 - 8*(k:Int)))]) (fun (_,_,_,C)=>[C]) (fun (k,ad,c,C)=>k<=8/\az C 5 1 (.slice ad (b.length+1+lx b.length+k) c) (b.length+1+lx b.length+k) (ak (Cp b++uU (b.length*8) k))) (fun (k,_,_,_)=>8 - k) (0,ad,c,C) ⟨by omega,by rw [uU,List.append_nil];exact hC⟩ ?_
  rintro ⟨k,ad,c,C⟩ ⟨hk,hC⟩
  refine gi ?_ ?_ <;> intro bo
  ·have hk7:k<=7:=by omega
   have hsh:((b.length*8:Nat):Int) / 2 ^ (56 - 8*(k:Int)).toNat=((b.length*8 / 2 ^ (56 - 8*k):Nat):Int):=by rw [show (56 - 8*(k:Int)).toNat=56 - 8*k by omega];simp
   have hw8:=w8 (b.length*8 / 2 ^ (56 - 8*k))
   refine gm ?_;intro g
   refine gp ?_;intro ad c C Cu
   rw [show ak (Cp b++uU (b.length*8) k)++[.int .u8 (UInt8.ofNat (b.length*8 / 2 ^ (56 - 8*k))).toNat]=ak (Cp b++uU (b.length*8) (k+1)) by rw [J5,<-List.append_assoc,aE (Cp b++_)];rfl] at Cu
   refine gn ?_
   exact ⟨(k+1,ad,c,C),⟨by omega,Cu⟩,by simp only;omega,aq,_,aa⟩
  ·obtain rfl:k=8:=by omega
   rw [Oe] at hC
   have R3:=hC.dN
   have hlen:b.length+1+lx b.length+8=(fP b).length - 64*0:=by omega
   rw [hlen] at hC R3 ⊢
   refine gl [2,3] (fun ((j,ad,c):Nat×Option Addr×Nat)=>[(4,.slice ad ((fP b).length - 64*j) c)]) (fun (j,_,_)=>[[(b3,ax (eT (N4 (fP b) j).l) 364)]]) (fun (j,ad,c)=>j<=(fP b).length / 64/\(fP b).length - 64*j<=c/\Rd C 1 (.slice ad ((fP b).length - 64*j) c) ((fP b).length - 64*j) (ak ((fP b).drop (64*j)))) (fun (j,_,_)=>(fP b).length / 64 - j) (0,ad,c) ⟨by omega,R3,by rw [Nat.mul_zero,List.drop_zero];exact hC.rd⟩ ?_
   rintro ⟨j,ad,c⟩ ⟨hj,hc,hR⟩
   refine gi ?_ ?_ <;> intro bo
   ·have pj:64*j+64<=(fP b).length:=by omega
    have uG:=F9 (fP b) pj
    have hbb:(ak (fO (fP b) j)).length=64:=by rw [ai,uG]
    have hn:64 - 0=64:=rfl
    have ou:=Of (fP b) j
    refine gd [0,4,8,12,16,21,25,31] ?_
    refine gw ?_;intro ad2 kD
    obtain ⟨g2,afD,rfl⟩:=kD.addr oZ
    refine gc (Ga (fO (fP b) j) uG) ?_
    rintro _ _ ⟨rfl,rfl⟩
    refine gc (Tj T fr (N4 (fP b) j) (uT (fO (fP b) j) 64) (gQ _ _)) ?_
    rintro _ _ ⟨rfl,rfl⟩
    have hn:(fP b).length - 64*j - 64=(fP b).length - 64*(j+1):=by omega
    have ou:=J6 (fP b) j ((fP b).length - 64*j - 64) oZ
    refine gw ?_;intro fL zK
    refine gn ?_
    exact ⟨(j+1,fL,c - 64),⟨by omega,by omega,zK⟩,by simp only;omega,aq,_,aa⟩
   ·obtain rfl:j=(fP b).length / 64:=by omega
    rw [N6]
    generalize N4 (fP b) ((fP b).length / 64)=h
    refine gc (zJ h b3 0 oZ) ?_
    rintro _ _ ⟨rfl,rfl⟩
    refine gc (zJ h b3 2 oZ) ?_
    rintro _ _ ⟨rfl,rfl⟩
    refine gc (zJ h b3 4 oZ) ?_
    rintro _ _ ⟨rfl,rfl⟩
    refine gc (zJ h b3 6 oZ) ?_
    rintro _ _ ⟨rfl,rfl⟩
    refine gz ?_
    exact fin ⟨rfl,rfl⟩ aa
end Go.Proofs.YteldablklnfblaaGreatDoor
namespace Go.Sl
def iX (kind:Int)(b:List UInt8):Fs×Int:=if kind=1 then (aF b,0) else if kind=2 then (N6 b,0) else (⟨0,0,0,0⟩,20)
theorem Cy {kind:Int}{b:List UInt8}:(iX kind b).2=0↔(kind=1\/kind=2):=by
 unfold iX
 split
 ·simp [*]
 ·split
  ·simp [*]
  ·simp [*]
def sW (kind:Int)(s:Fs)(b:List UInt8):Bool:=decide ((iX kind b).2=0)&&s.J2 (iX kind b).1
theorem J7 {kind:Int}(hk:kind=1\/kind=2)(b:List UInt8):sW kind (iX kind b).1 b=true:=by
 unfold sW
 rw [Fs.F6,decide_eq_true (Cy.2 hk)];simp
end Go.Sl
namespace Go.Proofs.YteldablklnfblaaGreatDoor
open Go.Sl
set_option maxRecDepth 10000
section
variable (T:TypeId)(fr:Nat×Nat)(O:Chunk)(v:Value)(b:List UInt8)(m:Nat)(hm:b.length=m)(hO:Rd O 1 v m (ak b))(dr:m<=1000000)
include hm hO dr
theorem zL (kind:Int):Ct 195 [.int .i64 kind,v] [gK T fr,O] fun u Bs=>u = .tuple #[(iX kind b).1.agg,.int .i64 (iX kind b).2]/\Bs=[gK T fr,O]:=by
 refine st Tryz.func195 fun w0 => ?_
 refine ga ?_;intro b1
 refine gi ?_ ?_ <;> intro h1
 ·have h1:kind=1:=by simpa using h1
  rw [iX,if_pos h1]
  refine ge ?_
  refine ga ?_;intro p
  refine gc (abh O v b m hm hO dr p) ?_
  rintro _ _ ⟨s,x0,x1,x2,x3,k,hR,rfl⟩
  refine ge ?_
  refine ga ?_;intro b2
  have hk:=hR.hk
  refine gi ?_ ?_ <;> intro h0
  ·obtain rfl:k=0:=by omega
   rw [hR.abg]
   refine gz ?_
   exact fin ⟨rfl,rfl⟩ aa
  ·refine gd [0,4,8,12,16,20,24,28,33,39] ?_
   refine gc (N1 s x0 x1 x2 x3) ?_
   rintro _ _ ⟨rfl,rfl⟩
   rw [hR.done oZ]
   refine gz ?_
   exact fin ⟨rfl,rfl⟩ aa
 ·have h1:¬kind=1:=by simpa using h1
  rw [iX,if_neg h1]
  refine gi ?_ ?_ <;> intro h2
  ·have h2:kind=2:=by simpa using h2
   rw [if_pos h2]
   refine gc (abk T fr O v b m hm hO dr) ?_
   rintro _ _ ⟨rfl,rfl⟩
   refine gz ?_
   exact fin ⟨rfl,rfl⟩ aa
  ·have h2:¬kind=2:=by simpa using h2
   rw [if_neg h2]
   refine gz ?_
   exact fin ⟨rfl,rfl⟩ aa
theorem zM (kind:Int)(s:Fs):Ct 175 [.int .i64 kind,s.agg,v] [gK T fr,O] fun u Bs=>u = .bool (sW kind s b)/\Bs=[gK T fr,O]:=by
 obtain ⟨z,hz⟩:∃z,z=iX kind b:=⟨_,rfl⟩
 unfold sW
 have hK:=zL T fr O v b m hm hO dr kind
 rw [<-hz] at hK ⊢
 refine st Tryz.func175 fun w0 => ?_
 refine ga ?_;intro b1
 refine gc hK ?_
 rintro _ _ ⟨rfl,rfl⟩
 refine ga ?_;intro b2
 refine gg ?_ ?_ <;> intro h0
 ·have h0:z.2=0:=by simpa using h0
  rw [decide_eq_true h0]
  refine gz ?_
  exact fin ⟨rfl,rfl⟩ aa
 ·have h0:¬z.2=0:=by simpa using h0
  rw [decide_eq_false h0]
  refine gz ?_
  exact fin ⟨rfl,rfl⟩ aa
end
end Go.Proofs.YteldablklnfblaaGreatDoor
namespace Go.Sl
def J8 (s:Fs):List UInt8:=ae s.a 8++ae s.b 8++ae s.c 8++ae s.d 8
theorem ly (s:Fs):(J8 s).length=32:=by simp [J8,af]
def mD (b:List UInt8)(q:Nat):Fs:=⟨nm b q 8,nm b (q+8) 8,nm b (q+16) 8,nm b (q+24) 8⟩
theorem Cz {s:Fs}(h:s.Ok)(x y:List UInt8){q:Nat}(hx:x.length=q):mD (x++(J8 s++y)) q=s:=by
 have e8:=p8
 have ha:=h.a;have hb:=h.b;have hc:=h.c;have hd:=h.d
 have f1:=bG x (ae s.b 8++(ae s.c 8++(ae s.d 8++y))) s.a (q:=q) (k:=8) hx oZ
 have f2:=bG (x++ae s.a 8) (ae s.c 8++(ae s.d 8++y)) s.b (q:=q+8) (k:=8) (by simp [af,hx]) oZ
 have f3:=bG (x++(ae s.a 8++ae s.b 8)) (ae s.d 8++y) s.c (q:=q+16) (k:=8) (by simp [af,hx]) oZ
 have f4:=bG (x++(ae s.a 8++(ae s.b 8++ae s.c 8))) y s.d (q:=q+24) (k:=8) (by simp [af,hx]) oZ
 simp only [List.append_assoc] at f1 f2 f3 f4
 simp only [mD,J8,List.append_assoc,f1,f2,f3,f4]
def aC (x:List UInt8):List UInt8:=x++List.replicate (96 - x.length) 0
theorem ea {x:List UInt8}(h:x.length<=96):(aC x).length=96:=by simp [aC];omega
def whole (x:List UInt8):List UInt8:=aC x++J8 (aF (aC x))
theorem fQ {x:List UInt8}(h:x.length<=96):(whole x).length=128:=by rw [whole,List.length_append,ea h,ly]
def fR (b letters:List UInt8):Bool:=decide (b.length=128/\b.take 4=letters/\mD b 96=aF (b.take 96))
theorem gR {x letters:List UInt8}(h:x.length<=96)(hl:letters.length=4)(hp:∃r,x=letters++r):fR (whole x) letters=true/\(whole x).take 96=aC x:=by
 have h1:(whole x).take 96=aC x:=List.take_left' (ea h)
 refine ⟨?_,h1⟩
 simp only [fR,decide_eq_true_eq]
 refine ⟨fQ h, ?_, ?_⟩
 ·obtain ⟨r,rfl⟩:=hp
  rw [whole,aC,List.append_assoc,List.append_assoc,List.take_left' hl]
 ·rw [h1]
  have:=Cz (nn (aC x)) (aC x) [] (ea h)
  rw [List.append_nil] at this
  exact this
structure Tp where
 kind:Int
 leaves:Int
 bz:Int
deriving DecidableEq
def Tp.lay (t:Tp):List Value:=[.int .i64 t.kind,.int .i64 t.leaves,.int .i64 t.bz]
abbrev Tp.agg (t:Tp):Value:=.agg #[.int .i64 t.kind,.int .i64 t.leaves,.int .i64 t.bz]
theorem Tp.aj (t:Tp):t.lay.length=3:=rfl
theorem Tp.bC (t:Tp):∀u∈t.lay,u.oneCell'=true:=fun u hu=>by
 simp only [Tp.lay,List.mem_cons,List.not_mem_nil,or_false] at hu
 rcases hu with rfl | rfl | rfl <;> rfl
structure Tp.Ok (t:Tp):Prop where
 kind : -9223372036854775808<=t.kind/\t.kind<=9223372036854775807
 leaves : -9223372036854775808<=t.leaves/\t.leaves<=9223372036854775807
 bz : -9223372036854775808<=t.bz/\t.bz<=9223372036854775807
def uV:Tp:=⟨0,0,0⟩
def Tp.made (t:Tp):Prop:=324<=t.bz/\t.bz<=8192/\(t.kind=1/\t.leaves=1\/t.kind=2/\2<=t.leaves/\t.leaves<=5\/t.kind=3/\3<=t.leaves/\t.leaves<=5)
instance (t:Tp):Decidable t.made:=by unfold Tp.made;infer_instance
def xe (t:Tp):List UInt8:=ae t.kind.toNat 1++(ae t.leaves.toNat 1++ae t.bz.toNat 4)
theorem uW (t:Tp):(xe t).length=6:=by simp [xe,af]
def J9 (b:List UInt8)(q:Nat):Tp:=⟨nm b q 1,nm b (q+1) 1,nm b (q+2) 4⟩
theorem Og {t:Tp}(h:t.made)(x y:List UInt8){q:Nat}(hx:x.length=q):J9 (x++(xe t++y)) q=t:=by
 obtain ⟨h1,h2,h3⟩:=h
 have e1:=p1;have e4:=p4
 have f1:=bG x (ae t.leaves.toNat 1++(ae t.bz.toNat 4++y)) t.kind.toNat (q:=q) (k:=1) hx oZ
 have f2:=bG (x++ae t.kind.toNat 1) (ae t.bz.toNat 4++y) t.leaves.toNat (q:=q+1) (k:=1) (by simp [af,hx]) oZ
 have f3:=bG (x++(ae t.kind.toNat 1++ae t.leaves.toNat 1)) y t.bz.toNat (q:=q+2) (k:=4) (by simp [af,hx]) oZ
 simp only [List.append_assoc] at f1 f2 f3
 simp only [J9,xe,List.append_assoc,f1,f2,f3]
 cases t with | mk k l s=>simp only [Tp.mk.injEq];simp only at h1 h2 h3;omega
structure eU where
 pool:Nat
 aJ:List Tp
 top:Int
 place:Int
deriving DecidableEq
structure eU.Ok (l:eU):Prop where
 pool:l.pool<18446744073709551616
 top : -9223372036854775808<=l.top/\l.top<=9223372036854775807
 place : -9223372036854775808<=l.place/\l.place<=9223372036854775807
 aJ:∀t∈l.aJ,t.Ok
def Oh:eU:=⟨0,[],0,0⟩
def eU.may (l:eU):Prop:=1<=l.aJ.length/\l.aJ.length<=4/\0<=l.top/\l.top<l.aJ.length/\0<=l.place/\l.place<(l.aJ.getD l.top.toNat uV).leaves/\∀t∈l.aJ,t.made
instance (l:eU):Decidable l.may:=by unfold eU.may;infer_instance
def uX (l:eU):Int:=if l.may then 0 else 42
def iv:List UInt8:=[85,67,76,66]
def gV:List UInt8:=[85,67,85,66]
def Ix (l:eU):List UInt8:=iv++(ae l.pool 8++(ae l.top.toNat 1++(ae l.place.toNat 1++ae l.aJ.length 1)))
theorem lz (l:eU):(Ix l).length=15:=by simp [Ix,iv,af]
def dL (l:eU):List UInt8:=Ix l++l.aJ.flatMap xe
theorem uY:∀l:List Tp,(l.flatMap xe).length=6*l.length
 | []=>rfl
 | t :: r=>by rw [List.flatMap_cons,List.length_append,uW,uY r,List.length_cons];omega
theorem jo (l:eU):(dL l).length=15+6*l.aJ.length:=by rw [dL,List.length_append,lz,uY]
def Gc (x:List UInt8):eU:=⟨nm x 4 8,(List.range (nm x 14 1)).map fun i=>J9 x (15+6*i),nm x 12 1,nm x 13 1⟩
def zN (b:List UInt8):Int :=
 if fR b iv=false then 43 else if 4<nm (b.take 96) 14 1 then 43
 else if (b.take 96).drop (15+6*nm (b.take 96) 14 1)≠List.replicate (96 - (15+6*nm (b.take 96) 14 1)) 0 then 43 else uX (Gc (b.take 96))
def Oi (b:List UInt8):eU:=if zN b=0 then Gc (b.take 96) else Oh
theorem zO (h:List UInt8)(y:List UInt8):∀(l:List Tp) (x:List UInt8) {q:Nat},x.length=q->(∀t∈l,t.made)->(List.range l.length).map (fun i=>J9 (x++(l.flatMap xe++y)) (q+6*i))=l
 | [],_,_,_,_=>rfl
 | t :: r,x,q,hx,hm=>by
  have ih:=zO h y r (x++xe t) (q:=q+6) (by rw [List.length_append,uW,hx]) (fun u hu=>hm u (by simp [hu]))
  rw [List.length_cons,List.range_succ_eq_map,List.map_cons,List.map_map]
  have h0:J9 (x++((t :: r).flatMap xe++y)) (q+6*0)=t:=by
   rw [List.flatMap_cons,List.append_assoc];exact Og (hm t (by simp)) x _ hx
  rw [h0]
  congr 1
  conv=>rhs;rw [<-ih]
  apply List.map_congr_left
  intro i _
  simp only [Function.comp]
  rw [List.flatMap_cons,List.append_assoc,List.append_assoc,show q+6*(i+1)=q+6+6*i by omega]
theorem Kb {l:eU}(h:uX l=0)(ho:l.Ok):zN (whole (dL l))=0/\Oi (whole (dL l))=l:=by
 have hm:l.may:=by unfold uX at h;split at h <;> first | assumption | cases h
 obtain ⟨m1,m2,m3,m4,m5,m6,m7⟩:=hm
 have hl:=jo l
 obtain ⟨o1,o2⟩:=gR (x:=dL l) (letters:=iv) oZ rfl ⟨_,by rw [dL,Ix,List.append_assoc]⟩
 have mw:l.place<=5:=by
  have:l.top.toNat<l.aJ.length:=by omega
  have q9:l.aJ.getD l.top.toNat uV∈l.aJ:=by simp [List.getD,this]
  have:=m7 _ q9
  unfold Tp.made at this
  omega
 have e1:=p1;have e8:=p8
 have yi:=ho.pool
 have hx:aC (dL l)=Ix l++(l.aJ.flatMap xe++List.replicate (96 - (dL l).length) 0):=by rw [aC,dL,List.append_assoc]
 have f1:=bG iv ((ae l.top.toNat 1++(ae l.place.toNat 1++ae l.aJ.length 1))++(l.aJ.flatMap xe++List.replicate (96 - (dL l).length) 0)) l.pool (q:=4) (k:=8) rfl oZ
 have f2:=bG (iv++ae l.pool 8) ((ae l.place.toNat 1++ae l.aJ.length 1)++(l.aJ.flatMap xe++List.replicate (96 - (dL l).length) 0)) l.top.toNat (q:=12) (k:=1) (by simp [iv,af]) oZ
 have f3:=bG (iv++(ae l.pool 8++ae l.top.toNat 1)) (ae l.aJ.length 1++(l.aJ.flatMap xe++List.replicate (96 - (dL l).length) 0)) l.place.toNat (q:=13) (k:=1) (by simp [iv,af]) oZ
 have f4:=bG (iv++(ae l.pool 8++(ae l.top.toNat 1++ae l.place.toNat 1))) (l.aJ.flatMap xe++List.replicate (96 - (dL l).length) 0) l.aJ.length (q:=14) (k:=1) (by simp [iv,af]) oZ
 have f5:=zO [] (List.replicate (96 - (dL l).length) 0) l.aJ (Ix l) (q:=15) (lz l) m7
 have YI:aC (dL l)=iv++(ae l.pool 8++(ae l.top.toNat 1++(ae l.place.toNat 1++(ae l.aJ.length 1++(l.aJ.flatMap xe++List.replicate (96 - (dL l).length) 0))))):=by
  rw [hx,Ix];simp only [List.append_assoc]
 simp only [List.append_assoc] at f1 f2 f3 f4
 rw [<-YI] at f1 f2 f3 f4
 rw [<-hx] at f5
 have gA:Gc (aC (dL l))=l:=by
  simp only [Gc,f1,f2,f3,f4,f5]
  cases l with | mk p t tp pl=>simp only [eU.mk.injEq];simp only at m3 m5;exact ⟨trivial,trivial,by omega,by omega⟩
 have hd:(aC (dL l)).drop (15+6*nm (aC (dL l)) 14 1)=List.replicate (96 - (15+6*nm (aC (dL l)) 14 1)) 0:=by
  rw [f4,aC,List.drop_left' hl,hl]
 have hE:zN (whole (dL l))=0:=by
  unfold zN
  rw [o2,if_neg (by rw [o1];decide),if_neg (by rw [f4];omega),if_neg (fun q=>q hd),gA,h]
 exact ⟨hE,by rw [Oi,if_pos hE,o2,gA]⟩
structure Ub where
 pool:Nat
 txg:Nat
 note:Nat
 root:Pt
deriving DecidableEq
def Ub.lay (u:Ub):List Value:=[.int .u64 u.pool,.int .u64 u.txg,.int .u64 u.note,.int .i64 u.root.top,.int .i64 u.root.at_,.int .i64 u.root.bytes,.int .u64 u.root.bh,.int .i64 u.root.kind,.int .u64 u.root.a,.int .u64 u.root.b,.int .u64 u.root.c,.int .u64 u.root.d]
abbrev Ub.agg (u:Ub):Value:=.agg #[.int .u64 u.pool,.int .u64 u.txg,.int .u64 u.note,.int .i64 u.root.top,.int .i64 u.root.at_,.int .i64 u.root.bytes,.int .u64 u.root.bh,.int .i64 u.root.kind,.int .u64 u.root.a,.int .u64 u.root.b,.int .u64 u.root.c,.int .u64 u.root.d]
structure Ub.Ok (u:Ub):Prop where
 pool:u.pool<18446744073709551616
 txg:u.txg<18446744073709551616
 note:u.note<18446744073709551616
 root:u.root.Ok
def jq:Ub:=⟨0,0,0,ah⟩
def zP (u:Ub):Int:=if 1<=u.txg/\u.txg<=281474976710656/\fB u.root=0/\u.root.bh<=u.txg then 0 else 44
def kE (u:Ub):List UInt8:=gV++(ae u.pool 8++(ae u.txg 8++(ae u.note 8++J3 u.root)))
theorem jr (u:Ub):(kE u).length=76:=by simp [kE,gV,af,lu]
def Kc (x:List UInt8):Ub:=⟨nm x 4 8,nm x 12 8,nm x 20 8,NW x 28⟩
def zQ (b:List UInt8):Int:=if fR b gV=false then 45 else if (b.take 96).drop 76≠List.replicate 20 0 then 45 else zP (Kc (b.take 96))
def Oj (b:List UInt8):Ub:=if zQ b=0 then Kc (b.take 96) else jq
theorem zR {u:Ub}(h:zP u=0):1<=u.txg/\u.txg<=281474976710656/\fB u.root=0/\u.root.bh<=u.txg:=by
 unfold zP at h;split at h
 ·assumption
 ·cases h
theorem Kd {u:Ub}(h:zP u=0)(ho:u.Ok):zQ (whole (kE u))=0/\Oj (whole (kE u))=u:=by
 obtain ⟨m1,m2,m3,m4⟩:=zR h
 have hl:=jr u
 have e8:=p8
 have q1:=ho.pool;have q2:=ho.txg;have q3:=ho.note
 obtain ⟨o1,o2⟩:=gR (x:=kE u) (letters:=gV) oZ rfl ⟨_,rfl⟩
 have hx:aC (kE u)=gV++(ae u.pool 8++(ae u.txg 8++(ae u.note 8++(J3 u.root++List.replicate 20 0)))):=by
  rw [aC,hl,kE];simp only [List.append_assoc]
 have f1:=bG gV (ae u.txg 8++(ae u.note 8++(J3 u.root++List.replicate 20 0))) u.pool (q:=4) (k:=8) rfl oZ
 have f2:=bG (gV++ae u.pool 8) (ae u.note 8++(J3 u.root++List.replicate 20 0)) u.txg (q:=12) (k:=8) (by simp [gV,af]) oZ
 have f3:=bG (gV++(ae u.pool 8++ae u.txg 8)) (J3 u.root++List.replicate 20 0) u.note (q:=20) (k:=8) (by simp [gV,af]) oZ
 have f4:=Cj (zE m3) ho.root (gV++(ae u.pool 8++(ae u.txg 8++ae u.note 8))) (List.replicate 20 0) (q:=28) (by simp [gV,af])
 simp only [List.append_assoc] at f1 f2 f3 f4
 rw [<-hx] at f1 f2 f3 f4
 have gA:Kc (aC (kE u))=u:=by simp only [Kc,f1,f2,f3,f4]
 have hd:(aC (kE u)).drop 76=List.replicate 20 0:=by rw [aC,List.drop_left' hl,hl]
 have hE:zQ (whole (kE u))=0:=by
  unfold zQ
  rw [o2,if_neg (by rw [o1];decide),if_neg (fun q=>q hd),gA,h]
 exact ⟨hE,by rw [Oj,if_pos hE,o2,gA]⟩
theorem tB {t:Tp}(h:t.kind<1\/3<t.kind\/t.bz<324\/8192<t.bz):decide t.made=false:=decide_eq_false (by unfold Tp.made;omega)
theorem Tl {t:Tp}(h:¬t.kind<1/\¬3<t.kind/\¬t.bz<324/\¬8192<t.bz){b:Bool}(hb:b=true↔t.kind<=t.leaves/\t.leaves<=(if t.kind=1 then 1 else 5)):decide t.made=b:=by
 rw [Bool.eq_iff_iff,hb,decide_eq_true_eq];unfold Tp.made;split <;> omega
end Go.Sl
namespace Go.Proofs.YteldablklnfblaaGreatDoor
open Go.Sl
set_option maxRecDepth 10000
theorem YJ (t:Tp):Ct 77 [t.agg] [] fun u Bs=>u = .bool (decide t.made)/\Bs=[]:=by
 refine st Tryz.func77 fun w0 => ?_
 refine ga ?_;intro b1
 refine ga ?_;intro b3
 refine gg ?_ ?_ <;> intro h1
 ·rw [tB (.inl h1)];refine gz ?_;exact fin ⟨rfl,rfl⟩ aa
 refine gg ?_ ?_ <;> intro h2
 ·rw [tB (.inr (.inl h2))];refine gz ?_;exact fin ⟨rfl,rfl⟩ aa
 refine gg ?_ ?_ <;> intro h3
 ·rw [tB (.inr (.inr (.inl h3)))];refine gz ?_;exact fin ⟨rfl,rfl⟩ aa
 refine gi ?_ ?_ <;> intro h4
 ·rw [tB (.inr (.inr (.inr h4)))];refine gz ?_;exact fin ⟨rfl,rfl⟩ aa
 rcases (show t.kind=1\/t.kind=2\/t.kind=3 by omega) with hk | hk | hk
 all_goals
  obtain ⟨k,lv,sc⟩:=t
  obtain rfl:k=_:=hk
  refine gg ?_ ?_ <;> intro h5
  all_goals
   refine gz ?_
   exact fin ⟨congrArg Value.bool (Tl ⟨h1,h2,h3,h4⟩ (by simp at h5 ⊢;omega)).symm,rfl⟩ aa
end Go.Proofs.YteldablklnfblaaGreatDoor
namespace Go.Sl
abbrev mE (l:eU)(v:Value):Value:=.agg #[.int .u64 l.pool,v,.int .i64 l.top,.int .i64 l.place]
def eU.half (l:eU):Prop:=1<=l.aJ.length/\l.aJ.length<=4/\0<=l.top/\l.top<l.aJ.length/\0<=l.place/\l.place<(l.aJ.getD l.top.toNat uV).leaves
theorem ib (l:eU):uX l=0↔l.half/\∀t∈l.aJ,t.made:=by
 unfold uX;split
 ·rename_i h;obtain ⟨h1,h2,h3,h4,h5,h6,h7⟩:=h;exact ⟨fun _=>⟨⟨h1,h2,h3,h4,h5,h6⟩,h7⟩,fun _=>rfl⟩
 ·rename_i h;exact ⟨fun q=>(by cases q),fun ⟨⟨h1,h2,h3,h4,h5,h6⟩,h7⟩=>absurd ⟨h1,h2,h3,h4,h5,h6,h7⟩ h⟩
theorem Ol {l:eU}(h:uX l≠0):uX l=42:=by
 unfold uX at *;split
 ·rename_i c;rw [if_pos c] at h;exact absurd rfl h
 ·rfl
theorem Om {l:eU}(h:¬l.half):uX l=42:=Ol (fun q=>h ((ib l).1 q).1)
theorem Iy {l:eU}{n:Nat}(h:l.top=n)(hn:n<l.aJ.length):l.aJ.getD l.top.toNat uV=l.aJ[n]:=by simp [h,List.getD,hn]
theorem Ke {α:Type}{p:α->Prop}{l:List α}{i:Nat}{a:α}(h:∀x∈l.take i,p x)(hx:l[i]? = some a)(ha:p a):∀x∈l.take (i+1),p x:=by
 obtain ⟨hi,rfl⟩:=List.getElem?_eq_some_iff.1 hx
 rw [List.take_succ_eq_append_getElem hi]
 intro x hx
 rcases List.mem_append.1 hx with hx | hx
 ·exact h x hx
 ·obtain rfl:=List.mem_singleton.1 hx;exact ha
end Go.Sl
namespace Go.Proofs.YteldablklnfblaaGreatDoor
open Go.Sl
set_option maxRecDepth 10000
theorem On (O:Chunk)(v:Value)(l:List Tp)(n:Nat)(hn:l.length=n)(hO:Rd O 3 v n (l.flatMap Tp.lay)):Ct 75 [v,.func (.func 76) #[] #[]] [O] fun u Bs=>u = .bool (!decide (∀t∈l,t.made))/\Bs=[O]:=by
 subst hn
 have Gf:=hO.2.2.1
 simp only [maxLen] at Gf
 obtain ⟨ad,c,rfl⟩:=hO.slice
 refine st Tryz.func75 fun w0 => ?_
 refine ge ?_
 refine gl [0,1,7] (fun i:Nat=>[(8,.int .i64 i)]) (fun _=>[]) (fun i=>i<=l.length/\∀t∈l.take i,t.made) (fun i=>l.length - i) 0 ⟨by omega,fun _ h=>by simp at h⟩ ?_
 rintro i ⟨hi,hm⟩
 refine gi ?_ ?_ <;> intro bo
 ·have hx:l[i]? = some l[i]:=List.getElem?_eq_getElem oZ
  have hs:=ar Tp.aj l i _ hx
  obtain ⟨g,off,rfl⟩:=hO.addr oZ
  refine ge ?_
  refine ga ?_;intro b1
  refine gc (YJ l[i]) ?_
  rintro _ _ ⟨rfl,rfl⟩
  refine gi ?_ ?_ <;> intro RT
  ·have eD:¬ ∀t∈l,t.made:=fun q=>by simp [q _ (List.getElem_mem (by omega:i<l.length))] at RT
   refine gz ?_
   exact fin ⟨congrArg Value.bool (by rw [decide_eq_false eD];simp),rfl⟩ aa
  ·refine gn ?_
   exact ⟨i+1,⟨by omega,Ke hm hx (by simpa using RT)⟩,by omega,aq,_,aa⟩
 ·obtain rfl:i=l.length:=by omega
  rw [List.take_length] at hm
  refine gz ?_
  exact fin ⟨congrArg Value.bool (by rw [decide_eq_true hm];rfl),rfl⟩ aa
theorem rv (O:Chunk)(v:Value)(l:eU)(n:Nat)(hn:l.aJ.length=n)(hO:Rd O 3 v n (l.aJ.flatMap Tp.lay)):Ct 28 [mE l v] [O] fun u Bs=>u = .int .i64 (uX l)/\Bs=[O]:=by
 subst hn
 have hO':=hO
 obtain ⟨pool,aJ,top,fC⟩:=l
 simp only at hO hO'
 change Ct _ [.agg #[.int .u64 pool,v,.int .i64 top,.int .i64 fC]] _ _
 have no:∀ {p:Prop},(eU.half ⟨pool,aJ,top,fC⟩->p)->¬p->(42:Int)=uX ⟨pool,aJ,top,fC⟩:=fun f h=>(Om fun q=>h (f q)).symm
 obtain ⟨ad,c,rfl⟩:=hO.slice
 refine st Tryz.func28 fun w0 => ?_
 refine ga ?_;intro b1
 refine gg ?_ ?_ <;> intro h1
 ·refine gz ?_;exact fin ⟨congrArg _ (no (fun q=>q.1) (by simp only;omega)),rfl⟩ aa
 refine gg ?_ ?_ <;> intro h2
 ·refine gz ?_;exact fin ⟨congrArg _ (no (fun q=>q.2.1) (by simp only;omega)),rfl⟩ aa
 refine gg ?_ ?_ <;> intro h3
 ·refine gz ?_;exact fin ⟨congrArg _ (no (fun q=>q.2.2.1) (by simp only;omega)),rfl⟩ aa
 refine gg ?_ ?_ <;> intro h4
 ·refine gz ?_;exact fin ⟨congrArg _ (no (fun q=>q.2.2.2.1) (by simp only;omega)),rfl⟩ aa
 refine gg ?_ ?_ <;> intro h5
 ·refine gz ?_;exact fin ⟨congrArg _ (no (fun q=>q.2.2.2.2.1) (by simp only;omega)),rfl⟩ aa
 obtain ⟨k,rfl⟩:∃k:Nat,top=k:=⟨top.toNat,by omega⟩
 have hk:k<aJ.length:=by omega
 have hx:=ar Tp.aj aJ k _ (List.getElem?_eq_getElem hk) 1 _ rfl
 obtain ⟨g,off,rfl⟩:=hO.addr oZ
 refine gi ?_ ?_ <;> intro h6
 ·refine gz ?_;exact fin ⟨congrArg _ (no (fun q=>q.2.2.2.2.2) (by rw [Iy rfl hk];simp only;omega)),rfl⟩ aa
 refine gc (On O _ aJ aJ.length rfl hO') ?_
 rintro _ _ ⟨rfl,rfl⟩
 have hh:eU.half ⟨pool,aJ,k,fC⟩:=by unfold eU.half;rw [Iy rfl hk];simp only;omega
 refine gi ?_ ?_ <;> intro h7
 ·refine gz ?_;exact fin ⟨congrArg _ (Ol (fun q=>by simp at h7;obtain ⟨x,hx,hm⟩:=h7;exact hm (((ib _).1 q).2 x hx))).symm,rfl⟩ aa
 ·refine gz ?_;exact fin ⟨congrArg _ ((ib _).2 ⟨hh,by simpa using h7⟩).symm,rfl⟩ aa
end Go.Proofs.YteldablklnfblaaGreatDoor
namespace Go.Sl
def four (L:List Nat):List UInt8:=L.flatMap fun n=>ae n 8
theorem yj {L:List Nat}{i x:Nat}(h:L[i]? = some x):four (L.take (i+1))=four (L.take i)++ae x 8:=by
 obtain ⟨hi,rfl⟩:=List.getElem?_eq_some_iff.1 h
 rw [List.take_succ_eq_append_getElem hi,four,four,List.flatMap_append];simp
theorem CB (L:List Nat):(four L).length=8*L.length:=by
 induction L with
 | nil=>rfl
 | cons a r ih=>simp only [four,List.flatMap_cons,List.length_append,af,List.length_cons] at *;omega
theorem uZ (L:List Nat)(i:Nat):(four (L.take i)).length<=8*i:=by
 rw [CB,List.length_take];omega
theorem Kf {l:List Tp}{i:Nat}{t:Tp}(h:l[i]? = some t):(l.take (i+1)).flatMap xe=(l.take i).flatMap xe++xe t:=by
 obtain ⟨hi,rfl⟩:=List.getElem?_eq_some_iff.1 h
 rw [List.take_succ_eq_append_getElem hi,List.flatMap_append];simp
theorem Gg {l:eU}(h:l.half)(hm:∀t∈l.aJ,t.made):l.place<=5:=by
 obtain ⟨m1,m2,m3,m4,m5,m6⟩:=h
 have:l.top.toNat<l.aJ.length:=by omega
 have q9:l.aJ.getD l.top.toNat uV∈l.aJ:=by simp [List.getD,this]
 have:=hm _ q9
 unfold Tp.made at this
 omega
theorem Iz (s:Fs):four [s.a,s.b,s.c,s.d]=J8 s:=by simp [four,J8]
end Go.Sl
namespace Go.Proofs.YteldablklnfblaaGreatDoor
open Go.Sl
set_option maxRecDepth 10000
theorem CC (p room:Nat)(bs:List UInt8)(A:Chunk)(s:Fs)(hs:s.Ok)(hA:xd p room bs A)(hf:bs.length+32<=room):Ct 198 [ptr p,s.agg] [A] fun _ Bs=>∃A',xd p room (bs++J8 s) A'/\Bs=[A']:=by
 refine st Tryz.func198 fun w0 => ?_
 refine ga ?_;intro b3
 refine gl [0,14] (fun ((i,_):Nat×Chunk)=>[(15,.int .i64 i)]) (fun (_,A)=>[A]) (fun (i,A)=>i<=4/\xd p room (bs++four ([s.a,s.b,s.c,s.d].take i)) A) (fun (i,_)=>4 - i) (0,A) ⟨by omega,by rw [List.take_zero];simpa [four] using hA⟩ ?_
 rintro ⟨i,A⟩ ⟨hi,hA⟩
 refine gi ?_ ?_ <;> intro bo
 ·have hi4:i<4:=by omega
  obtain ⟨x,hx⟩:∃x,[s.a,s.b,s.c,s.d][i]? = some x:=⟨_,List.getElem?_eq_getElem hi4⟩
  have hv:([s.a,s.b,s.c,s.d].map fun n:Nat=>Value.int .u64 n)[i]? = some (.int .u64 x):=by rw [List.getElem?_map,hx];rfl
  have hb:x<256 ^ 8:=by
   have:=List.mem_of_getElem? hx
   obtain ⟨h1,h2,h3,h4⟩:=hs
   simp at this;rcases this with rfl | rfl | rfl | rfl <;> assumption
  have hl:=uZ [s.a,s.b,s.c,s.d] i
  refine gc (fA p room _ A x 8 hA oZ hb (by rw [List.length_append];omega)) ?_
  rintro _ _ ⟨A',dY,rfl⟩
  rw [List.append_assoc,<-yj hx] at dY
  refine gn ?_
  exact ⟨(i+1,A'),⟨by omega,dY⟩,by simp only;omega,aq,_,aa⟩
 ·obtain rfl:i=4:=by omega
  refine gz ?_
  exact fin ⟨_,by rw [<-Iz];exact hA,rfl⟩ aa
theorem Tm (p room:Nat)(A O:Chunk)(v:Value)(l:eU)(n:Nat)(hn:l.aJ.length=n)(hO:Rd O 3 v n (l.aJ.flatMap Tp.lay))(ho:l.Ok)(hm:uX l=0)(hA:xd p room [] A)(hr:39<=room):Ct 134 [ptr p,mE l v] [A,O] fun _ Bs=>∃A',xd p room (dL l) A'/\Bs=[A',O]:=by
 subst hn
 obtain ⟨hh,Bp⟩:=(ib l).1 hm
 have mw:=Gg hh Bp
 obtain ⟨m1,m2,m3,m4,m5,m6⟩:=hh
 obtain ⟨ad,c,rfl⟩:=hO.slice
 obtain ⟨g,off,rfl⟩:=hO.addr oZ
 obtain ⟨pool,aJ,top,fC⟩:=l
 obtain ⟨o1, -, -, -⟩:=ho
 simp only at *
 obtain ⟨tn,rfl⟩:∃n:Nat,top=n:=⟨top.toNat,by omega⟩
 obtain ⟨pn,rfl⟩:∃n:Nat,fC=n:=⟨fC.toNat,by omega⟩
 have hH:Ix ⟨pool,aJ,tn,pn⟩=iv++ae pool 8++ae tn 1++ae pn 1++ae aJ.length 1:=by simp [Ix]
 change Ct _ [ptr p,.agg #[.int .u64 pool,.slice (some ⟨g,off,none⟩) aJ.length c,.int .i64 tn,.int .i64 pn]] _ _
 refine st Tryz.func134 fun w0 => ?_
 refine ga ?_;intro b3
 refine gm ?_;intro b7
 refine gc (nj p room [] iv A _ _ hA (HS (g:=b7) (T:=5) iv dZ) (by simp [iv];omega)) ?_
 rintro _ _ ⟨A1,ma,rfl⟩
 refine gc (fA p room _ A1 pool 8 ma oZ o1 (by simp [iv];omega)) ?_
 rintro _ _ ⟨A2,lA,rfl⟩
 refine gc (fA p room _ A2 tn 1 lA oZ oZ (by simp [iv,af];omega)) ?_
 rintro _ _ ⟨A3,u1,rfl⟩
 refine gc (fA p room _ A3 pn 1 u1 oZ oZ (by simp [iv,af];omega)) ?_
 rintro _ _ ⟨A4,xf,rfl⟩
 refine gc (fA p room _ A4 aJ.length 1 xf oZ oZ (by simp [iv,af];omega)) ?_
 rintro _ _ ⟨A5,Fm,rfl⟩
 rw [List.nil_append,<-hH] at Fm
 refine gl [0,31,32] (fun ((i,_):Nat×Chunk)=>[(33,.int .i64 i)]) (fun (_,A)=>[A]) (fun (i,A)=>i<=aJ.length/\xd p room (Ix ⟨pool,aJ,tn,pn⟩++(aJ.take i).flatMap xe) A) (fun (i,_)=>aJ.length - i) (0,A5) ⟨by omega,by simpa using Fm⟩ ?_
 rintro ⟨i,A⟩ ⟨hi,hA⟩
 refine gi ?_ ?_ <;> intro bo
 ·obtain ⟨⟨k,lv,sc⟩,hx⟩:=eB (l:=aJ) (i:=i) oZ
  have RT:=Bp _ (List.mem_of_getElem? hx)
  have cw:=Kf hx
  have hs:=ar Tp.aj aJ i _ hx
  have hl:=lz ⟨pool,aJ,tn,pn⟩
  have Kg:=uY (aJ.take i)
  rw [List.length_take,Nat.min_eq_left oZ] at Kg
  unfold Tp.made at RT
  simp only at RT
  obtain ⟨kn,rfl⟩:∃n:Nat,k=n:=⟨k.toNat,by omega⟩
  obtain ⟨vn,rfl⟩:∃n:Nat,lv=n:=⟨lv.toNat,by omega⟩
  obtain ⟨sn,rfl⟩:∃n:Nat,sc=n:=⟨sc.toNat,by omega⟩
  have hB:xe ⟨kn,vn,sn⟩=ae kn 1++ae vn 1++ae sn 4:=by simp [xe]
  change Sub (i*3) [.int .i64 kn,.int .i64 vn,.int .i64 sn] _ at hs
  refine ga ?_;intro b5
  refine gc (fA p room _ A kn 1 hA oZ oZ (by simp only [List.length_append];omega)) ?_
  rintro _ _ ⟨B1,hB1,rfl⟩
  refine gc (fA p room _ B1 vn 1 hB1 oZ oZ (by simp only [List.length_append,af];omega)) ?_
  rintro _ _ ⟨B2,hB2,rfl⟩
  refine gc (fA p room _ B2 sn 4 hB2 oZ oZ (by simp only [List.length_append,af];omega)) ?_
  rintro _ _ ⟨B3,hB3,rfl⟩
  refine gn ?_
  exact ⟨(i+1,B3),⟨by omega,by rw [cw,hB];simpa using hB3⟩,by simp only;omega,aq,_,aa⟩
 ·obtain rfl:i=aJ.length:=by omega
  rw [List.take_length] at hA
  refine gz ?_
  exact fin ⟨_,hA,rfl⟩ aa
theorem IA (T:TypeId)(fr:Nat×Nat)(O:Chunk)(v:Value)(b:List UInt8)(hb:b.length=96)(hO:Rd O 1 v 96 (ak b)):Ct 132 [v,.int .i64 0] [gK T fr,O] fun u Bs=>∃g,u = .tuple #[.slice (some ⟨g,0,none⟩) 128 128,.int .i64 0]/\Bs=[[(g,ax (ak (b++J8 (aF b))) 5)],gK T fr,O]:=by
 have hK:=zL T fr O v b 96 hb hO oZ 1
 rw [show iX 1 b=(aF b,0) from rfl] at hK
 simp only at hK
 obtain ⟨ad,c,rfl⟩:=hO.slice
 refine st Tryz.func132 fun w0 => ?_
 refine gc hK ?_
 rintro _ _ ⟨rfl,rfl⟩
 refine ga ?_;intro b6
 refine gc (uQ 128 oZ) ?_
 rintro _ _ ⟨p,A,rfl,hA,rfl⟩
 refine gc (nj p 128 [] b A O (.slice ad 96 c) hA (by rw [hb];exact hO) (by simp;omega)) ?_
 rintro _ _ ⟨A1,ma,rfl⟩
 rw [List.nil_append] at ma
 refine gc (CC p 128 b A1 (aF b) (nn b) ma oZ) ?_
 rintro _ _ ⟨A2,lA,rfl⟩
 have hl:(b++J8 (aF b)).length=128:=by rw [List.length_append,ly,hb]
 have hD:=oz p 128 _ A2 lA oZ
 rw [hl] at hD
 refine gc hD ?_
 rintro _ _ ⟨g,rfl,rfl⟩
 refine gz ?_
 exact fin ⟨g,rfl,rfl⟩ aa
theorem Gh (T:TypeId)(fr:Nat×Nat)(O:Chunk)(v:Value)(l:eU)(n:Nat)(hn:l.aJ.length=n)(hO:Rd O 3 v n (l.aJ.flatMap Tp.lay))(ho:l.Ok)(hm:uX l=0):Ct 79 [mE l v] [gK T fr,O] fun u Bs=>∃g,u = .tuple #[.slice (some ⟨g,0,none⟩) 128 128,.int .i64 0]/\Bs=[[(g,ax (ak (whole (dL l))) 5)],gK T fr,O]:=by
 have hL:=jo l
 have hh:=((ib l).1 hm).1.2.1
 have hE:=rv O v l n hn hO
 rw [hm] at hE
 refine st Tryz.func79 fun w0 => ?_
 refine ga ?_;intro b1
 refine ge ?_
 refine ga ?_;intro b4
 refine gc hE ?_
 rintro _ _ ⟨rfl,rfl⟩
 refine gc (uQ 96 oZ) ?_
 rintro _ _ ⟨p,A,rfl,hA,rfl⟩
 refine gc (Tm p 96 A O v l n hn hO ho hm hA oZ) ?_
 rintro _ _ ⟨A1,ma,rfl⟩
 refine gc (Il p 96 (dL l) A1 96 ma oZ) ?_
 rintro _ _ ⟨A2,lA,rfl⟩
 have hp:(aC (dL l)).length=96:=ea oZ
 have hD:=oz p 96 (aC (dL l)) A2 lA oZ
 rw [hp] at hD
 refine gc hD ?_
 rintro _ _ ⟨g,rfl,rfl⟩
 have hR:Rd [(g,ax (ak (aC (dL l))) 5)] 1 (.slice (some ⟨g,0,none⟩) 96 96) 96 (ak (aC (dL l))):=av (by rw [ai,hp]) (aK _) oZ _
 refine gc (IA T fr _ _ _ hp hR) ?_
 rintro _ _ ⟨g2,rfl,rfl⟩
 refine gz ?_
 exact fin ⟨g2,rfl,rfl⟩ aa
theorem yk (p:Nat)(bs:List UInt8)(i:Nat)(A:Chunk)(hA:oA p bs i 0 A)(hi:i+32<=bs.length):Ct 226 [ptr p] [A] fun u Bs=>∃A',u=(mD bs i).agg/\oA p bs (i+32) 0 A'/\Bs=[A']:=by
 refine st Tryz.func226 fun w0 => ?_
 refine ga ?_;intro b2
 refine gc (cj p bs i 8 A hA oZ oZ) ?_
 rintro _ _ ⟨A1,rfl,ma,rfl⟩
 refine gc (cj p bs (i+8) 8 A1 ma oZ oZ) ?_
 rintro _ _ ⟨A2,rfl,lA,rfl⟩
 refine gc (cj p bs (i+8+8) 8 A2 lA oZ oZ) ?_
 rintro _ _ ⟨A3,rfl,u1,rfl⟩
 refine gc (cj p bs (i+8+8+8) 8 A3 u1 oZ oZ) ?_
 rintro _ _ ⟨A4,rfl,xf,rfl⟩
 refine gz ?_
 exact fin ⟨A4,rfl,xf,rfl⟩ aa
end Go.Proofs.YteldablklnfblaaGreatDoor
namespace Go.Sl
theorem Tn (p:Pt):Td p=J8 ⟨p.a,p.b,p.c,p.d⟩:=rfl
theorem To (b:List UInt8)(q:Nat):nm b q 1<256/\nm b q 2<65536/\nm b q 4<4294967296/\nm b q 8<18446744073709551616:=⟨Iq b q 1,Iq b q 2,Iq b q 4,Iq b q 8⟩
end Go.Sl
namespace Go.Proofs.YteldablklnfblaaGreatDoor
open Go.Sl
set_option maxRecDepth 10000
theorem kF (p:Pt)(h:fB p=0):Ct 211 [p.agg] [] fun u Bs=>u = .int .i64 0/\Bs=[]:=by
 rcases yg h with rfl | hg
 ·refine st Tryz.func211 fun w0 => ?_
  refine ga ?_;intro b1
  refine gz ?_
  exact fin ⟨rfl,rfl⟩ aa
 ·obtain ⟨h1,h2,h3,h4,h5,h6,h7,h8,h9⟩:=hg
  refine st Tryz.func211 fun w0 => ?_
  refine ga ?_;intro b1
  refine gi ?_ ?_ <;> intro hz
  ·simp at hz;omega
  ·rcases h9 with h9 | h9
   all_goals
    obtain ⟨tp,at_,fI,bi,kd,a,b,c,d⟩:=p
    simp only at *
    obtain rfl:kd=_:=h9
    refine gz ?_
    exact fin ⟨rfl,rfl⟩ aa
theorem CE (p room:Nat)(bs:List UInt8)(A:Chunk)(x:Pt)(hx:fB x=0)(ho:x.Ok)(hA:xd p room bs A)(hf:bs.length+48<=room):Ct 267 [ptr p,x.agg] [A] fun _ Bs=>∃A',xd p room (bs++J3 x) A'/\Bs=[A']:=by
 obtain ⟨m1,m2,m3,m4,m5⟩:=zE hx
 obtain ⟨o1,o2,o3,o4,o5,o6,o7,o8,o9⟩:=ho
 obtain ⟨tp,at_,fI,bi,kd,a,b,c,d⟩:=x
 simp only at *
 obtain ⟨tn,rfl⟩:∃n:Nat,tp=n:=⟨tp.toNat,by omega⟩
 obtain ⟨an,rfl⟩:∃n:Nat,at_=n:=⟨at_.toNat,by omega⟩
 obtain ⟨bn,rfl⟩:∃n:Nat,fI=n:=⟨fI.toNat,by omega⟩
 obtain ⟨kn,rfl⟩:∃n:Nat,kd=n:=⟨kd.toNat,by omega⟩
 refine st Tryz.func267 fun w0 => ?_
 refine ga ?_;intro b3
 refine gc (fA p room _ A tn 1 hA oZ oZ oZ) ?_
 rintro _ _ ⟨A1,ma,rfl⟩
 refine gc (fA p room _ A1 kn 1 ma oZ oZ (by simp only [List.length_append,af];omega)) ?_
 rintro _ _ ⟨A2,lA,rfl⟩
 refine gc (fA p room _ A2 bn 2 lA oZ oZ (by simp only [List.length_append,af];omega)) ?_
 rintro _ _ ⟨A3,u1,rfl⟩
 refine gc (fA p room _ A3 an 4 u1 oZ oZ (by simp only [List.length_append,af];omega)) ?_
 rintro _ _ ⟨A4,xf,rfl⟩
 refine gc (fA p room _ A4 bi 8 xf oZ oZ (by simp only [List.length_append,af];omega)) ?_
 rintro _ _ ⟨A5,Fm,rfl⟩
 refine gc (CC p room _ A5 ⟨a,b,c,d⟩ ⟨o6,o7,o8,o9⟩ Fm (by simp only [List.length_append,af];omega)) ?_
 rintro _ _ ⟨A6,R4,rfl⟩
 refine gz ?_
 exact fin ⟨A6,by simpa [J3,Tn] using R4,rfl⟩ aa
theorem u2 (x:Pt)(hx:fB x=0)(ho:x.Ok):Ct 219 [x.agg] [] fun u Bs=>∃g,u = .tuple #[.slice (some ⟨g,0,none⟩) 64 64,.int .i64 0]/\Bs=[[(g,ax (ak (di x)) 5)]]:=by
 refine st Tryz.func219 fun w0 => ?_
 refine ga ?_;intro b1
 refine ge ?_
 refine ga ?_;intro b4
 refine gc (kF x hx) ?_
 rintro _ _ ⟨rfl,rfl⟩
 refine gc (uQ 64 oZ) ?_
 rintro _ _ ⟨p,A,rfl,hA,rfl⟩
 refine gc (CE p 64 [] A x hx ho hA (by simp)) ?_
 rintro _ _ ⟨A1,ma,rfl⟩
 have hl:=lu x
 rw [List.nil_append] at ma
 refine gc (Il p 64 (J3 x) A1 64 ma oZ) ?_
 rintro _ _ ⟨A2,lA,rfl⟩
 rw [hl] at lA
 have hD:=oz p 64 (di x) A2 lA (by rw [aZ];omega)
 rw [aZ] at hD
 refine gc hD ?_
 rintro _ _ ⟨g,rfl,rfl⟩
 refine gz ?_
 exact fin ⟨g,rfl,rfl⟩ aa
theorem yl (p:Nat)(bs:List UInt8)(i:Nat)(A:Chunk)(hA:oA p bs i 0 A)(hi:i+48<=bs.length):Ct 235 [ptr p] [A] fun u Bs=>∃A',u=(NW bs i).agg/\oA p bs (i+48) 0 A'/\Bs=[A']:=by
 have n1:numOf (cut bs i 1)<256:=(To bs i).1
 have n2:numOf (cut bs (i+1) 1)<256:=(To bs (i+1)).1
 have n3:numOf (cut bs (i+1+1) 2)<65536:=(To bs (i+1+1)).2.1
 have n4:numOf (cut bs (i+1+1+2) 4)<4294967296:=(To bs (i+1+1+2)).2.2.1
 refine st Tryz.func235 fun w0 => ?_
 refine ga ?_;intro b2
 refine gc (cj p bs i 1 A hA oZ oZ) ?_
 rintro _ _ ⟨A1,rfl,ma,rfl⟩
 refine gc (cj p bs (i+1) 1 A1 ma oZ oZ) ?_
 rintro _ _ ⟨A2,rfl,lA,rfl⟩
 refine gc (cj p bs (i+1+1) 2 A2 lA oZ oZ) ?_
 rintro _ _ ⟨A3,rfl,u1,rfl⟩
 refine gc (cj p bs (i+1+1+2) 4 A3 u1 oZ oZ) ?_
 rintro _ _ ⟨A4,rfl,xf,rfl⟩
 refine gc (cj p bs (i+1+1+2+4) 8 A4 xf oZ oZ) ?_
 rintro _ _ ⟨A5,rfl,Fm,rfl⟩
 refine ga ?_;intro b3
 refine gc (yk p bs (i+1+1+2+4+8) A5 Fm oZ) ?_
 rintro _ _ ⟨A6,rfl,R4,rfl⟩
 refine gz ?_
 exact fin ⟨A6,rfl,R4,rfl⟩ aa
end Go.Proofs.YteldablklnfblaaGreatDoor
namespace Go.Sl
theorem Kh (b L:List UInt8):fR b L=true↔b.length=128/\b.take 4=L/\mD b 96=aF (b.take 96):=by unfold fR;rw [decide_eq_true_eq]
theorem u3 {b L:List UInt8}(h:¬(b.length=128/\b.take 4=L/\mD b 96=aF (b.take 96))):fR b L=false:=by unfold fR;exact decide_eq_false h
theorem Ki (b:List UInt8)(q:Nat):mD (b.drop q) 0=mD b q:=by simp [mD,nm,List.drop_drop]
end Go.Sl
namespace Go.Proofs.YteldablklnfblaaGreatDoor
open Go.Sl
set_option maxRecDepth 10000
theorem pM (T:TypeId)(fr:Nat×Nat)(O:Chunk)(ad:Option Addr)(c:Nat)(b L:List UInt8)(hb:b.length=128)(hc:128<=c)(hL:L.length=4)(hO:Rd O 1 (.slice ad 128 c) 128 (ak b)):Ct 169 [.slice ad 128 c,str L] [gK T fr,O] fun u Bs=>∃w,u = .tuple #[w,.bool (fR b L)]/\(fR b L=true->Rd O 1 w 96 (ak (b.take 96)))/\Bs=[gK T fr,O]:=by
 refine st Tryz.func169 fun w0 => ?_
 have hn:L.length - 0=4:=by omega
 have ou:((ak b).drop (0*1)).take ((L.length - 0)*1)=ak (b.take 4):=by rw [hn];simp [aL]
 refine gw ?_;intro ad2 kD
 refine gi ?_ ?_ <;> intro h1
 ·have eD:fR b L=false:=u3 fun q=>by simp at h1;exact h1 q.2.1
  refine gz ?_
  exact fin ⟨_,by rw [eD],fun q=>(by rw [eD] at q;cases q),rfl⟩ aa
 ·have h1:b.take 4=L:=by simpa using h1
  have hn3:128 - 96=32:=rfl
  have afE:((ak b).drop (96*1)).take ((128 - 96)*1)=ak (b.drop 96):=by rw [aY,aL,List.take_of_length_le (by rw [List.length_drop];omega)]
  have hn5:96 - 0=96:=rfl
  have afF:((ak b).drop (0*1)).take ((96 - 0)*1)=ak (b.take 96):=by simp [aL]
  have hl3:(b.drop 96).length=32:=by rw [List.length_drop];omega
  have hl5:(b.take 96).length=96:=by rw [List.length_take];omega
  refine gd [0,4,16,20,9,13,27,30] ?_
  refine gw ?_;intro fL zK
  refine gw ?_;intro ry hR5
  refine gc (rq (b.drop 96) 32 hl3 oZ O _ zK) ?_
  rintro _ _ ⟨p,A,rfl,hA,rfl⟩
  refine gc (yk p (b.drop 96) 0 A hA oZ) ?_
  rintro _ _ ⟨A1,rfl,ma,rfl⟩
  refine gc (zM T fr O _ (b.take 96) 96 hl5 hR5 oZ 1 (mD (b.drop 96) 0)) ?_
  rintro _ _ ⟨rfl,rfl⟩
  have hk:sW 1 (mD (b.drop 96) 0) (b.take 96)=decide (mD b 96=aF (b.take 96)):=by rw [Ki];show (true&&Fs.J2 _ _)=_;rw [Bool.true_and,Fs.F6];rfl
  rw [hk]
  refine gi ?_ ?_ <;> intro h2
  ·have eD:fR b L=false:=u3 fun q=>by simp at h2;exact h2 q.2.2
   refine gz ?_
   exact fin ⟨_,by rw [eD],fun q=>(by rw [eD] at q;cases q),rfl⟩ aa
  ·have YK:fR b L=true:=(Kh b L).2 ⟨hb,h1,by simpa using h2⟩
   refine gw ?_;intro Gi hR6
   refine gz ?_
   exact fin ⟨_,by rw [YK],fun _=>hR6,rfl⟩ aa
theorem CG (T:TypeId)(fr:Nat×Nat)(O:Chunk)(ad:Option Addr)(c:Nat)(b:List UInt8)(hb:b.length=128)(hc:128<=c)(hO:Rd O 1 (.slice ad 128 c) 128 (ak b))(h:fR b iv=false):Ct 122 [.slice ad 128 c] [gK T fr,O] fun u Bs=>u = .tuple #[mE Oh (.slice none 0 0),.int .i64 43]/\Bs=[gK T fr,O]:=by
 have mu:=pM T fr O ad c b iv hb hc rfl hO
 rw [h] at mu
 refine st Tryz.func122 fun w0 => ?_
 refine ga ?_;intro b2
 refine gc mu ?_
 rintro _ _ ⟨w,rfl,_,rfl⟩
 refine gz ?_
 exact fin ⟨rfl,rfl⟩ aa
end Go.Proofs.YteldablklnfblaaGreatDoor
namespace Go.Sl
theorem oB {x:Pt}(h:fB x=0)(ho:x.Ok):NW (di x) 0=x:=by
 have:=Cj (zE h) ho [] (List.replicate 16 0) (q:=0) rfl
 simpa [di] using this
theorem Oo {u:Ub}(h:zP u=0)(ho:u.Ok):Kc (aC (kE u))=u:=by
 obtain ⟨h1,h2⟩:=Kd h ho
 have o2:=(gR (x:=kE u) (letters:=gV) (by rw [jr];omega) rfl ⟨_,rfl⟩).2
 rw [Oj,if_pos h1,o2] at h2;exact h2
theorem Oq {l:eU}(h:uX l=0)(ho:l.Ok):Gc (aC (dL l))=l:=by
 obtain ⟨h1,h2⟩:=Kb h ho
 have h4:=((ib l).1 h).1.2.1
 have o2:=(gR (x:=dL l) (letters:=iv) (by rw [jo];omega) rfl ⟨_,by rw [dL,Ix,List.append_assoc]⟩).2
 rw [Oi,if_pos h1,o2] at h2;exact h2
end Go.Sl
namespace Go.Proofs.YteldablklnfblaaGreatDoor
open Go.Sl
set_option maxRecDepth 10000
theorem u4 {x:List UInt8}{i:Nat}(h:x.length=i):j7 (aC x) i=true:=by
 rw [j7,aC,List.drop_left' h];simp
theorem zS (x:Pt):j7 (di x) 48=true:=by
 rw [j7,di,List.drop_left' (lu x)];simp
theorem u5 (O:Chunk)(ad:Option Addr)(c:Nat)(x:Pt)(hx:fB x=0)(ho:x.Ok)(hO:Rd O 1 (.slice ad 64 c) 64 (ak (di x))):Ct 178 [.slice ad 64 c] [O] fun u Bs=>u = .tuple #[x.agg,.int .i64 0]/\Bs=[O]:=by
 have hl:=aZ x
 have gA:=oB hx ho
 refine st Tryz.func178 fun w0 => ?_
 refine ga ?_;intro b2
 refine ge ?_
 refine ga ?_;intro b8
 refine ga ?_;intro xc
 refine gc (rq (di x) 64 hl oZ O _ hO) ?_
 rintro _ _ ⟨p,A,rfl,hA,rfl⟩
 have hT:=yl p (di x) 0 A hA oZ
 rw [gA] at hT
 refine gc hT ?_
 rintro _ _ ⟨A1,rfl,ma,rfl⟩
 refine ga ?_;intro R5
 have hP:=F5 p (di x) 48 A1 ma oZ
 rw [hl,zS] at hP
 refine gc hP ?_
 rintro _ _ ⟨A2,lA,rfl⟩
 have hD:=tA p (di x) 64 0 A2 lA oZ
 rw [hl] at hD
 refine gc hD ?_
 rintro _ _ ⟨rfl,rfl⟩
 refine gc (kF x hx) ?_
 rintro _ _ ⟨rfl,rfl⟩
 refine gz ?_
 exact fin ⟨rfl,rfl⟩ aa
theorem rz (x:Ub)(h:zP x=0):Ct 153 [x.agg] [] fun u Bs=>u = .int .i64 0/\Bs=[]:=by
 obtain ⟨m1,m2,m3,m4⟩:=zR h
 refine st Tryz.func153 fun w0 => ?_
 refine ga ?_;intro b1
 refine gc (kF x.root m3) ?_
 rintro _ _ ⟨rfl,rfl⟩
 refine gz ?_
 exact fin ⟨rfl,rfl⟩ aa
theorem Gj (T:TypeId)(fr:Nat×Nat)(x:Ub)(h:zP x=0)(ho:x.Ok):Ct 212 [x.agg] [gK T fr] fun u Bs=>∃g,u = .tuple #[.slice (some ⟨g,0,none⟩) 128 128,.int .i64 0]/\Bs=[[(g,ax (ak (whole (kE x))) 5)],gK T fr]:=by
 obtain ⟨m1,m2,m3,m4⟩:=zR h
 have hl:=jr x
 have q1:=ho.pool;have q2:=ho.txg;have q3:=ho.note
 refine st Tryz.func212 fun w0 => ?_
 refine ga ?_;intro b1
 refine ge ?_
 refine ga ?_;intro b4
 refine gc (rz x h) ?_
 rintro _ _ ⟨rfl,rfl⟩
 refine gc (uQ 96 oZ) ?_
 rintro _ _ ⟨p,A,rfl,hA,rfl⟩
 refine ge ?_
 refine ga ?_;intro b3
 refine gm ?_;intro b7
 refine gc (nj p 96 [] gV A _ _ hA (HS (g:=b7) (T:=5) gV dZ) (by simp [gV])) ?_
 rintro _ _ ⟨A1,ma,rfl⟩
 refine gc (fA p 96 _ A1 x.pool 8 ma oZ q1 (by simp [gV])) ?_
 rintro _ _ ⟨A2,lA,rfl⟩
 refine gc (fA p 96 _ A2 x.txg 8 lA oZ q2 (by simp [gV,af])) ?_
 rintro _ _ ⟨A3,u1,rfl⟩
 refine gc (fA p 96 _ A3 x.note 8 u1 oZ q3 (by simp [gV,af])) ?_
 rintro _ _ ⟨A4,xf,rfl⟩
 refine gc (CE p 96 _ A4 x.root m3 ho.root xf (by simp [gV,af])) ?_
 rintro _ _ ⟨A5,Fm,rfl⟩
 have Fm:xd p 96 (kE x) A5:=by simpa [kE] using Fm
 refine gc (Il p 96 (kE x) A5 96 Fm oZ) ?_
 rintro _ _ ⟨A6,R4,rfl⟩
 have hp:(aC (kE x)).length=96:=ea oZ
 have hD:=oz p 96 (aC (kE x)) A6 R4 oZ
 rw [hp] at hD
 refine gc hD ?_
 rintro _ _ ⟨g,rfl,rfl⟩
 have hR:Rd [(g,ax (ak (aC (kE x))) 5)] 1 (.slice (some ⟨g,0,none⟩) 96 96) 96 (ak (aC (kE x))):=av (by rw [ai,hp]) (aK _) oZ _
 refine gc (IA T fr _ _ _ hp hR) ?_
 rintro _ _ ⟨g2,rfl,rfl⟩
 refine gz ?_
 exact fin ⟨g2,rfl,rfl⟩ aa
theorem CH (T:TypeId)(fr:Nat×Nat)(O:Chunk)(ad:Option Addr)(c:Nat)(b:List UInt8)(hb:b.length=128)(hc:128<=c)(hO:Rd O 1 (.slice ad 128 c) 128 (ak b))(h:fR b gV=false):Ct 148 [.slice ad 128 c] [gK T fr,O] fun u Bs=>u = .tuple #[jq.agg,.int .i64 45]/\Bs=[gK T fr,O]:=by
 have mu:=pM T fr O ad c b gV hb hc rfl hO
 rw [h] at mu
 refine st Tryz.func148 fun w0 => ?_
 refine ga ?_;intro b2
 refine gc mu ?_
 rintro _ _ ⟨w,rfl,_,rfl⟩
 refine gz ?_
 exact fin ⟨rfl,rfl⟩ aa
theorem Gk (T:TypeId)(fr:Nat×Nat)(O:Chunk)(ad:Option Addr)(c:Nat)(x:Ub)(h:zP x=0)(ho:x.Ok)(hc:128<=c)(hO:Rd O 1 (.slice ad 128 c) 128 (ak (whole (kE x)))):Ct 148 [.slice ad 128 c] [gK T fr,O] fun u Bs=>u = .tuple #[x.agg,.int .i64 0]/\Bs=[gK T fr,O]:=by
 have hl:=jr x
 obtain ⟨o1,o2⟩:=gR (x:=kE x) (letters:=gV) oZ rfl ⟨_,rfl⟩
 have mu:=pM T fr O ad c _ gV (fQ oZ) hc rfl hO
 rw [o1,o2] at mu
 have gA:=Oo h ho
 have hp:(aC (kE x)).length=96:=ea oZ
 refine st Tryz.func148 fun w0 => ?_
 refine ga ?_;intro b2
 refine gc mu ?_
 rintro _ _ ⟨w,rfl,hw,rfl⟩
 have hw:=hw rfl
 obtain ⟨ad2,c2,rfl⟩:=hw.slice
 refine ge ?_
 refine ga ?_;intro b8
 refine ga ?_;intro xc
 refine gc (rq (aC (kE x)) 96 hp oZ O _ hw) ?_
 rintro _ _ ⟨p,A,rfl,hA,rfl⟩
 refine ge ?_
 refine ga ?_;intro c2
 refine gc (pI p (aC (kE x)) 0 4 A hA oZ) ?_
 rintro _ _ ⟨A1,b1,rfl,ma,rfl⟩
 refine gc (cj p (aC (kE x)) 4 8 A1 ma oZ oZ) ?_
 rintro _ _ ⟨A2,rfl,lA,rfl⟩
 refine gc (cj p (aC (kE x)) 12 8 A2 lA oZ oZ) ?_
 rintro _ _ ⟨A3,rfl,u1,rfl⟩
 refine gc (cj p (aC (kE x)) 20 8 A3 u1 oZ oZ) ?_
 rintro _ _ ⟨A4,rfl,xf,rfl⟩
 refine gc (yl p (aC (kE x)) 28 A4 xf oZ) ?_
 rintro _ _ ⟨A5,rfl,Fm,rfl⟩
 refine ga ?_;intro R5
 have hP:=F5 p (aC (kE x)) 76 A5 Fm oZ
 rw [hp,u4 hl] at hP
 have hag:(Kc (aC (kE x))).agg=x.agg:=by rw [gA]
 have CI:=rz x h
 rw [<-hag] at CI ⊢
 refine gc hP ?_
 rintro _ _ ⟨A6,R4,rfl⟩
 have hD:=tA p (aC (kE x)) 96 0 A6 R4 oZ
 rw [hp] at hD
 refine gc hD ?_
 rintro _ _ ⟨rfl,rfl⟩
 refine gc CI ?_
 rintro _ _ ⟨rfl,rfl⟩
 refine gz ?_
 exact fin ⟨rfl,rfl⟩ aa
end Go.Proofs.YteldablklnfblaaGreatDoor
namespace Go.Sl
section
variable {α:Type}{T:TypeId}{s:Nat}{lay:List α->List Value}
def xg (T:TypeId)(s:Nat)(lay:List α->List Value):Chunk->List Value->List (List α)->Prop
 | D,[],[]=>D=[]
 | D,v :: vs,x :: xs=>∃C D',D=C++D'/\az C T s v x.length (lay x)/\xg T s lay D' vs xs
 | _,_,_=>False
theorem xg.len:∀ {D:Chunk} {vs:List Value} {xs:List (List α)},xg T s lay D vs xs->vs.length=xs.length
 | _,[],[],_=>rfl
 | _,_ :: _,_ :: _,⟨_,_,_,_,h⟩=>by simp [h.len]
 | _,[],_ :: _,h=>h.elim
 | _,_ :: _,[],h=>h.elim
theorem xg.snoc {C:Chunk}{v:Value}{x:List α}(hC:az C T s v x.length (lay x)):∀ {D:Chunk} {vs:List Value} {xs:List (List α)},xg T s lay D vs xs->xg T s lay (D++C) (vs++[v]) (xs++[x])
 | _,[],[],h=>by
  cases h
  exact ⟨C,[],by simp,hC,rfl⟩
 | _,_ :: _,_ :: _,⟨C0,D',e,Tq,h⟩=>⟨C0,D'++C,by rw [e,List.append_assoc],Tq,h.snoc hC⟩
 | _,[],_ :: _,h=>h.elim
 | _,_ :: _,[],h=>h.elim
theorem xg.at:∀ {D:Chunk} {vs:List Value} {xs:List (List α)},xg T s lay D vs xs->∀ {i:Nat} (hi:i<xs.length),
  ∃A C B v,D=A++(C++B)/\vs[i]? = some v/\az C T s v xs[i].length (lay xs[i])/\∀C' v' x',az C' T s v' x'.length (lay x')->xg T s lay (A++(C'++B)) (vs.set i v') (xs.set i x')
 | _,v :: vs,x :: xs,⟨C,D',e,hC,h⟩,0,_=>⟨[],C,D',v,by simpa using e,rfl,hC,fun C' v' x' bA=>⟨C',D',by simp,bA,h⟩⟩
 | _,v :: vs,x :: xs,⟨C,D',e,hC,h⟩,i+1,hi=>by
  obtain ⟨A,C2,B,v2,e2,hv,hB,hk⟩:=h.at (i:=i) (by simpa using hi)
  refine ⟨C++A,C2,B,v2,by rw [e,e2,List.append_assoc],hv,hB,fun C' v' x' bA => ?_⟩
  exact ⟨C,A++(C'++B),by rw [List.append_assoc],hC,hk C' v' x' bA⟩
 | _,[],[],_,_,hi=>absurd hi (by simp)
 | _,[],_ :: _,h,_,_=>h.elim
 | _,_ :: _,[],h,_,_=>h.elim
theorem xg.rd {D:Chunk}{vs:List Value}{xs:List (List α)}(h:xg T s lay D vs xs){i:Nat}(hi:i<xs.length):∃v,vs[i]? = some v/\Rd D s v xs[i].length (lay xs[i]):=by
 obtain ⟨A,C,B,v,rfl,hv,hC, -⟩:=h.at hi
 exact ⟨v,hv,hC.rd.sub fun x hx=>by simp [hx]⟩
end
section
variable {α:Type}{lay:α->List Value}{s:Nat}
theorem rA (hl:∀a,(lay a).length=s):∀(k:Nat) (l:List α),(l.flatMap lay).drop (k*s)=(l.drop k).flatMap lay
 | 0,l=>by simp
 | k+1,[]=>by simp
 | k+1,y :: r=>by rw [List.flatMap_cons,Nat.succ_mul,List.drop_succ_cons,<-rA hl k r,Nat.add_comm (k*s) s,<-List.drop_drop,List.drop_left' (hl y)]
theorem kG (hl:∀a,(lay a).length=s):∀(k:Nat) (l:List α),(l.flatMap lay).take (k*s)=(l.take k).flatMap lay
 | 0,l=>by simp
 | k+1,[]=>by simp
 | k+1,y :: r=>by rw [List.flatMap_cons,List.take_succ_cons,List.flatMap_cons,<-kG hl k r,Nat.succ_mul,Nat.add_comm (k*s) s,List.take_add,List.take_left' (hl y),List.drop_left' (hl y)]
end
theorem IB (xs:List UInt8)(i:Nat)(x:UInt8):(ak xs).set i (.int .u8 x.toNat)=ak (xs.set i x):=by simp [ak,List.map_set]
section
variable {α:Type}
def cY (n k:Nat):Nat:=(n+(k - 1)) / k
def kH (k:Nat)(l:List α)(i:Nat):List (List α):=(List.range i).map fun j=>(l.drop (j*k)).take k
def jt (k:Nat)(l:List α):List (List α):=kH k l (cY l.length k)
theorem u6 (k:Nat)(l:List α)(i:Nat):kH k l (i+1)=kH k l i++[(l.drop (i*k)).take k]:=by simp [kH,List.range_succ]
theorem zT (k:Nat)(l:List α)(i:Nat):(kH k l i).length=i:=by simp [kH]
theorem dA (k:Nat)(l:List α):(jt k l).length=cY l.length k:=zT _ _ _
theorem lB {k:Nat}{l:List α}{i:Nat}(h:i<(jt k l).length):(jt k l)[i]=(l.drop (i*k)).take k:=by simp [jt,kH]
theorem oC {n k i:Nat}(h1:n<=i*k)(h2:i*k<n+k):cY n k=i:=by
 unfold cY
 have hk:0<k:=by
  rcases Nat.eq_zero_or_pos k with rfl | h
  ·simp at h2;omega
  ·exact h
 rw [Nat.div_eq_iff hk]
 constructor
 ·omega
 ·have:=Nat.succ_mul i k;omega
end
def eg (x:List UInt8):List UInt8:=if x=List.replicate x.length 0 then [] else x
def bp (x:List UInt8):Bool:=decide (x=List.replicate x.length 0)
theorem CJ {x:List UInt8}(h:bp x=true):eg x=[]:=by simp only [bp,decide_eq_true_eq] at h;simp only [eg];rw [if_pos h]
theorem mF {x:List UInt8}(h:bp x=false):eg x=x:=by simp only [bp,decide_eq_false_iff_not] at h;simp only [eg];rw [if_neg h]
def eV (b:List UInt8):List (List UInt8):=(jt 1024 b).map eg
theorem Gl {b:List UInt8}{i:Nat}(hi:i<b.length)(h:b.take i=List.replicate i 0)(hz:b[i]=0):b.take (i+1)=List.replicate (i+1) 0:=by
 rw [List.take_add_one,h,List.getElem?_eq_getElem hi,hz,List.replicate_succ'];rfl
theorem Kj {b:List UInt8}{i:Nat}(hi:i<b.length)(hz:b[i]≠0):bp b=false:=by
 simp only [bp,decide_eq_false_iff_not]
 intro h
 apply hz
 have:b[i]? = some 0:=by rw [h,List.getElem?_replicate,if_pos hi]
 rw [List.getElem?_eq_getElem hi] at this
 exact Option.some.inj this
theorem Kk {b:List UInt8}(h:b.take b.length=List.replicate b.length 0):bp b=true:=by
 rw [List.take_length] at h
 simpa [bp] using h
abbrev aO (l:List Pt):List Value:=l.flatMap Pt.lay
end Go.Sl
namespace Go.Proofs.YteldablklnfblaaGreatDoor
open Go.Sl
set_option maxRecDepth 10000
set_option maxHeartbeats 4000000
theorem zU (v:Value)(O:Chunk)(b:List UInt8)(n:Nat)(hn:b.length=n)(hO:Rd O 1 v n (ak b)):Ct 261 [v] [O] fun u Bs=>u = .bool (bp b)/\Bs=[O]:=by
 have Gf:=hO.2.2.1
 simp only [maxLen] at Gf
 obtain ⟨ad,c,rfl⟩:=hO.slice
 refine st Tryz.func261 fun w0 => ?_
 refine ge ?_
 refine ge ?_
 refine gl [0,1,6,7] (fun (i:Nat)=>[(8,.int .i64 i)]) (fun _=>[]) (fun i=>i<=n/\b.take i=List.replicate i 0) (fun i=>n - i) 0 ⟨by omega,rfl⟩ ?_
 rintro i ⟨hi,hb⟩
 refine gi ?_ ?_ <;> intro bo
 ·have bm:i<b.length:=by omega
  obtain ⟨g,o,rfl⟩:=hO.addr oZ
  obtain ⟨x,hx⟩:∃x,b[i]? = some x:=eB bm
  have ym:b[i]=x:=by rw [List.getElem?_eq_getElem bm] at hx;exact Option.some.inj hx
  refine ge ?_
  refine gi ?_ ?_ <;> intro eL
  ·refine gz ?_
   exact fin ⟨congrArg _ (Kj bm (by rw [ym];intro h0;rw [h0] at eL;exact absurd eL dZ)).symm,rfl⟩ aa
  ·refine gn ?_
   exact ⟨i+1,⟨by omega,Gl bm hb (by rw [ym];exact UInt8.toNat_inj.1 (by show x.toNat=0;omega))⟩,by omega,aq,_,aa⟩
 ·obtain rfl:i=b.length:=by omega
  refine gz ?_
  exact fin ⟨congrArg _ (Kk hb).symm,rfl⟩ aa
theorem CK (O:Chunk)(ad:Option Addr)(m c:Nat)(xs:List Value)(hR:Rd O 1 (.slice ad m c) m xs)(hm:1<=m/\m<=100000):Ct 112 [.slice ad m c] [O] fun u Bs=>∃ba c' D',u = .slice ba m c'/\az D' 5 1 (.slice ba m c') m xs/\Bs=[D',O]:=by
 obtain ⟨g,o,rfl⟩:=hR.addr oZ
 refine st Tryz.func112 fun w0 => ?_
 refine gm ?_;intro b
 have hB:az [(b,ax [] 5)] 5 1 (.slice (some ⟨b,0,none⟩) 0 0) 0 []:=⟨rfl,by simp,.inr ⟨b,0,[],rfl,rfl,by omega,by simp [maxLen],rfl⟩⟩
 refine gp ?_;intro ba c' C' bA
 rw [Nat.zero_add,List.nil_append] at bA
 refine gz ?_
 exact fin ⟨ba,c',C',by rw [Nat.zero_add],bA,rfl⟩ aa
theorem CO (O:Chunk)(ad:Option Addr)(m c:Nat)(xs:List Value)(hR:Rd O 9 (.slice ad m c) m xs)(hm:1<=m/\m<=100000):Ct 111 [.slice ad m c] [O] fun u Bs=>∃ba c' D',u = .slice ba m c'/\az D' 108 9 (.slice ba m c') m xs/\Bs=[D',O]:=by
 obtain ⟨g,o,rfl⟩:=hR.addr oZ
 refine st Tryz.func111 fun w0 => ?_
 refine gm ?_;intro b
 have hB:az [(b,ax [] 108)] 108 9 (.slice (some ⟨b,0,none⟩) 0 0) 0 []:=⟨rfl,by simp,.inr ⟨b,0,[],rfl,rfl,by omega,by simp [maxLen],rfl⟩⟩
 refine gp ?_;intro ba c' C' bA
 rw [Nat.zero_add,List.nil_append] at bA
 refine gz ?_
 exact fin ⟨ba,c',C',by rw [Nat.zero_add],bA,rfl⟩ aa
theorem rB (O:Chunk)(ad:Option Addr)(n c k:Nat)(b:List UInt8)(hn:b.length=n)(hR:Rd O 1 (.slice ad n c) n (ak b))(hc:n<=c)(hb:n<=10000)(hk:1<=k/\k<=10000):Ct 176 [.slice ad n c,.int .i64 k] [O] fun u Bs=>∃ba c' vs D V,u = .slice ba (cY n k) c'/\az D 31 1 u (cY n k) vs/\xg 5 1 ak V vs (jt k b)/\Bs=[D,V,O]:=by
 refine st Tryz.func176 fun w0 => ?_
 refine gl [1] (fun ((i,ad,m,c,v5,_):Nat×Option Addr×Nat×Nat×Value×List Value×Chunk×Chunk)=>[(0,.slice ad m c),(5,v5)]) (fun (_,_,_,_,_,_,D,V)=>[D,V]) (fun (i,ad,m,c,v5,vs,D,V)=>m=n - i*k/\i*k<n+k/\m<=c/\Rd O 1 (.slice ad m c) m (ak (b.drop (i*k)))/\(∃ry c5,v5 = .slice ry i c5)/\az D 31 1 v5 i vs/\xg 5 1 ak V vs (kH k b i)) (fun (i,_)=>n+k - i*k) (0,ad,n,c,.slice none 0 0,[],[],[]) ⟨by simp,by omega,hc,by simpa using hR,⟨none,0,rfl⟩,az.nil _ _,rfl⟩ ?_
 clear hR
 rintro ⟨i,ad,m,c,v5,vs,D,V⟩ ⟨rfl,hi,hc,hR,⟨ry,c5,rfl⟩,hD,hV⟩
 have hsi:(i+1)*k=i*k+k:=Nat.succ_mul i k
 have hii:i*1<=i*k:=Nat.mul_le_mul_left i hk.1
 refine gi ?_ ?_ <;> intro bo
 ·refine go ?_
  rw [show min (k:Int) ((n - i*k:Nat):Int)=((min k (n - i*k):Nat):Int) by omega]
  obtain ⟨q,hq⟩:∃q,q=min k (n - i*k):=⟨_,rfl⟩
  rw [<-hq]
  have ou:((ak (b.drop (i*k))).drop (0*1)).take ((q - 0)*1)=ak ((b.drop (i*k)).take k):=by
   rw [Nat.zero_mul,List.drop_zero,Nat.sub_zero,Nat.mul_one,aL,hq]
   congr 1
   refine List.take_eq_take_iff.2 ?_
   rw [List.length_drop,hn];omega
  have HX:q - 0=q:=rfl
  refine gw ?_;intro ad2 kD
  refine gc (CK O ad2 q _ _ kD oZ) ?_
  rintro _ _ ⟨fL,c3,D3,rfl,YL,rfl⟩
  refine gm ?_;intro b19
  refine gp ?_;intro pN c4 D4 hD4
  have hz:((ak (b.drop (i*k))).drop (q*1)).take ((n - i*k - q)*1)=ak (b.drop ((i+1)*k)):=by
   rw [Nat.mul_one,Nat.mul_one,aY,aL,List.drop_drop,List.take_of_length_le (by rw [List.length_drop,hn];omega)]
   congr 1
   rcases Nat.le_total k (n - i*k) with h | h
   ·rw [show q=k by omega,hsi]
   ·rw [List.drop_eq_nil_of_le (by rw [hn];omega),List.drop_eq_nil_of_le (by rw [hn];omega)]
  have Iw:n - i*k - q=n - (i+1)*k:=by omega
  clear kD ou
  refine gw ?_;intro Gi hR6
  refine gn ?_
  refine ⟨(i+1,Gi,_,_,_,_,D4,V++D3),⟨rfl,by omega,by omega,hR6,⟨pN,c4,rfl⟩,hD4, ?_⟩,by simp only;omega,aq,_,aa⟩
  rw [u6]
  refine hV.snoc ?_
  rw [show ((b.drop (i*k)).take k).length=q by rw [List.length_take,List.length_drop,hn];omega]
  exact YL
 ·have nV:cY n k=i:=oC oZ hi
  have SE:kH k b i=jt k b:=by rw [jt,hn,nV]
  rw [SE] at hV
  refine gz ?_
  rw [<-nV] at hD ⊢
  exact fin ⟨ry,c5,vs,D,V,rfl,hD,hV,rfl⟩ aa
theorem Kl (O:Chunk)(ad:Option Addr)(n c k:Nat)(b:List Pt)(hn:b.length=n)(hR:Rd O 9 (.slice ad n c) n (aO b))(hc:n<=c)(hb:n<=10000)(hk:1<=k/\k<=10000):Ct 290 [.slice ad n c,.int .i64 k] [O] fun u Bs=>∃ba c' vs D V,u = .slice ba (cY n k) c'/\az D 138 1 u (cY n k) vs/\xg 108 9 aO V vs (jt k b)/\Bs=[D,V,O]:=by
 refine st Tryz.func290 fun w0 => ?_
 refine gl [1] (fun ((i,ad,m,c,v5,_):Nat×Option Addr×Nat×Nat×Value×List Value×Chunk×Chunk)=>[(0,.slice ad m c),(5,v5)]) (fun (_,_,_,_,_,_,D,V)=>[D,V]) (fun (i,ad,m,c,v5,vs,D,V)=>m=n - i*k/\i*k<n+k/\m<=c/\Rd O 9 (.slice ad m c) m (aO (b.drop (i*k)))/\(∃ry c5,v5 = .slice ry i c5)/\az D 138 1 v5 i vs/\xg 108 9 aO V vs (kH k b i)) (fun (i,_)=>n+k - i*k) (0,ad,n,c,.slice none 0 0,[],[],[]) ⟨by simp,by omega,hc,by simpa using hR,⟨none,0,rfl⟩,az.nil _ _,rfl⟩ ?_
 clear hR
 rintro ⟨i,ad,m,c,v5,vs,D,V⟩ ⟨rfl,hi,hc,hR,⟨ry,c5,rfl⟩,hD,hV⟩
 have hsi:(i+1)*k=i*k+k:=Nat.succ_mul i k
 have hii:i*1<=i*k:=Nat.mul_le_mul_left i hk.1
 refine gi ?_ ?_ <;> intro bo
 ·refine go ?_
  rw [show min (k:Int) ((n - i*k:Nat):Int)=((min k (n - i*k):Nat):Int) by omega]
  obtain ⟨q,hq⟩:∃q,q=min k (n - i*k):=⟨_,rfl⟩
  rw [<-hq]
  have ou:((aO (b.drop (i*k))).drop (0*9)).take ((q - 0)*9)=aO ((b.drop (i*k)).take k):=by
   rw [Nat.zero_mul,List.drop_zero,Nat.sub_zero]
   show (List.flatMap _ _).take (q*9)=List.flatMap _ _
   rw [kG Pt.aj,hq]
   congr 1
   refine List.take_eq_take_iff.2 ?_
   rw [List.length_drop,hn];omega
  have HX:q - 0=q:=rfl
  refine gw ?_;intro ad2 kD
  refine gc (CO O ad2 q _ _ kD oZ) ?_
  rintro _ _ ⟨fL,c3,D3,rfl,YL,rfl⟩
  refine gm ?_;intro b19
  refine gp ?_;intro pN c4 D4 hD4
  have hz:((aO (b.drop (i*k))).drop (q*9)).take ((n - i*k - q)*9)=aO (b.drop ((i+1)*k)):=by
   show ((List.flatMap _ _).drop (q*9)).take ((n - i*k - q)*9)=List.flatMap _ _
   rw [rA Pt.aj,kG Pt.aj,List.drop_drop,List.take_of_length_le (by rw [List.length_drop,hn];omega)]
   congr 1
   rcases Nat.le_total k (n - i*k) with h | h
   ·rw [show q=k by omega,hsi]
   ·rw [List.drop_eq_nil_of_le (by rw [hn];omega),List.drop_eq_nil_of_le (by rw [hn];omega)]
  have Iw:n - i*k - q=n - (i+1)*k:=by omega
  clear kD ou
  refine gw ?_;intro Gi hR6
  refine gn ?_
  refine ⟨(i+1,Gi,_,_,_,_,D4,V++D3),⟨rfl,by omega,by omega,hR6,⟨pN,c4,rfl⟩,hD4, ?_⟩,by simp only;omega,aq,_,aa⟩
  rw [u6]
  refine hV.snoc ?_
  rw [show ((b.drop (i*k)).take k).length=q by rw [List.length_take,List.length_drop,hn];omega]
  exact YL
 ·have nV:cY n k=i:=oC oZ hi
  have SE:kH k b i=jt k b:=by rw [jt,hn,nV]
  rw [SE] at hV
  refine gz ?_
  rw [<-nV] at hD ⊢
  exact fin ⟨ry,c5,vs,D,V,rfl,hD,hV,rfl⟩ aa
theorem Ot (ad:Option Addr)(n c:Nat)(vs:List Value)(xs:List (List UInt8))(D V:Chunk)(hD:az D 31 1 (.slice ad n c) n vs)(hV:xg 5 1 ak V vs xs)(hn:n<=10000):Ct 220 [.slice ad n c] [D,V]
  fun u Bs=>∃ws D' V',u = .slice ad n c/\az D' 31 1 u n ws/\xg 5 1 ak V' ws (xs.map eg)/\Bs=[D',V']:=by
 have Km:=hD.1
 rw [Nat.mul_one] at Km
 have Wi:=hV.len
 refine st Tryz.func220 fun w0 => ?_
 refine gl [0,5,6] (fun ((i,_):Nat×List Value×Chunk×Chunk)=>[(7,.int .i64 i)]) (fun (_,_,D,V)=>[D,V]) (fun (i,ws,D,V)=>i<=n/\az D 31 1 (.slice ad n c) n ws/\xg 5 1 ak V ws ((xs.take i).map eg++xs.drop i)) (fun (i,_)=>n - i) (0,vs,D,V) ⟨by omega,hD,by simpa using hV⟩ ?_
 clear hD hV
 rintro ⟨i,ws,D,V⟩ ⟨hi,hD,hV⟩
 refine gi ?_ ?_ <;> intro bo
 ·have bm:i<xs.length:=by omega
  obtain ⟨g,c2,r,hv,rfl,Gm,lV,tz⟩:=hD.opened oZ
  cases hv
  have Bq:=hD.1
  rw [Nat.mul_one] at Bq
  obtain ⟨A,E,B,v,rfl,YM,hE,fm⟩:=hV.at (i:=i) (by simp;omega)
  have u7:((xs.take i).map eg++xs.drop i)[i]'(by simp;omega)=xs[i]:=by
   rw [List.getElem_append_right (by simp;omega)]
   simp [Nat.min_eq_left (Nat.le_of_lt bm)]
  rw [u7] at hE
  have bV:(ws++r)[i]? = some v:=by rw [List.getElem?_append_left oZ];exact YM
  have cw:(xs.take (i+1)).map eg++xs.drop (i+1)=((xs.take i).map eg++xs.drop i).set i (eg xs[i]):=by
   rw [List.take_add_one,List.getElem?_eq_getElem bm,List.map_append,List.set_append_right _ _ (show (List.map eg (List.take i xs)).length<=i by simp;omega)]
   rw [List.length_map,List.length_take,Nat.min_eq_left (Nat.le_of_lt bm),Nat.sub_self,List.drop_eq_getElem_cons bm]
   simp only [Option.toList_some,List.map_cons,List.map_nil,List.set_cons_zero,List.append_assoc,List.cons_append,List.nil_append]
  refine gs ?_
  refine gc (zU v E xs[i] _ rfl hE.rd) ?_
  rintro _ _ ⟨rfl,rfl⟩
  refine gi ?_ ?_ <;> intro dr
  ·have hB0:=fm [] (.slice none 0 0) [] (az.nil _ _)
   rw [<-CJ dr,<-cw] at hB0
   have CP:(ws++r).set i (.slice none 0 0)=ws.set i (.slice none 0 0)++r:=List.set_append_left _ _ oZ
   have Ci:az [(g,ax (ws.set i (.slice none 0 0)++r) 31)] 31 1 (.slice (some ⟨g,0,none⟩) n c) n (ws.set i (.slice none 0 0)):=uk (by rw [List.length_set];exact hD.1) (fun u hu=>by
    rcases List.mem_or_eq_of_mem_set hu with h | rfl
    ·exact hD.2.1 u h
    ·rfl) Gm lV (by rw [List.length_set];exact tz)
   refine gn ?_
   rw [CP]
   exact ⟨(i+1,ws.set i (.slice none 0 0),_,A++([]++B)),⟨by omega,Ci,hB0⟩,by simp only;omega,aq,_,aa⟩
  ·have e:=mF (x:=xs[i]) (by simpa using dr)
   have adn:(xs.take (i+1)).map eg++xs.drop (i+1)=(xs.take i).map eg++xs.drop i:=by
    rw [List.take_add_one,List.getElem?_eq_getElem bm,List.map_append,List.drop_eq_getElem_cons bm]
    simp [e]
   refine gn ?_
   exact ⟨(i+1,ws,_,A++(E++B)),⟨by omega,hD,by rw [adn];exact hV⟩,by simp only;omega,aq,_,aa⟩
 ·obtain rfl:i=n:=by omega
  rw [show i=xs.length by omega,List.take_length,List.drop_length,List.append_nil] at hV
  refine gz ?_
  exact fin ⟨ws,D,V,rfl,hD,hV,rfl⟩ aa
end Go.Proofs.YteldablklnfblaaGreatDoor
namespace Go.Sl
def fS (l:List Pt):List UInt8:=l.flatMap di
def kI (l:List Pt):List (List UInt8):=(jt 16 l).map fun g=>eg (fS g)
theorem ju (l:List Pt):(fS l).length=64*l.length:=by
 induction l with
 | nil=>rfl
 | cons x r ih=>simp only [fS,List.flatMap_cons,List.length_append,aZ,List.length_cons] at *;omega
theorem pO {α β:Type}{f:α->List β}{k:Nat}(hk:0<k)(hf:∀x,(f x).length=k)(l:List α):jt k (l.flatMap f)=l.map f:=by
 have hl:(l.flatMap f).length=l.length*k:=by
  induction l with
  | nil=>simp
  | cons x r ih=>rw [List.flatMap_cons,List.length_append,ih,hf,List.length_cons,Nat.succ_mul];omega
 have hn:cY (l.length*k) k=l.length:=oC (Nat.le_refl _) oZ
 apply List.ext_getElem
 ·rw [dA,hl,hn,List.length_map]
 ·intro i h1 h2
  rw [lB]
  rw [List.length_map] at h2
  clear hl hn h1
  rw [List.getElem_map]
  induction l generalizing i with
  | nil=>simp at h2
  | cons x r ih =>
   cases i with
   | zero=>rw [Nat.zero_mul,List.drop_zero,List.flatMap_cons,List.take_left' (hf x)];rfl
   | succ i =>
    rw [List.flatMap_cons,Nat.succ_mul,Nat.add_comm,<-List.drop_drop,List.drop_left' (hf x),ih i (by simpa using h2)]
    ·rfl
    ·simpa using h2
theorem gX {α:Type}{l:List α}{i:Nat}(h:i<l.length):l.take (i+1)=l.take i++[l[i]]:=by rw [List.take_add_one,List.getElem?_eq_getElem h];rfl
theorem Kn {l:List Pt}{i:Nat}(h:i<l.length):fS (l.take (i+1))=fS (l.take i)++di l[i]:=by rw [fS,gX h,List.flatMap_append,List.flatMap_singleton];rfl
end Go.Sl
namespace Go.Proofs.YteldablklnfblaaGreatDoor
open Go.Sl
set_option maxRecDepth 10000
set_option maxHeartbeats 4000000
theorem Ts (O:Chunk)(ad:Option Addr)(n c:Nat)(b:List UInt8)(hn:b.length=n)(hR:Rd O 1 (.slice ad n c) n (ak b))(hc:n<=c)(hb:n<=10000) :
  Ct 162 [.slice ad n c] [O] fun u Bs=>∃ba c' vs D V,u = .slice ba (cY n 1024) c'/\az D 31 1 u (cY n 1024) vs/\xg 5 1 ak V vs (eV b)/\Bs=[D,V,O]:=by
 have hN:cY n 1024<=10000:=by unfold cY;omega
 refine st Tryz.func162 fun w0 => ?_
 refine gc (rB O ad n c 1024 b hn hR hc hb oZ) ?_
 rintro _ _ ⟨iK,c1,vs,D,V,rfl,hD,hV,rfl⟩
 refine gc (Ot iK _ c1 vs _ D V hD hV hN) ?_
 rintro _ _ ⟨ws,D',V',rfl,eo,R6,rfl⟩
 refine gz ?_
 exact fin ⟨iK,c1,ws,D',V',rfl,eo,R6,rfl⟩ aa
theorem Ou (O:Chunk)(ad:Option Addr)(n c:Nat)(l:List Pt)(hn:l.length=n)(hR:Rd O 9 (.slice ad n c) n (aO l))(hc:n<=c)(hb:n<=1000)(hp:∀x∈l,fB x=0/\x.Ok) :
  Ct 265 [.slice ad n c] [O] fun u Bs=>∃ba c' vs D V,u = .tuple #[.slice ba (cY n 16) c',.int .i64 0]/\az D 31 1 (.slice ba (cY n 16) c') (cY n 16) vs/\xg 5 1 ak V vs (kI l)/\Bs=[D,V,O]:=by
 have hN:cY n 16<=1000:=by unfold cY;omega
 have qO:(jt 16 l).length=cY n 16:=by rw [dA,hn]
 refine st Tryz.func265 fun w0 => ?_
 refine gc (Kl O ad n c 16 l hn hR hc oZ oZ) ?_
 rintro _ _ ⟨iK,c1,vs,D0,V0,rfl,Fo,Tt,rfl⟩
 have u9:=Fo.rd
 generalize cY n 16=N at *
 refine gl [0,16,17] (fun ((i,v4,_):Nat×Value×List Value×Chunk×Chunk)=>[(18,.int .i64 i),(4,v4)]) (fun (_,_,_,D,V)=>[D,V]) (fun (i,v4,ws,D,V)=>i<=N/\(∃pN c4,v4 = .slice pN i c4)/\az D 31 1 v4 i ws/\xg 5 1 ak V ws (((jt 16 l).take i).map fS)) (fun (i,_)=>N - i) (0,.slice none 0 0,[],[],[]) ⟨by omega,⟨none,0,rfl⟩,az.nil _ _,rfl⟩ ?_
 rintro ⟨i,v4,ws,D,V⟩ ⟨hi,⟨pN,c4,rfl⟩,hD,hV⟩
 refine gi ?_ ?_ <;> intro bo
 ·have bm:i<(jt 16 l).length:=by omega
  obtain ⟨v,YM,xz⟩:=Tt.rd bm
  obtain ⟨g,hg⟩:∃g,g=(jt 16 l)[i]:=⟨_,rfl⟩
  rw [<-hg] at xz
  have hgl:g.length<=16:=by rw [hg,lB,List.length_take];omega
  have hgp:∀x∈g,fB x=0/\x.Ok:=fun x hx=>hp x (by rw [hg,lB] at hx;exact List.mem_of_mem_drop (List.mem_of_mem_take hx))
  obtain ⟨g1,o1,rfl⟩:=u9.addr oZ
  obtain ⟨adg,cg,rfl⟩:=xz.slice
  refine gl [0,4,16,17,18,22,23] (fun ((j,v7,_):Nat×Value×Chunk)=>[(24,.int .i64 j),(7,v7)]) (fun (_,_,C)=>[C]) (fun (j,v7,C)=>j<=g.length/\(∃sX c7,v7 = .slice sX (64*j) c7)/\az C 5 1 v7 (64*j) (ak (fS (g.take j)))) (fun (j,_)=>g.length - j) (0,.slice none 0 0,[]) ⟨by omega,⟨none,0,rfl⟩,az.nil _ _⟩ ?_
  rintro ⟨j,v7,C⟩ ⟨hj,⟨sX,c7,rfl⟩,hC⟩
  refine gi ?_ ?_ <;> intro pj
  ·have hjg:j<g.length:=by omega
   have hx:g[j]? = some g[j]:=List.getElem?_eq_getElem hjg
   obtain ⟨x,ym⟩:∃x,x=g[j]:=⟨_,rfl⟩
   rw [<-ym] at hx
   have hs:=ar Pt.aj g j _ hx
   obtain ⟨g2,o2,rfl⟩:=xz.addr oZ
   obtain ⟨CQ,YI⟩:=hgp x (by rw [ym];exact List.getElem_mem _)
   refine ga ?_;intro b9
   refine gc (u2 x CQ YI) ?_
   rintro _ _ ⟨Wr,rfl,rfl⟩
   have hRe:Rd [(Wr,ax (ak (di x)) 5)] 1 (.slice (some ⟨Wr,0,none⟩) 64 64) 64 (ak (di x)):=av (by rw [ai,aZ]) (aK _) oZ _
   refine gp ?_;intro yn c8 C8 Ml
   have he:ak (fS (g.take j))++ak (di x)=ak (fS (g.take (j+1))):=by rw [Kn hjg,<-ym,aE]
   rw [he] at Ml
   refine gn ?_
   exact ⟨(j+1,_,C8),⟨by omega,⟨yn,c8,rfl⟩,Ml⟩,by simp only;omega,aq,_,aa⟩
  ·obtain rfl:j=g.length:=by omega
   rw [List.take_length] at hC
   refine gm ?_;intro b42
   refine gp ?_;intro ry c5 D5 hD5
   refine gn ?_
   refine ⟨(i+1,_,_,D5,V++C),⟨by omega,⟨ry,c5,rfl⟩,hD5, ?_⟩,by simp only;omega,aq,_,aa⟩
   rw [gX bm,List.map_append,<-hg]
   exact hV.snoc (by rw [ju];exact hC)
 ·obtain rfl:i=N:=by omega
  rw [List.take_of_length_le oZ] at hV
  refine gc (Ot pN _ c4 ws _ D V hD hV oZ) ?_
  rintro _ _ ⟨ws',D',V',rfl,eo,R6,rfl⟩
  rw [List.map_map] at R6
  refine gz ?_
  exact fin ⟨pN,c4,ws',D',V',rfl,eo,R6,rfl⟩ aa
theorem Ov (O:Chunk)(ad:Option Addr)(n c k:Nat)(l:List Pt)(hk:l.length=k)(hn:n=64*k)(hR:Rd O 1 (.slice ad n c) n (ak (fS l)))(hc:n<=c)(hb:1<=k/\k<=16)(hp:∀x∈l,fB x=0/\x.Ok) :
  Ct 181 [.slice ad n c] [O] fun u Bs=>∃ba c' D,u = .tuple #[.slice ba k c',.int .i64 0]/\az D 108 9 (.slice ba k c') k (aO l)/\Bs=[D,O]:=by
 subst hn
 have SE:jt 64 (fS l)=l.map di:=pO oZ aZ l
 have hN:cY (64*k) 64=k:=oC oZ oZ
 have hm0:(64*k) % 64=0:=by omega
 refine st Tryz.func181 fun w0 => ?_
 refine gc (rB O ad _ c 64 _ (by rw [ju,hk]) hR hc oZ oZ) ?_
 rintro _ _ ⟨iK,c1,vs,D0,V0,rfl,Fo,Tt,rfl⟩
 rw [hN] at Fo ⊢
 rw [SE] at Tt
 have u9:=Fo.rd
 obtain ⟨g1,o1,rfl⟩:=u9.addr oZ
 refine gl [24,25] (fun ((i,v4,_):Nat×Value×Chunk)=>[(26,.int .i64 i),(4,v4)]) (fun (_,_,D)=>[D]) (fun (i,v4,D)=>i<=k/\(∃pN c4,v4 = .slice pN i c4)/\az D 108 9 v4 i (aO (l.take i))) (fun (i,_)=>k - i) (0,.slice none 0 0,[]) ⟨by omega,⟨none,0,rfl⟩,az.nil _ _⟩ ?_
 rintro ⟨i,v4,D⟩ ⟨hi,⟨pN,c4,rfl⟩,hD⟩
 refine gi ?_ ?_ <;> intro bo
 ·have bm:i<l.length:=by omega
  obtain ⟨v,YM,xz⟩:=Tt.rd (i:=i) (by simpa using bm)
  rw [List.getElem_map] at xz
  obtain ⟨x,ym⟩:∃x,x=l[i]:=⟨_,rfl⟩
  rw [<-ym,aZ] at xz
  obtain ⟨CQ,YI⟩:=hp x (by rw [ym];exact List.getElem_mem _)
  obtain ⟨j8,cv,rfl⟩:=xz.slice
  refine gc (u5 V0 j8 cv x CQ YI xz) ?_
  rintro _ _ ⟨rfl,rfl⟩
  refine ga ?_;intro b7
  refine gm ?_;intro b39
  refine gp ?_;intro ry c5 D5 hD5
  refine gn ?_
  refine ⟨(i+1,_,D5),⟨by omega,⟨ry,c5,rfl⟩, ?_⟩,by simp only;omega,aq,_,aa⟩
  rw [gX bm,<-ym]
  simpa [aO,Pt.lay] using hD5
 ·obtain rfl:i=k:=by omega
  rw [List.take_of_length_le oZ] at hD
  refine gz ?_
  exact fin ⟨pN,c4,D,rfl,hD,rfl⟩ aa
end Go.Proofs.YteldablklnfblaaGreatDoor
