/-
  6.
-/
import Derived.Test.YtpabnmeponmonaaGreatDoorZTopCrashes5
set_option maxRecDepth 10000
set_option maxHeartbeats 4000000
open List Go.Proofs.Tryz Go.Sl
namespace Go.Sl
def za (z:Int):Int:=IntKind.u32.wrap z
def GW (a b:Int):Int:=bits .or .u32 a b
def GX (a b:Int):Int:=bits .xor .u32 a b
def Pa (a b:Int):Int:=bits .and .u32 a b
def aeQ (a:Int):Int:=bits .xor .u32 4294967295 a
def wg (x k:Int):Int:=IntKind.u32.wrap (x*2 ^ k.toNat)
def ab7 (x k:Int):Int:=x / 2 ^ k.toNat
theorem KZ (a b:Int):bits .or .u32 a b=bits .or .u32 b a:=by
 show IntKind.u32.wrap (((BitVec.ofInt 32 a ||| BitVec.ofInt 32 b).toNat:Nat):Int)=IntKind.u32.wrap (((BitVec.ofInt 32 b ||| BitVec.ofInt 32 a).toNat:Nat):Int)
 rw [BitVec.or_comm]
def rot (x k:Int):Int:=GW (ab7 x k) (wg x (32 - k))
theorem Jf (b:UInt8):IntKind.u32.wrap (b.toNat:Int)=(b.toNat:Int):=IntWalk.u32_in _ (by have:=b.toNat_lt;omega)
def Az (b:List UInt8)(t:Nat):Int:=GW (GW (GW (wg (gb b (4*t)).toNat 24) (wg (gb b (4*t+1)).toNat 16)) (wg (gb b (4*t+2)).toNat 8)) (gb b (4*t+3)).toNat
def sg (x:Int)(p q r:Int):Int:=GX (GX (rot x p) (rot x q)) (ab7 x r)
def sG (x:Int)(p q r:Int):Int:=GX (GX (rot x p) (rot x q)) (rot x r)
def Xt (w:List Int)(t:Nat):Int:=za (za (za (w.getD (t - 16) 0+sg (w.getD (t - 15) 0) 7 18 3)+w.getD (t - 7) 0)+sg (w.getD (t - 2) 0) 17 19 10)
def wh (b:List UInt8):Nat->List Int
 | 0=>[]
 | n+1=>wh b n++[if n<16 then Az b n else Xt (wh b n) n]
theorem iz (b:List UInt8):∀n,(wh b n).length=n
 | 0=>rfl
 | n+1=>by rw [wh,length_append,iz b n];rfl
structure S8 where
 a:Int
 b:Int
 c:Int
 d:Int
 e:Int
 f:Int
 g:Int
 h:Int
def S8.t1 (s:S8)(k x:Int):Int:=za (za (za (za (s.h+sG s.e 6 11 25)+GX (Pa s.e s.f) (Pa (aeQ s.e) s.g))+k)+x)
def S8.t2 (s:S8):Int:=za (sG s.a 2 13 22+GX (GX (Pa s.a s.b) (Pa s.a s.c)) (Pa s.b s.c))
def S8.step (s:S8)(k x:Int):S8:=⟨za (s.t1 k x+s.t2),s.a,s.b,s.c,za (s.d+s.t1 k x),s.e,s.f,s.g⟩
def S8.mix (h:S8)(K ws:List Int):Nat->S8
 | 0=>h
 | n+1=>(S8.mix h K ws n).step (K.getD n 0) (ws.getD n 0)
def S8.add (h v:S8):S8:=⟨za (h.a+v.a),za (h.b+v.b),za (h.c+v.c),za (h.d+v.d),za (h.e+v.e),za (h.f+v.f),za (h.g+v.g),za (h.h+v.h)⟩
def S8.l (s:S8):List Int:=[s.a,s.b,s.c,s.d,s.e,s.f,s.g,s.h]
abbrev fh (l:List Int):List Value:=l.map (Value.int .u32)
def oH:List Int:=[1116352408,1899447441,3049323471,3921009573,961987163,1508970993,2453635748,2870763221,3624381080,310598401,607225278,1426881987,1925078388,2162078206,2614888103,3248222580,3835390401,4022224774,264347078,604807628,770255983,1249150122,1555081692,1996064986,2554220882,2821834349,2952996808,3210313671,3336571891,3584528711,113926993,338241895,666307205,773529912,1294757372,1396182291,1695183700,1986661051,2177026350,2456956037,2730485921,2820302411,3259730800,3345764771,3516065817,3600352804,4094571909,275423344,430227734,506948616,659060556,883997877,958139571,1322822218,1537002063,1747873779,1955562222,2024104815,2227730452,2361852424,2428436474,2756734187,3204031479,3329325298]
def aeR:S8:=⟨1779033703,3144134277,1013904242,2773480762,1359893119,2600822924,528734635,1541459225⟩
def gB (all:List UInt8)(k:Nat):List UInt8:=(all.drop (64*k)).take 64
def Uf (h:S8)(b:List UInt8):S8:=h.add (h.mix oH (wh b 64) 64)
def Pb (all:List UInt8):Nat->S8
 | 0=>aeR
 | k+1=>Uf (Pb all k) (gB all k)
def wi (n:Nat):Nat->List UInt8
 | 0=>[]
 | k+1=>wi n k++[UInt8.ofNat (n / 2 ^ (56 - 8*k))]
theorem tz (n:Nat):∀k,(wi n k).length=k
 | 0=>rfl
 | k+1=>by rw [wi,length_append,tz n k];rfl
def lX (n:Nat):Nat:=(119 - n % 64) % 64
def gC (b:List UInt8):List UInt8:=b++[128]++replicate (lX b.length) 0++wi (b.length*8) 8
theorem tA (b:List UInt8):(gC b).length=b.length+9+lX b.length:=by
 simp only [gC,length_append,tz,length_replicate,length_cons,length_nil];omega
theorem Ug (b:List UInt8):(gC b).length % 64=0:=by rw [tA,lX];omega
def DM (x y:Int):Int:=bits .or .u64 (IntKind.u64.wrap (IntKind.u64.wrap x*2 ^ (32:Int).toNat)) (IntKind.u64.wrap y)
theorem DO (x y:Int):0<=DM x y/\DM x y<18446744073709551616:=by
 unfold DM
 show 0<=IntKind.u64.wrap _/\IntKind.u64.wrap _<_
 rw [IntKind.wrap_u64];omega
def qG (x y:Int):Nat:=(DM x y).toNat
theorem Pc (x y:Int):((qG x y:Nat):Int)=DM x y:=by have:=DO x y;unfold qG;omega
def S8.fs (h:S8):Fs:=⟨qG h.a h.b,qG h.c h.d,qG h.e h.f,qG h.g h.h⟩
def Pd (b:List UInt8):Fs:=(Pb (gC b) ((gC b).length / 64)).fs
theorem Uh (b:List UInt8):(Pd b).Ok:=by
 have h (x y:Int):qG x y<18446744073709551616:=by have:=DO x y;unfold qG;omega
 exact ⟨h _ _,h _ _,h _ _,h _ _⟩
theorem ab8 {k:Int}(h:1<=k/\k<=31):bits .and .u64 (18446744073709551616 - k) 31=32 - k:=by
 have key:∀n:_root_.Fin 32,1<=n.val->bits .and .u64 (18446744073709551616 - (n.val:Int)) 31=32 - (n.val:Int):=by decide +kernel
 obtain ⟨n,rfl⟩:∃n:Nat,k=n:=⟨k.toNat,by omega⟩
 exact key ⟨n,by omega⟩ (by show 1<=n;omega)
theorem Jg (b:List UInt8)(n j:Nat)(r:List Value)(h:j<n):(fh (wh b n)++r)[j]? = some (.int .u32 ((wh b n).getD j 0)):=by
 have hl:=iz b n
 rw [getElem?_append_left (by rw [length_map];omega),getElem?_map,getElem?_eq_getElem oZ,List.getD,getElem?_eq_getElem oZ];rfl
theorem Jh (b:List UInt8)(n:Nat):fh (wh b (n+1))=fh (wh b n)++[.int .u32 (if n<16 then Az b n else Xt (wh b n) n)]:=by rw [wh,fh,map_append];rfl
theorem AA (l:List Int){j:Nat}(h:j<l.length):(fh l)[j]? = some (.int .u32 (l.getD j 0)):=by
 rw [getElem?_map,getElem?_eq_getElem h,List.getD,getElem?_eq_getElem h];rfl
theorem Pe (b:List UInt8){i:Nat}(h:4*i+3<b.length):Az b i=GW (GW (GW (wg (b[4*i]'oZ).toNat 24) (wg (b[4*i+1]'oZ).toNat 16)) (wg (b[4*i+2]'oZ).toNat 8)) (b[4*i+3]).toNat:=by
 unfold Az;rw [tw b oZ,tw b oZ,tw b oZ,tw b h]
def sD (h v:S8)(i:Nat):List Int:=(List.range 8).map fun j=>if j<i then za (h.l.getD j 0+v.l.getD j 0) else h.l.getD j 0
theorem qH (h v:S8)(i:Nat):(sD h v i).length=8:=by simp [sD]
theorem Ui (h v:S8){i:Nat}(hi:i<8):(sD h v i).getD i 0=h.l.getD i 0:=by
 have:i<(sD h v i).length:=by rw [qH];exact hi
 rw [List.getD,getElem?_eq_getElem this]
 simp [sD]
theorem Pf (h v:S8){i:Nat}(hi:i<8):(fh (sD h v i)).set i (.int .u32 (za (h.l.getD i 0+v.l.getD i 0)))=fh (sD h v (i+1)):=by
 apply ext_getElem?
 intro j
 rw [getElem?_set,length_map,qH]
 by_cases hj:i=j
 ·subst hj;simp [sD,hi]
 ·rw [if_neg hj]
  simp only [fh,getElem?_map,sD]
  by_cases h8:j<8
  ·rw [getElem?_range h8]
   simp only [Option.map_some]
   have:(j<i)↔(j<i+1):=oZ
   simp only [this]
  ·rw [getElem?_eq_none (l:=List.range 8) (by simp;omega)];rfl
theorem Pg (h v:S8):sD h v 8=(h.add v).l:=rfl
theorem Ph:oH.length=64:=rfl
theorem Pj (s:S8){i:Nat}(h:i<8):(fh s.l)[i]? = some (.int .u32 (s.l.getD i 0)):=AA s.l h
theorem K0 (n k:Nat):wi n (k+1)=wi n k++[UInt8.ofNat (n / 2 ^ (56 - 8*k))]:=rfl
theorem GY (all:List UInt8){k:Nat}(h:64*k+64<=all.length):(gB all k).length=64:=by rw [gB,length_take,length_drop];omega
theorem Pk (b:List UInt8)(z:Nat):au (b++[128]++replicate (z+1) 0)=au (b++[128]++replicate z 0)++[.int .u8 0]:=by
 rw [replicate_succ',<-append_assoc,aG];rfl
def DQ (b:List UInt8):List UInt8:=b++[128]++replicate (lX b.length) 0
theorem DR (b:List UInt8):(DQ b).length=b.length+1+lX b.length:=by simp [DQ];omega
theorem Pm (b:List UInt8):DQ b++wi (b.length*8) 8=gC b:=rfl
theorem Pn (all:List UInt8)(k:Nat):((au (all.drop (64*k))).drop (0*1)).take ((64 - 0)*1)=au (gB all k):=by simp [gB,aQ]
theorem K1 (all:List UInt8)(k n:Nat)(h:all.length<=n+64*k+64):((au (all.drop (64*k))).drop (64*1)).take (n*1)=au (all.drop (64*(k+1))):=by
 rw [bo,aQ,drop_drop,take_of_length_le (by rw [length_drop];omega),show 64*k+64*1=64*(k+1) by omega]
end Go.Sl
namespace Go.Proofs.YtpabnmeponmonaaGreatDoor
theorem yp (x k:Int)(hk:1<=k/\k<=31):Ct 296 [.int .u32 x,.int .i64 k] [] fun u Bs=>u = .int .u32 (rot x k)/\Bs=[]:=by
 have h1:IntKind.i64.wrap (-k) = -k:=IntWalk.i64_in _ oZ
 have h2:IntKind.u64.wrap (-k)=18446744073709551616 - k:=by rw [IntKind.wrap_u64];omega
 have h3:=ab8 hk
 have h4:IntKind.u64.wrap (32 - (32 - k))=k:=by rw [IntKind.wrap_u64];omega
 have h5:=KZ (IntKind.u32.wrap (x*2 ^ (32 - k).toNat)) (x / 2 ^ k.toNat)
 refine st func296 fun w0 => ?_
 refine ge ?_
 refine gz ?_
 exact fin ⟨rfl,rfl⟩ aa
theorem GZ (b:List UInt8)(hl:b.length=64):Ct 290 [.agg (au b).toArray] [] fun u Bs=>u = .agg (fh (wh b 64)).toArray/\Bs=[]:=by
 have dP:=aq b
 refine st func290 fun w0 => ?_
 refine ga ?_;intro b1
 refine ga ?_;intro b2
 refine ga ?_;intro b3
 refine gl [1,2,3] (fun i:Nat=>[(8,.int .i64 i)]) (fun i=>[[(b3,ax (fh (wh b i)++replicate (64 - i) (.int .u32 0)) 379)]]) (fun i=>i<=16) (fun i=>16 - i) 0 oZ ?_
 intro i hi
 refine gi ?_ ?_ <;> intro br
 ·have Ji:=iz b i
  have jQ:i<16:=oZ
  have x0:b[4*i]? = some _:=getElem?_eq_getElem oZ
  have x1:b[4*i+1]? = some _:=getElem?_eq_getElem oZ
  have x2:b[4*i+2]? = some _:=getElem?_eq_getElem oZ
  have x3:b[4*i+3]? = some _:=getElem?_eq_getElem oZ
  have y0:=Jf b[4*i]
  have y1:=Jf b[4*i+1]
  have y2:=Jf b[4*i+2]
  have y3:=Jf b[4*i+3]
  have bB:=Jh b i
  rw [if_pos jQ,Pe b oZ] at bB
  refine gd [0,4,8,12,16,20,24,28,32,36,40,44,48,52,56,60,64,68,72,76,80,84,88,92,96,100,104,108,112,116,120,127] ?_
  refine gn ?_
  rw [sB (fh (wh b i)) 64 (.int .u32 0) _ i (by rw [length_map,Ji]) oZ]
  exact ⟨i+1,by omega,by omega,ar,_,by rw [bB];exact aa⟩
 ·obtain rfl:i=16:=oZ
  refine gl [2,3] (fun i:Nat=>[(5,.int .i64 i)]) (fun i=>[[(b3,ax (fh (wh b i)++replicate (64 - i) (.int .u32 0)) 379)]]) (fun i=>16<=i/\i<=64) (fun i=>64 - i) 16 oZ ?_
  rintro i ⟨h16,hi⟩
  refine gi ?_ ?_ <;> intro br
  ·have Ji:=iz b i
   have jQ:¬i<16:=oZ
   have x15:=Jg b i (i - 15) (replicate (64 - i) (.int .u32 0)) oZ
   have x2:=Jg b i (i - 2) (replicate (64 - i) (.int .u32 0)) oZ
   have x16:=Jg b i (i - 16) (replicate (64 - i) (.int .u32 0)) oZ
   have x7:=Jg b i (i - 7) (replicate (64 - i) (.int .u32 0)) oZ
   have bB:=Jh b i
   rw [if_neg jQ] at bB
   refine gd [0,4,8,12,16,20,28,40,44,56,60,64,68,76,84,96,100,25,33,36,48,52,72,81,89,92,104,108,112,119] ?_
   refine gc (yp ((wh b i).getD (i - 15) 0) 7 oZ) ?_
   rintro _ _ ⟨rfl,rfl⟩
   refine gc (yp ((wh b i).getD (i - 15) 0) 18 oZ) ?_
   rintro _ _ ⟨rfl,rfl⟩
   refine gc (yp ((wh b i).getD (i - 2) 0) 17 oZ) ?_
   rintro _ _ ⟨rfl,rfl⟩
   refine gc (yp ((wh b i).getD (i - 2) 0) 19 oZ) ?_
   rintro _ _ ⟨rfl,rfl⟩
   refine gn ?_
   rw [sB (fh (wh b i)) 64 (.int .u32 0) _ i (by rw [length_map,Ji]) oZ]
   exact ⟨i+1,by omega,by omega,ar,_,by rw [bB];exact aa⟩
  ·obtain rfl:i=64:=oZ
   have Ao:(fh (wh b 64)).length=64:=by rw [length_map,iz]
   rw [Nat.sub_self,replicate_zero,append_nil]
   generalize wh b 64=ws at Ao ⊢
   refine gz ?_
   exact fin ⟨rfl,rfl⟩ aa
abbrev gK (T:TypeId)(fr:Nat×Nat):Chunk:=[(0,.cells (fh oH).toArray T fr)]
theorem Uj (T:TypeId)(fr:Nat×Nat)(s0:S8)(ws:List Int)(hw:ws.length=64):Ct 289 [.agg (fh s0.l).toArray,.agg (fh ws).toArray] [gK T fr] fun u Bs=>u = .agg (fh (s0.add (s0.mix oH ws 64)).l).toArray/\Bs=[gK T fr]:=by
 have Ao:(fh ws).length=64:=by rw [length_map,hw]
 refine st func289 fun w0 => ?_
 refine ga ?_;intro b2
 refine ga ?_;intro b3
 refine ga ?_;intro b4
 refine gl [2,4,35] (fun ((i,s):Nat×S8)=>[(36,.int .i64 i),(5,.int .u32 s.a),(6,.int .u32 s.b),(7,.int .u32 s.c),(8,.int .u32 s.d),(9,.int .u32 s.e),(10,.int .u32 s.f),(11,.int .u32 s.g),(12,.int .u32 s.h)]) (fun _=>[]) (fun (i,s)=>i<=64/\s=S8.mix s0 oH ws i) (fun (i,_)=>64 - i) (0,s0) ⟨by omega,rfl⟩ ?_
 rintro ⟨i,s⟩ ⟨hi,hs⟩
 refine gi ?_ ?_ <;> intro br
 ·have x1:=AA ws (j:=i) oZ
  have x2:=AA oH (j:=i) (by rw [Ph];omega)
  refine gd [0,4,12,24,40,44,48,52,56,60,64,68,76,80,84,92,9,17,20,29,32,36,72,88,96,100] ?_
  refine gc (yp s.e 6 oZ) ?_
  rintro _ _ ⟨rfl,rfl⟩
  refine gc (yp s.e 11 oZ) ?_
  rintro _ _ ⟨rfl,rfl⟩
  refine gc (yp s.e 25 oZ) ?_
  rintro _ _ ⟨rfl,rfl⟩
  refine gc (yp s.a 2 oZ) ?_
  rintro _ _ ⟨rfl,rfl⟩
  refine gc (yp s.a 13 oZ) ?_
  rintro _ _ ⟨rfl,rfl⟩
  refine gc (yp s.a 22 oZ) ?_
  rintro _ _ ⟨rfl,rfl⟩
  refine gn ?_
  exact ⟨(i+1,s.step (oH.getD i 0) (ws.getD i 0)),⟨by omega,by rw [hs];rfl⟩,sOZ,ar,_,aa⟩
 ·obtain rfl:i=64:=oZ
  refine gl [2,4,106] (fun i:Nat=>[(107,.int .i64 i)]) (fun i=>[[(b2,ax (fh (sD s0 s i)) 377)]]) (fun i=>i<=8) (fun i=>8 - i) 0 oZ ?_
  intro i Ta
  refine gi ?_ ?_ <;> intro qI
  ·have hi8:i<8:=oZ
   have x1:=Pj s hi8
   have x2:(fh (sD s0 s i))[i]? = some (.int .u32 (s0.l.getD i 0)):=by rw [AA _ (by rw [qH];omega),Ui s0 s hi8]
   have hle:=qH s0 s i
   refine gn ?_
   rw [show (fh (sD s0 s i)).set i (.int .u32 (IntKind.u32.wrap (s0.l.getD i 0+s.l.getD i 0)))=_ from Pf s0 s hi8]
   exact ⟨i+1,by omega,by omega,ar,_,aa⟩
  ·obtain rfl:i=8:=oZ
   rw [Pg,hs]
   refine gz ?_
   exact fin ⟨rfl,rfl⟩ aa
theorem AB (s:S8)(b3:Nat)(i:Nat)(hi:i+1<8):Ct 291 [.int .i64 i,ptr b3] [[(b3,ax (fh s.l) 377)]] fun u Bs=>u = .int .u64 (qG (s.l.getD i 0) (s.l.getD (i+1) 0))/\Bs=[[(b3,ax (fh s.l) 377)]]:=by
 have x1:=Pj s (i:=i) oZ
 have x2:=Pj s (i:=i+1) oZ
 rw [Pc]
 refine st func291 fun w0 => ?_
 refine gd [0,4,8,12,16,20,24,28,32,36,40,44] ?_
 refine gz ?_
 exact fin ⟨rfl,rfl⟩ aa
theorem ab9 (T:TypeId)(fr:Nat×Nat)(D:Chunk)(v:Value)(b:List UInt8)(m:Nat)(hm:b.length=m)(hD:Rd D 1 v m (au b))(dP:m<=1000000):Ct 274 [v] [gK T fr,D] fun u Bs=>u=(Pd b).agg/\Bs=[gK T fr,D]:=by
 subst hm
 have hz0:lX b.length<64:=by unfold lX;omega
 have hz1:∀z,z<=lX b.length->((b.length+1+z) % 64=56↔z=lX b.length):=by unfold lX;omega
 have hHl:=DR b
 have hLl:=tA b
 have agJ:=Ug b
 have hmul:IntKind.u64.wrap ((b.length:Int)*8)=((b.length*8:Nat):Int):=by rw [IntWalk.u64_in _ oZ];omega
 obtain ⟨KV,c0,rfl⟩:=hD.slice
 refine st func274 fun w0 => ?_
 refine ga ?_;intro b2
 refine ga ?_;intro b3
 refine gp ?_;intro ad c C hC
 refine gm ?_;intro g
 refine gp ?_;intro ad c C pF
 rw [show au b++[.int .u8 128]=au (b++[128]) from (aG b [128]).symm] at pF
 refine gl [0,2,3] (fun ((z,ad,c,_):Nat×Option Addr×Nat×Chunk)=>[(4,.slice ad (b.length+1+z) c)]) (fun (_,_,_,C)=>[C]) (fun (z,ad,c,C)=>z<=lX b.length/\aC C 5 1 (.slice ad (b.length+1+z) c) (b.length+1+z) (au (b++[128]++replicate z 0))) (fun (z,_,_,_)=>lX b.length - z) (0,ad,c,C) ⟨by omega,by rw [replicate_zero,append_nil];exact pF⟩ ?_
 rintro ⟨z,ad,c,C⟩ ⟨hz,hC⟩
 refine gi ?_ ?_ <;> intro br
 ·have Jj:=hz1 z hz
  refine gm ?_;intro g
  refine gp ?_;intro ad c C yq
  rw [show au (b++[128]++replicate z 0)++[.int .u8 0]=_ from (Pk b z).symm] at yq
  refine gn ?_
  exact ⟨(z+1,ad,c,C),⟨by simp at br;omega,yq⟩,by simp only;simp at br;omega,ar,_,aa⟩
 ·have Jj:=hz1 z hz
  obtain rfl:z=lX b.length:=by simp at br;omega
  have hC:aC C 5 1 (.slice ad (b.length+1+lX b.length) c) (b.length+1+lX b.length) (au (DQ b)):=hC
  refine gl [0,2,3] (fun ((k,ad,c,_):Nat×Option Addr×Nat×Chunk)=>[(4,.slice ad (b.length+1+lX b.length+k) c),(5,.int .i64 (56 - 8*(k:Int)))]) (fun (_,_,_,C)=>[C]) (fun (k,ad,c,C)=>k<=8/\aC C 5 1 (.slice ad (b.length+1+lX b.length+k) c) (b.length+1+lX b.length+k) (au (DQ b++wi (b.length*8) k))) (fun (k,_,_,_)=>8 - k) (0,ad,c,C) ⟨by omega,by rw [wi,append_nil];exact hC⟩ ?_
  rintro ⟨k,ad,c,C⟩ ⟨hk,hC⟩
  refine gi ?_ ?_ <;> intro br
  ·have hk7:k<=7:=oZ
   have YS:((b.length*8:Nat):Int) / 2 ^ (56 - 8*(k:Int)).toNat=((b.length*8 / 2 ^ (56 - 8*k):Nat):Int):=by rw [show (56 - 8*(k:Int)).toNat=56 - 8*k by omega];simp
   have hw8:=w8 (b.length*8 / 2 ^ (56 - 8*k))
   refine gm ?_;intro g
   refine gp ?_;intro ad c C yq
   rw [show au (DQ b++wi (b.length*8) k)++[.int .u8 (UInt8.ofNat (b.length*8 / 2 ^ (56 - 8*k))).toNat]=au (DQ b++wi (b.length*8) (k+1)) by rw [K0,<-append_assoc,aG (DQ b++_)];rfl] at yq
   refine gn ?_
   exact ⟨(k+1,ad,c,C),⟨by omega,yq⟩,sOZ,ar,_,aa⟩
  ·obtain rfl:k=8:=oZ
   rw [Pm] at hC
   have Tb:=hC.eH
   have hlen:b.length+1+lX b.length+8=(gC b).length - 64*0:=oZ
   rw [hlen] at hC Tb ⊢
   refine gl [2,3] (fun ((j,ad,c):Nat×Option Addr×Nat)=>[(4,.slice ad ((gC b).length - 64*j) c)]) (fun (j,_,_)=>[[(b3,ax (fh (Pb (gC b) j).l) 377)]]) (fun (j,ad,c)=>j<=(gC b).length / 64/\(gC b).length - 64*j<=c/\Rd C 1 (.slice ad ((gC b).length - 64*j) c) ((gC b).length - 64*j) (au ((gC b).drop (64*j)))) (fun (j,_,_)=>(gC b).length / 64 - j) (0,ad,c) ⟨by omega,Tb,by rw [Nat.mul_zero,drop_zero];exact hC.rd⟩ ?_
   rintro ⟨j,ad,c⟩ ⟨hj,hc,hR⟩
   refine gi ?_ ?_ <;> intro br
   ·have pC:64*j+64<=(gC b).length:=oZ
    have uq:=GY (gC b) pC
    have hbb:(au (gB (gC b) j)).length=64:=by rw [aq,uq]
    have hn:64 - 0=64:=rfl
    have qc:=Pn (gC b) j
    refine gd [0,4,8,12,16,21,25,31] ?_
    refine gw ?_;intro ad2 kY
    obtain ⟨g2,agK,rfl⟩:=kY.addr oZ
    refine gc (GZ (gB (gC b) j) uq) ?_
    rintro _ _ ⟨rfl,rfl⟩
    refine gc (Uj T fr (Pb (gC b) j) (wh (gB (gC b) j) 64) (iz _ _)) ?_
    rintro _ _ ⟨rfl,rfl⟩
    have hn:(gC b).length - 64*j - 64=(gC b).length - 64*(j+1):=oZ
    have qc:=K1 (gC b) j ((gC b).length - 64*j - 64) oZ
    refine gw ?_;intro ia DV
    refine gn ?_
    exact ⟨(j+1,ia,c - 64),⟨by omega,by omega,DV⟩,sOZ,ar,_,aa⟩
   ·obtain rfl:j=(gC b).length / 64:=oZ
    rw [Pd]
    generalize Pb (gC b) ((gC b).length / 64)=h
    refine gc (AB h b3 0 oZ) ?_
    rintro _ _ ⟨rfl,rfl⟩
    refine gc (AB h b3 2 oZ) ?_
    rintro _ _ ⟨rfl,rfl⟩
    refine gc (AB h b3 4 oZ) ?_
    rintro _ _ ⟨rfl,rfl⟩
    refine gc (AB h b3 6 oZ) ?_
    rintro _ _ ⟨rfl,rfl⟩
    refine gz ?_
    exact fin ⟨rfl,rfl⟩ aa
end Go.Proofs.YtpabnmeponmonaaGreatDoor
namespace Go.Sl
def jt (kind:Int)(b:List UInt8):Fs×Int:=if kind=1 then (aH b,0) else if kind=2 then (Pd b,0) else (⟨0,0,0,0⟩,20)
theorem DY {kind:Int}{b:List UInt8}:(jt kind b).2=0↔(kind=1\/kind=2):=by
 unfold jt
 split
 ·simp [*]
 ·split
  ·simp [*]
  ·simp [*]
def tS (kind:Int)(s:Fs)(b:List UInt8):Bool:=decide ((jt kind b).2=0)&&s.KX (jt kind b).1
theorem K3 {kind:Int}(hk:kind=1\/kind=2)(b:List UInt8):tS kind (jt kind b).1 b=true:=by
 unfold tS
 rw [Fs.GV,decide_eq_true (DY.2 hk)];simp
end Go.Sl
namespace Go.Proofs.YtpabnmeponmonaaGreatDoor
section
variable (T:TypeId)(fr:Nat×Nat)(O:Chunk)(v:Value)(b:List UInt8)(m:Nat)(hm:b.length=m)(hO:Rd O 1 v m (au b))(dP:m<=1000000)
include hm hO dP
theorem AD (kind:Int):Ct 228 [.int .i64 kind,v] [gK T fr,O] fun u Bs=>u = .tuple #[(jt kind b).1.agg,.int .i64 (jt kind b).2]/\Bs=[gK T fr,O]:=by
 refine st func228 fun w0 => ?_
 refine ga ?_;intro b1
 refine gi ?_ ?_ <;> intro h1
 ·have h1:kind=1:=by simpa using h1
  rw [jt,if_pos h1]
  refine ge ?_
  refine ga ?_;intro p
  refine gc (ab6 O v b m hm hO dP p) ?_
  rintro _ _ ⟨s,x0,x1,x2,x3,k,hR,rfl⟩
  refine ge ?_
  refine ga ?_;intro b2
  have hk:=hR.hk
  refine gi ?_ ?_ <;> intro h0
  ·obtain rfl:k=0:=oZ
   rw [hR.ab5]
   refine gz ?_
   exact fin ⟨rfl,rfl⟩ aa
  ·refine gd [0,4,8,12,16,20,24,28,33,39] ?_
   refine gc (O8 s x0 x1 x2 x3) ?_
   rintro _ _ ⟨rfl,rfl⟩
   rw [hR.done oZ]
   refine gz ?_
   exact fin ⟨rfl,rfl⟩ aa
 ·have h1:¬kind=1:=by simpa using h1
  rw [jt,if_neg h1]
  refine gi ?_ ?_ <;> intro h2
  ·have h2:kind=2:=by simpa using h2
   rw [if_pos h2]
   refine gc (ab9 T fr O v b m hm hO dP) ?_
   rintro _ _ ⟨rfl,rfl⟩
   refine gz ?_
   exact fin ⟨rfl,rfl⟩ aa
  ·have h2:¬kind=2:=by simpa using h2
   rw [if_neg h2]
   refine gz ?_
   exact fin ⟨rfl,rfl⟩ aa
theorem AE (kind:Int)(s:Fs):Ct 211 [.int .i64 kind,s.agg,v] [gK T fr,O] fun u Bs=>u = .bool (tS kind s b)/\Bs=[gK T fr,O]:=by
 obtain ⟨z,hz⟩:∃z,z=jt kind b:=⟨_,rfl⟩
 unfold tS
 have hK:=AD T fr O v b m hm hO dP kind
 rw [<-hz] at hK ⊢
 refine st func211 fun w0 => ?_
 refine ga ?_;intro b1
 refine gc hK ?_
 rintro _ _ ⟨rfl,rfl⟩
 refine ga ?_;intro b2
 refine gg ?_ ?_ <;> intro h0
 ·have h0:z.2=0:=by simpa using h0
  rw [decide_eq_true h0]
  refine gz ?_
  exact fin ⟨rfl,rfl⟩ aa
 ·have h0:¬z.2=0:=by simpa using h0
  rw [decide_eq_false h0]
  refine gz ?_
  exact fin ⟨rfl,rfl⟩ aa
end
end Go.Proofs.YtpabnmeponmonaaGreatDoor
namespace Go.Sl
def K4 (s:Fs):List UInt8:=ah s.a 8++ah s.b 8++ah s.c 8++ah s.d 8
theorem lY (s:Fs):(K4 s).length=32:=by simp [K4,aj]
def nr (b:List UInt8)(q:Nat):Fs:=⟨nm b q 8,nm b (q+8) 8,nm b (q+16) 8,nm b (q+24) 8⟩
theorem DZ {s:Fs}(h:s.Ok)(x y:List UInt8){q:Nat}(hx:x.length=q):nr (x++(K4 s++y)) q=s:=by
 have e8:=p8
 have ha:=h.a;have hb:=h.b;have hc:=h.c;have hd:=h.d
 have f1:=bN x (ah s.b 8++(ah s.c 8++(ah s.d 8++y))) s.a (q:=q) (k:=8) hx oZ
 have f2:=bN (x++ah s.a 8) (ah s.c 8++(ah s.d 8++y)) s.b (q:=q+8) (k:=8) (by simp [aj,hx]) oZ
 have f3:=bN (x++(ah s.a 8++ah s.b 8)) (ah s.d 8++y) s.c (q:=q+16) (k:=8) (by simp [aj,hx]) oZ
 have f4:=bN (x++(ah s.a 8++(ah s.b 8++ah s.c 8))) y s.d (q:=q+24) (k:=8) (by simp [aj,hx]) oZ
 simp only [append_assoc] at f1 f2 f3 f4
 simp only [nr,K4,append_assoc,f1,f2,f3,f4]
def aE (x:List UInt8):List UInt8:=x++replicate (96 - x.length) 0
theorem ep {x:List UInt8}(h:x.length<=96):(aE x).length=96:=by simp [aE];omega
def whole (x:List UInt8):List UInt8:=aE x++K4 (aH (aE x))
theorem gE {x:List UInt8}(h:x.length<=96):(whole x).length=128:=by rw [whole,length_append,ep h,lY]
def fU (b letters:List UInt8):Bool:=decide (b.length=128/\b.take 4=letters/\nr b 96=aH (b.take 96))
theorem iA {x letters:List UInt8}(h:x.length<=96)(hl:letters.length=4)(hp:∃r,x=letters++r):fU (whole x) letters=true/\(whole x).take 96=aE x:=by
 have h1:(whole x).take 96=aE x:=take_left' (ep h)
 refine ⟨?_,h1⟩
 simp only [fU,decide_eq_true_eq]
 refine ⟨gE h, ?_, ?_⟩
 ·obtain ⟨r,rfl⟩:=hp
  rw [whole,aE,append_assoc,append_assoc,take_left' hl]
 ·rw [h1]
  have:=DZ (nY (aE x)) (aE x) [] (ep h)
  rw [append_nil] at this
  exact this
structure Tp where
 kind:Int
 leaves:Int
 bE:Int
deriving DecidableEq
def Tp.lay (t:Tp):List Value:=[.int .i64 t.kind,.int .i64 t.leaves,.int .i64 t.bE]
abbrev Tp.agg (t:Tp):Value:=.agg #[.int .i64 t.kind,.int .i64 t.leaves,.int .i64 t.bE]
theorem Tp.ak (t:Tp):t.lay.length=3:=rfl
theorem Tp.bK (t:Tp):∀u∈t.lay,u.oneCell'=true:=fun u hu=>by
 simp only [Tp.lay,List.mem_cons,not_mem_nil,or_false] at hu
 rcases hu with rfl | rfl | rfl <;> rfl
structure Tp.Ok (t:Tp):Prop where
 kind : -9223372036854775808<=t.kind/\t.kind<=9223372036854775807
 leaves : -9223372036854775808<=t.leaves/\t.leaves<=9223372036854775807
 bE : -9223372036854775808<=t.bE/\t.bE<=9223372036854775807
def wj:Tp:=⟨0,0,0⟩
def Tp.made (t:Tp):Prop:=324<=t.bE/\t.bE<=8192/\(t.kind=1/\t.leaves=1\/t.kind=2/\2<=t.leaves/\t.leaves<=5\/t.kind=3/\3<=t.leaves/\t.leaves<=5)
instance (t:Tp):Decidable t.made:=by unfold Tp.made;infer_instance
def xZ (t:Tp):List UInt8:=ah t.kind.toNat 1++(ah t.leaves.toNat 1++ah t.bE.toNat 4)
theorem wk (t:Tp):(xZ t).length=6:=by simp [xZ,aj]
def K5 (b:List UInt8)(q:Nat):Tp:=⟨nm b q 1,nm b (q+1) 1,nm b (q+2) 4⟩
theorem Po {t:Tp}(h:t.made)(x y:List UInt8){q:Nat}(hx:x.length=q):K5 (x++(xZ t++y)) q=t:=by
 obtain ⟨h1,h2,h3⟩:=h
 have e1:=p1;have e4:=p4
 have f1:=bN x (ah t.leaves.toNat 1++(ah t.bE.toNat 4++y)) t.kind.toNat (q:=q) (k:=1) hx oZ
 have f2:=bN (x++ah t.kind.toNat 1) (ah t.bE.toNat 4++y) t.leaves.toNat (q:=q+1) (k:=1) (by simp [aj,hx]) oZ
 have f3:=bN (x++(ah t.kind.toNat 1++ah t.leaves.toNat 1)) y t.bE.toNat (q:=q+2) (k:=4) (by simp [aj,hx]) oZ
 simp only [append_assoc] at f1 f2 f3
 simp only [K5,xZ,append_assoc,f1,f2,f3]
 cases t with | mk k l s=>simp only [Tp.mk.injEq];simp only at h1 h2 h3;omega
structure fj where
 pool:Nat
 aN:List Tp
 top:Int
 place:Int
deriving DecidableEq
structure fj.Ok (l:fj):Prop where
 pool:l.pool<18446744073709551616
 top : -9223372036854775808<=l.top/\l.top<=9223372036854775807
 place : -9223372036854775808<=l.place/\l.place<=9223372036854775807
 aN:∀t∈l.aN,t.Ok
def Pp:fj:=⟨0,[],0,0⟩
def fj.may (l:fj):Prop:=1<=l.aN.length/\l.aN.length<=4/\0<=l.top/\l.top<l.aN.length/\0<=l.place/\l.place<(l.aN.getD l.top.toNat wj).leaves/\∀t∈l.aN,t.made
instance (l:fj):Decidable l.may:=by unfold fj.may;infer_instance
def wm (l:fj):Int:=if l.may then 0 else 42
def iO:List UInt8:=[85,67,76,66]
def ib:List UInt8:=[85,67,85,66]
def Jk (l:fj):List UInt8:=iO++(ah l.pool 8++(ah l.top.toNat 1++(ah l.place.toNat 1++ah l.aN.length 1)))
theorem lZ (l:fj):(Jk l).length=15:=by simp [Jk,iO,aj]
def dW (l:fj):List UInt8:=Jk l++l.aN.flatMap xZ
theorem wo:∀l:List Tp,(l.flatMap xZ).length=6*l.length
 | []=>rfl
 | t :: r=>by rw [flatMap_cons,length_append,wk,wo r,length_cons];omega
theorem jS (l:fj):(dW l).length=15+6*l.aN.length:=by rw [dW,length_append,lZ,wo]
def G0 (x:List UInt8):fj:=⟨nm x 4 8,(List.range (nm x 14 1)).map fun i=>K5 x (15+6*i),nm x 12 1,nm x 13 1⟩
def AF (b:List UInt8):Int :=
 if fU b iO=false then 43 else if 4<nm (b.take 96) 14 1 then 43
 else if (b.take 96).drop (15+6*nm (b.take 96) 14 1)≠replicate (96 - (15+6*nm (b.take 96) 14 1)) 0 then 43 else wm (G0 (b.take 96))
def Pq (b:List UInt8):fj:=if AF b=0 then G0 (b.take 96) else Pp
theorem AG (h:List UInt8)(y:List UInt8):∀(l:List Tp) (x:List UInt8) {q:Nat},x.length=q->(∀t∈l,t.made)->(List.range l.length).map (fun i=>K5 (x++(l.flatMap xZ++y)) (q+6*i))=l
 | [],_,_,_,_=>rfl
 | t :: r,x,q,hx,hm=>by
  have ih:=AG h y r (x++xZ t) (q:=q+6) (by rw [length_append,wk,hx]) (fun u hu=>hm u (by simp [hu]))
  rw [length_cons,range_succ_eq_map,map_cons,map_map]
  have h0:K5 (x++((t :: r).flatMap xZ++y)) (q+6*0)=t:=by
   rw [flatMap_cons,append_assoc];exact Po (hm t (by simp)) x _ hx
  rw [h0]
  congr 1
  conv=>rhs;rw [<-ih]
  apply map_congr_left
  intro i _
  simp only [Function.comp]
  rw [flatMap_cons,append_assoc,append_assoc,show q+6*(i+1)=q+6+6*i by omega]
theorem K6 {l:fj}(h:wm l=0)(ho:l.Ok):AF (whole (dW l))=0/\Pq (whole (dW l))=l:=by
 have hm:l.may:=by unfold wm at h;split at h <;> first | assumption | cases h
 obtain ⟨m1,m2,m3,m4,m5,m6,m7⟩:=hm
 have hl:=jS l
 obtain ⟨o1,o2⟩:=iA (x:=dW l) (letters:=iO) oZ rfl ⟨_,by rw [dW,Jk,append_assoc]⟩
 have mU:l.place<=5:=by
  have:l.top.toNat<l.aN.length:=oZ
  have sj:l.aN.getD l.top.toNat wj∈l.aN:=by simp [List.getD,this]
  have:=m7 _ sj
  unfold Tp.made at this
  omega
 have e1:=p1;have e8:=p8
 have tB:=ho.pool
 have hx:aE (dW l)=Jk l++(l.aN.flatMap xZ++replicate (96 - (dW l).length) 0):=by rw [aE,dW,append_assoc]
 have f1:=bN iO ((ah l.top.toNat 1++(ah l.place.toNat 1++ah l.aN.length 1))++(l.aN.flatMap xZ++replicate (96 - (dW l).length) 0)) l.pool (q:=4) (k:=8) rfl oZ
 have f2:=bN (iO++ah l.pool 8) ((ah l.place.toNat 1++ah l.aN.length 1)++(l.aN.flatMap xZ++replicate (96 - (dW l).length) 0)) l.top.toNat (q:=12) (k:=1) (by simp [iO,aj]) oZ
 have f3:=bN (iO++(ah l.pool 8++ah l.top.toNat 1)) (ah l.aN.length 1++(l.aN.flatMap xZ++replicate (96 - (dW l).length) 0)) l.place.toNat (q:=13) (k:=1) (by simp [iO,aj]) oZ
 have f4:=bN (iO++(ah l.pool 8++(ah l.top.toNat 1++ah l.place.toNat 1))) (l.aN.flatMap xZ++replicate (96 - (dW l).length) 0) l.aN.length (q:=14) (k:=1) (by simp [iO,aj]) oZ
 have f5:=AG [] (replicate (96 - (dW l).length) 0) l.aN (Jk l) (q:=15) (lZ l) m7
 have ZF:aE (dW l)=iO++(ah l.pool 8++(ah l.top.toNat 1++(ah l.place.toNat 1++(ah l.aN.length 1++(l.aN.flatMap xZ++replicate (96 - (dW l).length) 0))))):=by
  rw [hx,Jk];simp only [append_assoc]
 simp only [append_assoc] at f1 f2 f3 f4
 rw [<-ZF] at f1 f2 f3 f4
 rw [<-hx] at f5
 have ic:G0 (aE (dW l))=l:=by
  simp only [G0,f1,f2,f3,f4,f5]
  cases l with | mk p t tp pl=>simp only [fj.mk.injEq];simp only at m3 m5;exact ⟨trivial,trivial,by omega,by omega⟩
 have hd:(aE (dW l)).drop (15+6*nm (aE (dW l)) 14 1)=replicate (96 - (15+6*nm (aE (dW l)) 14 1)) 0:=by
  rw [f4,aE,drop_left' hl,hl]
 have hE:AF (whole (dW l))=0:=by
  unfold AF
  rw [o2,if_neg (by rw [o1];decide),if_neg (by rw [f4];omega),if_neg (fun q=>q hd),ic,h]
 exact ⟨hE,by rw [Pq,if_pos hE,o2,ic]⟩
structure Ub where
 pool:Nat
 ae:Nat
 note:Nat
 root:Pt
deriving DecidableEq
def Ub.lay (u:Ub):List Value:=[.int .u64 u.pool,.int .u64 u.ae,.int .u64 u.note,.int .i64 u.root.top,.int .i64 u.root.at_,.int .i64 u.root.bytes,.int .u64 u.root.bg,.int .i64 u.root.kind,.int .u64 u.root.a,.int .u64 u.root.b,.int .u64 u.root.c,.int .u64 u.root.d]
abbrev Ub.agg (u:Ub):Value:=.agg #[.int .u64 u.pool,.int .u64 u.ae,.int .u64 u.note,.int .i64 u.root.top,.int .i64 u.root.at_,.int .i64 u.root.bytes,.int .u64 u.root.bg,.int .i64 u.root.kind,.int .u64 u.root.a,.int .u64 u.root.b,.int .u64 u.root.c,.int .u64 u.root.d]
structure Ub.Ok (u:Ub):Prop where
 pool:u.pool<18446744073709551616
 ae:u.ae<18446744073709551616
 note:u.note<18446744073709551616
 root:u.root.Ok
def jT:Ub:=⟨0,0,0,ai⟩
def wq (u:Ub):Int:=if 1<=u.ae/\u.ae<=281474976710656/\fK u.root=0/\u.root.bg<=u.ae then 0 else 44
def jJ (u:Ub):List UInt8:=ib++(ah u.pool 8++(ah u.ae 8++(ah u.note 8++KY u.root)))
theorem jU (u:Ub):(jJ u).length=76:=by simp [jJ,ib,aj,lW]
def K7 (x:List UInt8):Ub:=⟨nm x 4 8,nm x 12 8,nm x 20 8,O3 x 28⟩
def AH (b:List UInt8):Int:=if fU b ib=false then 45 else if (b.take 96).drop 76≠replicate 20 0 then 45 else wq (K7 (b.take 96))
def Pr (b:List UInt8):Ub:=if AH b=0 then K7 (b.take 96) else jT
theorem AI {u:Ub}(h:wq u=0):1<=u.ae/\u.ae<=281474976710656/\fK u.root=0/\u.root.bg<=u.ae:=by
 unfold wq at h;split at h
 ·assumption
 ·cases h
theorem K8 {u:Ub}(h:wq u=0)(ho:u.Ok):AH (whole (jJ u))=0/\Pr (whole (jJ u))=u:=by
 obtain ⟨m1,m2,m3,m4⟩:=AI h
 have hl:=jU u
 have e8:=p8
 have q1:=ho.pool;have q2:=ho.ae;have q3:=ho.note
 obtain ⟨o1,o2⟩:=iA (x:=jJ u) (letters:=ib) oZ rfl ⟨_,rfl⟩
 have hx:aE (jJ u)=ib++(ah u.pool 8++(ah u.ae 8++(ah u.note 8++(KY u.root++replicate 20 0)))):=by
  rw [aE,hl,jJ];simp only [append_assoc]
 have f1:=bN ib (ah u.ae 8++(ah u.note 8++(KY u.root++replicate 20 0))) u.pool (q:=4) (k:=8) rfl oZ
 have f2:=bN (ib++ah u.pool 8) (ah u.note 8++(KY u.root++replicate 20 0)) u.ae (q:=12) (k:=8) (by simp [ib,aj]) oZ
 have f3:=bN (ib++(ah u.pool 8++ah u.ae 8)) (KY u.root++replicate 20 0) u.note (q:=20) (k:=8) (by simp [ib,aj]) oZ
 have f4:=DE (Aw m3) ho.root (ib++(ah u.pool 8++(ah u.ae 8++ah u.note 8))) (replicate 20 0) (q:=28) (by simp [ib,aj])
 simp only [append_assoc] at f1 f2 f3 f4
 rw [<-hx] at f1 f2 f3 f4
 have ic:K7 (aE (jJ u))=u:=by simp only [K7,f1,f2,f3,f4]
 have hd:(aE (jJ u)).drop 76=replicate 20 0:=by rw [aE,drop_left' hl,hl]
 have hE:AH (whole (jJ u))=0:=by
  unfold AH
  rw [o2,if_neg (by rw [o1];decide),if_neg (fun q=>q hd),ic,h]
 exact ⟨hE,by rw [Pr,if_pos hE,o2,ic]⟩
theorem uv {t:Tp}(h:t.kind<1\/3<t.kind\/t.bE<324\/8192<t.bE):decide t.made=false:=decide_eq_false (by unfold Tp.made;omega)
theorem Uk {t:Tp}(h:¬t.kind<1/\¬3<t.kind/\¬t.bE<324/\¬8192<t.bE){b:Bool}(hb:b=true↔t.kind<=t.leaves/\t.leaves<=(if t.kind=1 then 1 else 5)):decide t.made=b:=by
 rw [Bool.eq_iff_iff,hb,decide_eq_true_eq];unfold Tp.made;split <;> omega
end Go.Sl
namespace Go.Proofs.YtpabnmeponmonaaGreatDoor
theorem ZG (t:Tp):Ct 86 [t.agg] [] fun u Bs=>u = .bool (decide t.made)/\Bs=[]:=by
 refine st func86 fun w0 => ?_
 refine ga ?_;intro b1
 refine ga ?_;intro b3
 refine gg ?_ ?_ <;> intro h1
 ·rw [uv (.inl h1)];refine gz ?_;exact fin ⟨rfl,rfl⟩ aa
 refine gg ?_ ?_ <;> intro h2
 ·rw [uv (.inr (.inl h2))];refine gz ?_;exact fin ⟨rfl,rfl⟩ aa
 refine gg ?_ ?_ <;> intro h3
 ·rw [uv (.inr (.inr (.inl h3)))];refine gz ?_;exact fin ⟨rfl,rfl⟩ aa
 refine gi ?_ ?_ <;> intro h4
 ·rw [uv (.inr (.inr (.inr h4)))];refine gz ?_;exact fin ⟨rfl,rfl⟩ aa
 rcases (show t.kind=1\/t.kind=2\/t.kind=3 by omega) with hk | hk | hk
 all_goals
  obtain ⟨k,lv,sc⟩:=t
  obtain rfl:k=_:=hk
  refine gg ?_ ?_ <;> intro h5
  all_goals
   refine gz ?_
   exact fin ⟨congrArg Value.bool (Uk ⟨h1,h2,h3,h4⟩ (by simp at h5 ⊢;omega)).symm,rfl⟩ aa
end Go.Proofs.YtpabnmeponmonaaGreatDoor
namespace Go.Sl
abbrev ns (l:fj)(v:Value):Value:=.agg #[.int .u64 l.pool,v,.int .i64 l.top,.int .i64 l.place]
def fj.half (l:fj):Prop:=1<=l.aN.length/\l.aN.length<=4/\0<=l.top/\l.top<l.aN.length/\0<=l.place/\l.place<(l.aN.getD l.top.toNat wj).leaves
theorem iG (l:fj):wm l=0↔l.half/\∀t∈l.aN,t.made:=by
 unfold wm;split
 ·rename_i h;obtain ⟨h1,h2,h3,h4,h5,h6,h7⟩:=h;exact ⟨fun _=>⟨⟨h1,h2,h3,h4,h5,h6⟩,h7⟩,fun _=>rfl⟩
 ·rename_i h;exact ⟨fun q=>(by cases q),fun ⟨⟨h1,h2,h3,h4,h5,h6⟩,h7⟩=>absurd ⟨h1,h2,h3,h4,h5,h6,h7⟩ h⟩
theorem Ps {l:fj}(h:wm l≠0):wm l=42:=by
 unfold wm at *;split
 ·rename_i c;rw [if_pos c] at h;exact absurd rfl h
 ·rfl
theorem Pu {l:fj}(h:¬l.half):wm l=42:=Ps (fun q=>h ((iG l).1 q).1)
theorem Jl {l:fj}{n:Nat}(h:l.top=n)(hn:n<l.aN.length):l.aN.getD l.top.toNat wj=l.aN[n]:=by simp [h,List.getD,hn]
theorem K9 {α:Type}{p:α->Prop}{l:List α}{i:Nat}{a:α}(h:∀x∈l.take i,p x)(hx:l[i]? = some a)(ha:p a):∀x∈l.take (i+1),p x:=by
 obtain ⟨hi,rfl⟩:=List.getElem?_eq_some_iff.1 hx
 rw [take_succ_eq_append_getElem hi]
 intro x hx
 rcases List.mem_append.1 hx with hx | hx
 ·exact h x hx
 ·obtain rfl:=mem_singleton.1 hx;exact ha
end Go.Sl
namespace Go.Proofs.YtpabnmeponmonaaGreatDoor
theorem Pv (O:Chunk)(v:Value)(l:List Tp)(n:Nat)(hn:l.length=n)(hO:Rd O 3 v n (l.flatMap Tp.lay)):Ct 84 [v,.func (.func 85) #[] #[]] [O] fun u Bs=>u = .bool (!decide (∀t∈l,t.made))/\Bs=[O]:=by
 subst hn
 have G1:=hO.2.2.1
 simp only [maxLen] at G1
 obtain ⟨ad,c,rfl⟩:=hO.slice
 refine st func84 fun w0 => ?_
 refine ge ?_
 refine gl [0,1,7] (fun i:Nat=>[(8,.int .i64 i)]) (fun _=>[]) (fun i=>i<=l.length/\∀t∈l.take i,t.made) (fun i=>l.length - i) 0 ⟨by omega,fun _ h=>by simp at h⟩ ?_
 rintro i ⟨hi,hm⟩
 refine gi ?_ ?_ <;> intro br
 ·have hx:l[i]? = some l[i]:=getElem?_eq_getElem oZ
  have hs:=av Tp.ak l i _ hx
  obtain ⟨g,off,rfl⟩:=hO.addr oZ
  refine ge ?_
  refine ga ?_;intro b1
  refine gc (ZG l[i]) ?_
  rintro _ _ ⟨rfl,rfl⟩
  refine gi ?_ ?_ <;> intro S5
  ·have gf:¬ ∀t∈l,t.made:=fun q=>by simp [q _ (getElem_mem (by omega:i<l.length))] at S5
   refine gz ?_
   exact fin ⟨congrArg Value.bool (by rw [decide_eq_false gf];simp),rfl⟩ aa
  ·refine gn ?_
   exact ⟨i+1,⟨by omega,K9 hm hx (by simpa using S5)⟩,by omega,ar,_,aa⟩
 ·obtain rfl:i=l.length:=oZ
  rw [take_length] at hm
  refine gz ?_
  exact fin ⟨congrArg Value.bool (by rw [decide_eq_true hm];rfl),rfl⟩ aa
theorem sE (O:Chunk)(v:Value)(l:fj)(n:Nat)(hn:l.aN.length=n)(hO:Rd O 3 v n (l.aN.flatMap Tp.lay)):Ct 35 [ns l v] [O] fun u Bs=>u = .int .i64 (wm l)/\Bs=[O]:=by
 subst hn
 have hO':=hO
 obtain ⟨pool,aN,top,ez⟩:=l
 simp only at hO hO'
 change Ct _ [.agg #[.int .u64 pool,v,.int .i64 top,.int .i64 ez]] _ _
 have no:∀ {p:Prop},(fj.half ⟨pool,aN,top,ez⟩->p)->¬p->(42:Int)=wm ⟨pool,aN,top,ez⟩:=fun f h=>(Pu fun q=>h (f q)).symm
 obtain ⟨ad,c,rfl⟩:=hO.slice
 refine st func35 fun w0 => ?_
 refine ga ?_;intro b1
 refine gg ?_ ?_ <;> intro h1
 ·refine gz ?_;exact fin ⟨congrArg _ (no (fun q=>q.1) (sOZ)),rfl⟩ aa
 refine gg ?_ ?_ <;> intro h2
 ·refine gz ?_;exact fin ⟨congrArg _ (no (fun q=>q.2.1) (sOZ)),rfl⟩ aa
 refine gg ?_ ?_ <;> intro h3
 ·refine gz ?_;exact fin ⟨congrArg _ (no (fun q=>q.2.2.1) (sOZ)),rfl⟩ aa
 refine gg ?_ ?_ <;> intro h4
 ·refine gz ?_;exact fin ⟨congrArg _ (no (fun q=>q.2.2.2.1) (sOZ)),rfl⟩ aa
 refine gg ?_ ?_ <;> intro h5
 ·refine gz ?_;exact fin ⟨congrArg _ (no (fun q=>q.2.2.2.2.1) (sOZ)),rfl⟩ aa
 obtain ⟨k,rfl⟩:∃k:Nat,top=k:=⟨top.toNat,by omega⟩
 have hk:k<aN.length:=oZ
 have hx:=av Tp.ak aN k _ (getElem?_eq_getElem hk) 1 _ rfl
 obtain ⟨g,off,rfl⟩:=hO.addr oZ
 refine gi ?_ ?_ <;> intro h6
 ·refine gz ?_;exact fin ⟨congrArg _ (no (fun q=>q.2.2.2.2.2) (by rw [Jl rfl hk];simp only;omega)),rfl⟩ aa
 refine gc (Pv O _ aN aN.length rfl hO') ?_
 rintro _ _ ⟨rfl,rfl⟩
 have hh:fj.half ⟨pool,aN,k,ez⟩:=by unfold fj.half;rw [Jl rfl hk];simp only;omega
 refine gi ?_ ?_ <;> intro h7
 ·refine gz ?_;exact fin ⟨congrArg _ (Ps (fun q=>by simp at h7;obtain ⟨x,hx,hm⟩:=h7;exact hm (((iG _).1 q).2 x hx))).symm,rfl⟩ aa
 ·refine gz ?_;exact fin ⟨congrArg _ ((iG _).2 ⟨hh,by simpa using h7⟩).symm,rfl⟩ aa
end Go.Proofs.YtpabnmeponmonaaGreatDoor
namespace Go.Sl
def four (L:List Nat):List UInt8:=L.flatMap fun n=>ah n 8
theorem zb {L:List Nat}{i x:Nat}(h:L[i]? = some x):four (L.take (i+1))=four (L.take i)++ah x 8:=by
 obtain ⟨hi,rfl⟩:=List.getElem?_eq_some_iff.1 h
 rw [take_succ_eq_append_getElem hi,four,four,flatMap_append];simp
theorem D6 (L:List Nat):(four L).length=8*L.length:=by
 induction L with
 | nil=>rfl
 | cons a r ih=>simp only [four,flatMap_cons,length_append,aj,length_cons] at *;omega
theorem wu (L:List Nat)(i:Nat):(four (L.take i)).length<=8*i:=by
 rw [D6,length_take];omega
theorem La {l:List Tp}{i:Nat}{t:Tp}(h:l[i]? = some t):(l.take (i+1)).flatMap xZ=(l.take i).flatMap xZ++xZ t:=by
 obtain ⟨hi,rfl⟩:=List.getElem?_eq_some_iff.1 h
 rw [take_succ_eq_append_getElem hi,flatMap_append];simp
theorem G3 {l:fj}(h:l.half)(hm:∀t∈l.aN,t.made):l.place<=5:=by
 obtain ⟨m1,m2,m3,m4,m5,m6⟩:=h
 have:l.top.toNat<l.aN.length:=oZ
 have sj:l.aN.getD l.top.toNat wj∈l.aN:=by simp [List.getD,this]
 have:=hm _ sj
 unfold Tp.made at this
 omega
theorem Jm (s:Fs):four [s.a,s.b,s.c,s.d]=K4 s:=by simp [four,K4]
end Go.Sl
namespace Go.Proofs.YtpabnmeponmonaaGreatDoor
theorem Ea (p room:Nat)(bs:List UInt8)(A:Chunk)(s:Fs)(hs:s.Ok)(hA:xY p room bs A)(hf:bs.length+32<=room):Ct 229 [ptr p,s.agg] [A] fun _ Bs=>∃A',xY p room (bs++K4 s) A'/\Bs=[A']:=by
 refine st func229 fun w0 => ?_
 refine ga ?_;intro b3
 refine gl [0,14] (fun ((i,_):Nat×Chunk)=>[(15,.int .i64 i)]) (fun (_,A)=>[A]) (fun (i,A)=>i<=4/\xY p room (bs++four ([s.a,s.b,s.c,s.d].take i)) A) (fun (i,_)=>4 - i) (0,A) ⟨by omega,by rw [take_zero];simpa [four] using hA⟩ ?_
 rintro ⟨i,A⟩ ⟨hi,hA⟩
 refine gi ?_ ?_ <;> intro br
 ·have hi4:i<4:=oZ
  obtain ⟨x,hx⟩:∃x,[s.a,s.b,s.c,s.d][i]? = some x:=⟨_,getElem?_eq_getElem hi4⟩
  have hv:([s.a,s.b,s.c,s.d].map fun n:Nat=>Value.int .u64 n)[i]? = some (.int .u64 x):=by rw [getElem?_map,hx];rfl
  have hb:x<256 ^ 8:=by
   have:=mem_of_getElem? hx
   obtain ⟨h1,h2,h3,h4⟩:=hs
   simp at this;rcases this with rfl | rfl | rfl | rfl <;> assumption
  have hl:=wu [s.a,s.b,s.c,s.d] i
  refine gc (fT p room _ A x 8 hA oZ hb (by rw [length_append];omega)) ?_
  rintro _ _ ⟨A',eo,rfl⟩
  rw [append_assoc,<-zb hx] at eo
  refine gn ?_
  exact ⟨(i+1,A'),⟨by omega,eo⟩,sOZ,ar,_,aa⟩
 ·obtain rfl:i=4:=oZ
  refine gz ?_
  exact fin ⟨_,by rw [<-Jm];exact hA,rfl⟩ aa
theorem Ul (p room:Nat)(A O:Chunk)(v:Value)(l:fj)(n:Nat)(hn:l.aN.length=n)(hO:Rd O 3 v n (l.aN.flatMap Tp.lay))(ho:l.Ok)(hm:wm l=0)(hA:xY p room [] A)(hr:39<=room):Ct 154 [ptr p,ns l v] [A,O] fun _ Bs=>∃A',xY p room (dW l) A'/\Bs=[A',O]:=by
 subst hn
 obtain ⟨hh,Cn⟩:=(iG l).1 hm
 have mU:=G3 hh Cn
 obtain ⟨m1,m2,m3,m4,m5,m6⟩:=hh
 obtain ⟨ad,c,rfl⟩:=hO.slice
 obtain ⟨g,off,rfl⟩:=hO.addr oZ
 obtain ⟨pool,aN,top,ez⟩:=l
 obtain ⟨o1, -, -, -⟩:=ho
 simp only at *
 obtain ⟨tn,rfl⟩:∃n:Nat,top=n:=⟨top.toNat,by omega⟩
 obtain ⟨pn,rfl⟩:∃n:Nat,ez=n:=⟨ez.toNat,by omega⟩
 have hH:Jk ⟨pool,aN,tn,pn⟩=iO++ah pool 8++ah tn 1++ah pn 1++ah aN.length 1:=by simp [Jk]
 change Ct _ [ptr p,.agg #[.int .u64 pool,.slice (some ⟨g,off,none⟩) aN.length c,.int .i64 tn,.int .i64 pn]] _ _
 refine st func154 fun w0 => ?_
 refine ga ?_;intro b3
 refine gm ?_;intro b7
 refine gc (nX p room [] iO A _ _ hA (IN (g:=b7) (T:=5) iO dZ) (by simp [iO];omega)) ?_
 rintro _ _ ⟨A1,mV,rfl⟩
 refine gc (fT p room _ A1 pool 8 mV oZ o1 (by simp [iO];omega)) ?_
 rintro _ _ ⟨A2,l4,rfl⟩
 refine gc (fT p room _ A2 tn 1 l4 oZ oZ (by simp [iO,aj];omega)) ?_
 rintro _ _ ⟨A3,wv,rfl⟩
 refine gc (fT p room _ A3 pn 1 wv oZ oZ (by simp [iO,aj];omega)) ?_
 rintro _ _ ⟨A4,x4,rfl⟩
 refine gc (fT p room _ A4 aN.length 1 x4 oZ oZ (by simp [iO,aj];omega)) ?_
 rintro _ _ ⟨A5,Ga,rfl⟩
 rw [nil_append,<-hH] at Ga
 refine gl [0,31,32] (fun ((i,_):Nat×Chunk)=>[(33,.int .i64 i)]) (fun (_,A)=>[A]) (fun (i,A)=>i<=aN.length/\xY p room (Jk ⟨pool,aN,tn,pn⟩++(aN.take i).flatMap xZ) A) (fun (i,_)=>aN.length - i) (0,A5) ⟨by omega,by simpa using Ga⟩ ?_
 rintro ⟨i,A⟩ ⟨hi,hA⟩
 refine gi ?_ ?_ <;> intro br
 ·obtain ⟨⟨k,lv,sc⟩,hx⟩:=eC (l:=aN) (i:=i) oZ
  have S5:=Cn _ (mem_of_getElem? hx)
  have bB:=La hx
  have hs:=av Tp.ak aN i _ hx
  have hl:=lZ ⟨pool,aN,tn,pn⟩
  have Lb:=wo (aN.take i)
  rw [length_take,Nat.min_eq_left oZ] at Lb
  unfold Tp.made at S5
  simp only at S5
  obtain ⟨kn,rfl⟩:∃n:Nat,k=n:=⟨k.toNat,by omega⟩
  obtain ⟨vn,rfl⟩:∃n:Nat,lv=n:=⟨lv.toNat,by omega⟩
  obtain ⟨sn,rfl⟩:∃n:Nat,sc=n:=⟨sc.toNat,by omega⟩
  have hB:xZ ⟨kn,vn,sn⟩=ah kn 1++ah vn 1++ah sn 4:=by simp [xZ]
  change Sub (i*3) [.int .i64 kn,.int .i64 vn,.int .i64 sn] _ at hs
  refine ga ?_;intro b5
  refine gc (fT p room _ A kn 1 hA oZ oZ (by simp only [length_append];omega)) ?_
  rintro _ _ ⟨B1,hB1,rfl⟩
  refine gc (fT p room _ B1 vn 1 hB1 oZ oZ (by simp only [length_append,aj];omega)) ?_
  rintro _ _ ⟨B2,hB2,rfl⟩
  refine gc (fT p room _ B2 sn 4 hB2 oZ oZ (by simp only [length_append,aj];omega)) ?_
  rintro _ _ ⟨B3,hB3,rfl⟩
  refine gn ?_
  exact ⟨(i+1,B3),⟨by omega,by rw [bB,hB];simpa using hB3⟩,sOZ,ar,_,aa⟩
 ·obtain rfl:i=aN.length:=oZ
  rw [take_length] at hA
  refine gz ?_
  exact fin ⟨_,hA,rfl⟩ aa
theorem Jn (T:TypeId)(fr:Nat×Nat)(O:Chunk)(v:Value)(b:List UInt8)(hb:b.length=96)(hO:Rd O 1 v 96 (au b)):Ct 152 [v,.int .i64 0] [gK T fr,O] fun u Bs=>∃g,u = .tuple #[.slice (some ⟨g,0,none⟩) 128 128,.int .i64 0]/\Bs=[[(g,ax (au (b++K4 (aH b))) 5)],gK T fr,O]:=by
 have hK:=AD T fr O v b 96 hb hO oZ 1
 rw [show jt 1 b=(aH b,0) from rfl] at hK
 simp only at hK
 obtain ⟨ad,c,rfl⟩:=hO.slice
 refine st func152 fun w0 => ?_
 refine gc hK ?_
 rintro _ _ ⟨rfl,rfl⟩
 refine ga ?_;intro b6
 refine gc (wc 128 oZ) ?_
 rintro _ _ ⟨p,A,rfl,hA,rfl⟩
 refine gc (nX p 128 [] b A O (.slice ad 96 c) hA (by rw [hb];exact hO) (by simp;omega)) ?_
 rintro _ _ ⟨A1,mV,rfl⟩
 rw [nil_append] at mV
 refine gc (Ea p 128 b A1 (aH b) (nY b) mV oZ) ?_
 rintro _ _ ⟨A2,l4,rfl⟩
 have hl:(b++K4 (aH b)).length=128:=by rw [length_append,lY,hb]
 have hD:=pG p 128 _ A2 l4 oZ
 rw [hl] at hD
 refine gc hD ?_
 rintro _ _ ⟨g,rfl,rfl⟩
 refine gz ?_
 exact fin ⟨g,rfl,rfl⟩ aa
theorem G4 (T:TypeId)(fr:Nat×Nat)(O:Chunk)(v:Value)(l:fj)(n:Nat)(hn:l.aN.length=n)(hO:Rd O 3 v n (l.aN.flatMap Tp.lay))(ho:l.Ok)(hm:wm l=0):Ct 88 [ns l v] [gK T fr,O] fun u Bs=>∃g,u = .tuple #[.slice (some ⟨g,0,none⟩) 128 128,.int .i64 0]/\Bs=[[(g,ax (au (whole (dW l))) 5)],gK T fr,O]:=by
 have hL:=jS l
 have hh:=((iG l).1 hm).1.2.1
 have hE:=sE O v l n hn hO
 rw [hm] at hE
 refine st func88 fun w0 => ?_
 refine ga ?_;intro b1
 refine ge ?_
 refine ga ?_;intro b4
 refine gc hE ?_
 rintro _ _ ⟨rfl,rfl⟩
 refine gc (wc 96 oZ) ?_
 rintro _ _ ⟨p,A,rfl,hA,rfl⟩
 refine gc (Ul p 96 A O v l n hn hO ho hm hA oZ) ?_
 rintro _ _ ⟨A1,mV,rfl⟩
 refine gc (I9 p 96 (dW l) A1 96 mV oZ) ?_
 rintro _ _ ⟨A2,l4,rfl⟩
 have hp:(aE (dW l)).length=96:=ep oZ
 have hD:=pG p 96 (aE (dW l)) A2 l4 oZ
 rw [hp] at hD
 refine gc hD ?_
 rintro _ _ ⟨g,rfl,rfl⟩
 have hR:Rd [(g,ax (au (aE (dW l))) 5)] 1 (.slice (some ⟨g,0,none⟩) 96 96) 96 (au (aE (dW l))):=ay (by rw [aq,hp]) (aP _) oZ _
 refine gc (Jn T fr _ _ _ hp hR) ?_
 rintro _ _ ⟨g2,rfl,rfl⟩
 refine gz ?_
 exact fin ⟨g2,rfl,rfl⟩ aa
theorem zc (p:Nat)(bs:List UInt8)(i:Nat)(A:Chunk)(hA:pH p bs i 0 A)(hi:i+32<=bs.length):Ct 256 [ptr p] [A] fun u Bs=>∃A',u=(nr bs i).agg/\pH p bs (i+32) 0 A'/\Bs=[A']:=by
 refine st func256 fun w0 => ?_
 refine ga ?_;intro b2
 refine gc (cw p bs i 8 A hA oZ oZ) ?_
 rintro _ _ ⟨A1,rfl,mV,rfl⟩
 refine gc (cw p bs (i+8) 8 A1 mV oZ oZ) ?_
 rintro _ _ ⟨A2,rfl,l4,rfl⟩
 refine gc (cw p bs (i+8+8) 8 A2 l4 oZ oZ) ?_
 rintro _ _ ⟨A3,rfl,wv,rfl⟩
 refine gc (cw p bs (i+8+8+8) 8 A3 wv oZ oZ) ?_
 rintro _ _ ⟨A4,rfl,x4,rfl⟩
 refine gz ?_
 exact fin ⟨A4,rfl,x4,rfl⟩ aa
end Go.Proofs.YtpabnmeponmonaaGreatDoor
namespace Go.Sl
theorem Um (p:Pt):Ud p=K4 ⟨p.a,p.b,p.c,p.d⟩:=rfl
theorem Un (b:List UInt8)(q:Nat):nm b q 1<256/\nm b q 2<65536/\nm b q 4<4294967296/\nm b q 8<18446744073709551616:=⟨Jd b q 1,Jd b q 2,Jd b q 4,Jd b q 8⟩
end Go.Sl
namespace Go.Proofs.YtpabnmeponmonaaGreatDoor
theorem kZ (p:Pt)(h:fK p=0):Ct 193 [p.agg] [] fun u Bs=>u = .int .i64 0/\Bs=[]:=by
 rcases y9 h with rfl | hg
 ·refine st func193 fun w0 => ?_
  refine ga ?_;intro b1
  refine gz ?_
  exact fin ⟨rfl,rfl⟩ aa
 ·obtain ⟨h1,h2,h3,h4,h5,h6,h7,h8,h9⟩:=hg
  refine st func193 fun w0 => ?_
  refine ga ?_;intro b1
  refine gi ?_ ?_ <;> intro hz
  ·simp at hz;omega
  ·rcases h9 with h9 | h9
   all_goals
    obtain ⟨tp,at_,fV,bi,kd,a,b,c,d⟩:=p
    simp only at *
    obtain rfl:kd=_:=h9
    refine gz ?_
    exact fin ⟨rfl,rfl⟩ aa
theorem Eb (p room:Nat)(bs:List UInt8)(A:Chunk)(x:Pt)(hx:fK x=0)(ho:x.Ok)(hA:xY p room bs A)(hf:bs.length+48<=room):Ct 195 [ptr p,x.agg] [A] fun _ Bs=>∃A',xY p room (bs++KY x) A'/\Bs=[A']:=by
 obtain ⟨m1,m2,m3,m4,m5⟩:=Aw hx
 obtain ⟨o1,o2,o3,o4,o5,o6,o7,o8,o9⟩:=ho
 obtain ⟨tp,at_,fV,bi,kd,a,b,c,d⟩:=x
 simp only at *
 obtain ⟨tn,rfl⟩:∃n:Nat,tp=n:=⟨tp.toNat,by omega⟩
 obtain ⟨an,rfl⟩:∃n:Nat,at_=n:=⟨at_.toNat,by omega⟩
 obtain ⟨bn,rfl⟩:∃n:Nat,fV=n:=⟨fV.toNat,by omega⟩
 obtain ⟨kn,rfl⟩:∃n:Nat,kd=n:=⟨kd.toNat,by omega⟩
 refine st func195 fun w0 => ?_
 refine ga ?_;intro b3
 refine gc (fT p room _ A tn 1 hA oZ oZ oZ) ?_
 rintro _ _ ⟨A1,mV,rfl⟩
 refine gc (fT p room _ A1 kn 1 mV oZ oZ (by simp only [length_append,aj];omega)) ?_
 rintro _ _ ⟨A2,l4,rfl⟩
 refine gc (fT p room _ A2 bn 2 l4 oZ oZ (by simp only [length_append,aj];omega)) ?_
 rintro _ _ ⟨A3,wv,rfl⟩
 refine gc (fT p room _ A3 an 4 wv oZ oZ (by simp only [length_append,aj];omega)) ?_
 rintro _ _ ⟨A4,x4,rfl⟩
 refine gc (fT p room _ A4 bi 8 x4 oZ oZ (by simp only [length_append,aj];omega)) ?_
 rintro _ _ ⟨A5,Ga,rfl⟩
 refine gc (Ea p room _ A5 ⟨a,b,c,d⟩ ⟨o6,o7,o8,o9⟩ Ga (by simp only [length_append,aj];omega)) ?_
 rintro _ _ ⟨A6,Tc,rfl⟩
 refine gz ?_
 exact fin ⟨A6,by simpa [KY,Um] using Tc,rfl⟩ aa
theorem wx (x:Pt)(hx:fK x=0)(ho:x.Ok):Ct 133 [x.agg] [] fun u Bs=>∃g,u = .tuple #[.slice (some ⟨g,0,none⟩) 64 64,.int .i64 0]/\Bs=[[(g,ax (au (dB x)) 5)]]:=by
 refine st func133 fun w0 => ?_
 refine ga ?_;intro b1
 refine ge ?_
 refine ga ?_;intro b4
 refine gc (kZ x hx) ?_
 rintro _ _ ⟨rfl,rfl⟩
 refine gc (wc 64 oZ) ?_
 rintro _ _ ⟨p,A,rfl,hA,rfl⟩
 refine gc (Eb p 64 [] A x hx ho hA (by simp)) ?_
 rintro _ _ ⟨A1,mV,rfl⟩
 have hl:=lW x
 rw [nil_append] at mV
 refine gc (I9 p 64 (KY x) A1 64 mV oZ) ?_
 rintro _ _ ⟨A2,l4,rfl⟩
 rw [hl] at l4
 have hD:=pG p 64 (dB x) A2 l4 (by rw [bc];omega)
 rw [bc] at hD
 refine gc hD ?_
 rintro _ _ ⟨g,rfl,rfl⟩
 refine gz ?_
 exact fin ⟨g,rfl,rfl⟩ aa
theorem zd (p:Nat)(bs:List UInt8)(i:Nat)(A:Chunk)(hA:pH p bs i 0 A)(hi:i+48<=bs.length):Ct 263 [ptr p] [A] fun u Bs=>∃A',u=(O3 bs i).agg/\pH p bs (i+48) 0 A'/\Bs=[A']:=by
 have n1:numOf (cut bs i 1)<256:=(Un bs i).1
 have n2:numOf (cut bs (i+1) 1)<256:=(Un bs (i+1)).1
 have n3:numOf (cut bs (i+1+1) 2)<65536:=(Un bs (i+1+1)).2.1
 have n4:numOf (cut bs (i+1+1+2) 4)<4294967296:=(Un bs (i+1+1+2)).2.2.1
 refine st func263 fun w0 => ?_
 refine ga ?_;intro b2
 refine gc (cw p bs i 1 A hA oZ oZ) ?_
 rintro _ _ ⟨A1,rfl,mV,rfl⟩
 refine gc (cw p bs (i+1) 1 A1 mV oZ oZ) ?_
 rintro _ _ ⟨A2,rfl,l4,rfl⟩
 refine gc (cw p bs (i+1+1) 2 A2 l4 oZ oZ) ?_
 rintro _ _ ⟨A3,rfl,wv,rfl⟩
 refine gc (cw p bs (i+1+1+2) 4 A3 wv oZ oZ) ?_
 rintro _ _ ⟨A4,rfl,x4,rfl⟩
 refine gc (cw p bs (i+1+1+2+4) 8 A4 x4 oZ oZ) ?_
 rintro _ _ ⟨A5,rfl,Ga,rfl⟩
 refine ga ?_;intro b3
 refine gc (zc p bs (i+1+1+2+4+8) A5 Ga oZ) ?_
 rintro _ _ ⟨A6,rfl,Tc,rfl⟩
 refine gz ?_
 exact fin ⟨A6,rfl,Tc,rfl⟩ aa
end Go.Proofs.YtpabnmeponmonaaGreatDoor
namespace Go.Sl
theorem Lc (b L:List UInt8):fU b L=true↔b.length=128/\b.take 4=L/\nr b 96=aH (b.take 96):=by unfold fU;rw [decide_eq_true_eq]
theorem wy {b L:List UInt8}(h:¬(b.length=128/\b.take 4=L/\nr b 96=aH (b.take 96))):fU b L=false:=by unfold fU;exact decide_eq_false h
theorem Le (b:List UInt8)(q:Nat):nr (b.drop q) 0=nr b q:=by simp [nr,nm,drop_drop]
end Go.Sl
namespace Go.Proofs.YtpabnmeponmonaaGreatDoor
theorem qJ (T:TypeId)(fr:Nat×Nat)(O:Chunk)(ad:Option Addr)(c:Nat)(b L:List UInt8)(hb:b.length=128)(hc:128<=c)(hL:L.length=4)(hO:Rd O 1 (.slice ad 128 c) 128 (au b)):Ct 205 [.slice ad 128 c,str L] [gK T fr,O] fun u Bs=>∃w,u = .tuple #[w,.bool (fU b L)]/\(fU b L=true->Rd O 1 w 96 (au (b.take 96)))/\Bs=[gK T fr,O]:=by
 refine st func205 fun w0 => ?_
 have hn:L.length - 0=4:=oZ
 have qc:((au b).drop (0*1)).take ((L.length - 0)*1)=au (b.take 4):=by rw [hn];simp [aQ]
 refine gw ?_;intro ad2 kY
 refine gi ?_ ?_ <;> intro h1
 ·have gf:fU b L=false:=wy fun q=>by simp at h1;exact h1 q.2.1
  refine gz ?_
  exact fin ⟨_,by rw [gf],fun q=>(by rw [gf] at q;cases q),rfl⟩ aa
 ·have h1:b.take 4=L:=by simpa using h1
  have hn3:128 - 96=32:=rfl
  have agL:((au b).drop (96*1)).take ((128 - 96)*1)=au (b.drop 96):=by rw [bo,aQ,take_of_length_le (by rw [length_drop];omega)]
  have hn5:96 - 0=96:=rfl
  have agM:((au b).drop (0*1)).take ((96 - 0)*1)=au (b.take 96):=by simp [aQ]
  have hl3:(b.drop 96).length=32:=by rw [length_drop];omega
  have hl5:(b.take 96).length=96:=by rw [length_take];omega
  refine gd [0,4,16,20,9,13,27,30] ?_
  refine gw ?_;intro ia DV
  refine gw ?_;intro sF hR5
  refine gc (sC (b.drop 96) 32 hl3 oZ O _ DV) ?_
  rintro _ _ ⟨p,A,rfl,hA,rfl⟩
  refine gc (zc p (b.drop 96) 0 A hA oZ) ?_
  rintro _ _ ⟨A1,rfl,mV,rfl⟩
  refine gc (AE T fr O _ (b.take 96) 96 hl5 hR5 oZ 1 (nr (b.drop 96) 0)) ?_
  rintro _ _ ⟨rfl,rfl⟩
  have hk:tS 1 (nr (b.drop 96) 0) (b.take 96)=decide (nr b 96=aH (b.take 96)):=by rw [Le];show (true&&Fs.KX _ _)=_;rw [Bool.true_and,Fs.GV];rfl
  rw [hk]
  refine gi ?_ ?_ <;> intro h2
  ·have gf:fU b L=false:=wy fun q=>by simp at h2;exact h2 q.2.2
   refine gz ?_
   exact fin ⟨_,by rw [gf],fun q=>(by rw [gf] at q;cases q),rfl⟩ aa
  ·have ZH:fU b L=true:=(Lc b L).2 ⟨hb,h1,by simpa using h2⟩
   refine gw ?_;intro G5 hR6
   refine gz ?_
   exact fin ⟨_,by rw [ZH],fun _=>hR6,rfl⟩ aa
theorem Ec (T:TypeId)(fr:Nat×Nat)(O:Chunk)(ad:Option Addr)(c:Nat)(b:List UInt8)(hb:b.length=128)(hc:128<=c)(hO:Rd O 1 (.slice ad 128 c) 128 (au b))(h:fU b iO=false):Ct 143 [.slice ad 128 c] [gK T fr,O] fun u Bs=>u = .tuple #[ns Pp (.slice none 0 0),.int .i64 43]/\Bs=[gK T fr,O]:=by
 have mI:=qJ T fr O ad c b iO hb hc rfl hO
 rw [h] at mI
 refine st func143 fun w0 => ?_
 refine ga ?_;intro b2
 refine gc mI ?_
 rintro _ _ ⟨w,rfl,_,rfl⟩
 refine gz ?_
 exact fin ⟨rfl,rfl⟩ aa
end Go.Proofs.YtpabnmeponmonaaGreatDoor
namespace Go.Sl
theorem pI {x:Pt}(h:fK x=0)(ho:x.Ok):O3 (dB x) 0=x:=by
 have:=DE (Aw h) ho [] (replicate 16 0) (q:=0) rfl
 simpa [dB] using this
theorem Pw {u:Ub}(h:wq u=0)(ho:u.Ok):K7 (aE (jJ u))=u:=by
 obtain ⟨h1,h2⟩:=K8 h ho
 have o2:=(iA (x:=jJ u) (letters:=ib) (by rw [jU];omega) rfl ⟨_,rfl⟩).2
 rw [Pr,if_pos h1,o2] at h2;exact h2
theorem Px {l:fj}(h:wm l=0)(ho:l.Ok):G0 (aE (dW l))=l:=by
 obtain ⟨h1,h2⟩:=K6 h ho
 have h4:=((iG l).1 h).1.2.1
 have o2:=(iA (x:=dW l) (letters:=iO) (by rw [jS];omega) rfl ⟨_,by rw [dW,Jk,append_assoc]⟩).2
 rw [Pq,if_pos h1,o2] at h2;exact h2
end Go.Sl
namespace Go.Proofs.YtpabnmeponmonaaGreatDoor
theorem wz {x:List UInt8}{i:Nat}(h:x.length=i):kJ (aE x) i=true:=by
 rw [kJ,aE,drop_left' h];simp
theorem AJ (x:Pt):kJ (dB x) 48=true:=by
 rw [kJ,dB,drop_left' (lW x)];simp
theorem wA (O:Chunk)(ad:Option Addr)(c:Nat)(x:Pt)(hx:fK x=0)(ho:x.Ok)(hO:Rd O 1 (.slice ad 64 c) 64 (au (dB x))):Ct 213 [.slice ad 64 c] [O] fun u Bs=>u = .tuple #[x.agg,.int .i64 0]/\Bs=[O]:=by
 have hl:=bc x
 have ic:=pI hx ho
 refine st func213 fun w0 => ?_
 refine ga ?_;intro b2
 refine ge ?_
 refine ga ?_;intro b8
 refine ga ?_;intro xX
 refine gc (sC (dB x) 64 hl oZ O _ hO) ?_
 rintro _ _ ⟨p,A,rfl,hA,rfl⟩
 have hT:=zd p (dB x) 0 A hA oZ
 rw [ic] at hT
 refine gc hT ?_
 rintro _ _ ⟨A1,rfl,mV,rfl⟩
 refine ga ?_;intro Td
 have hP:=GU p (dB x) 48 A1 mV oZ
 rw [hl,AJ] at hP
 refine gc hP ?_
 rintro _ _ ⟨A2,l4,rfl⟩
 have hD:=uu p (dB x) 64 0 A2 l4 oZ
 rw [hl] at hD
 refine gc hD ?_
 rintro _ _ ⟨rfl,rfl⟩
 refine gc (kZ x hx) ?_
 rintro _ _ ⟨rfl,rfl⟩
 refine gz ?_
 exact fin ⟨rfl,rfl⟩ aa
theorem sH (x:Ub)(h:wq x=0):Ct 173 [x.agg] [] fun u Bs=>u = .int .i64 0/\Bs=[]:=by
 obtain ⟨m1,m2,m3,m4⟩:=AI h
 refine st func173 fun w0 => ?_
 refine ga ?_;intro b1
 refine gc (kZ x.root m3) ?_
 rintro _ _ ⟨rfl,rfl⟩
 refine gz ?_
 exact fin ⟨rfl,rfl⟩ aa
theorem G6 (T:TypeId)(fr:Nat×Nat)(x:Ub)(h:wq x=0)(ho:x.Ok):Ct 239 [x.agg] [gK T fr] fun u Bs=>∃g,u = .tuple #[.slice (some ⟨g,0,none⟩) 128 128,.int .i64 0]/\Bs=[[(g,ax (au (whole (jJ x))) 5)],gK T fr]:=by
 obtain ⟨m1,m2,m3,m4⟩:=AI h
 have hl:=jU x
 have q1:=ho.pool;have q2:=ho.ae;have q3:=ho.note
 refine st func239 fun w0 => ?_
 refine ga ?_;intro b1
 refine ge ?_
 refine ga ?_;intro b4
 refine gc (sH x h) ?_
 rintro _ _ ⟨rfl,rfl⟩
 refine gc (wc 96 oZ) ?_
 rintro _ _ ⟨p,A,rfl,hA,rfl⟩
 refine ge ?_
 refine ga ?_;intro b3
 refine gm ?_;intro b7
 refine gc (nX p 96 [] ib A _ _ hA (IN (g:=b7) (T:=5) ib dZ) (by simp [ib])) ?_
 rintro _ _ ⟨A1,mV,rfl⟩
 refine gc (fT p 96 _ A1 x.pool 8 mV oZ q1 (by simp [ib])) ?_
 rintro _ _ ⟨A2,l4,rfl⟩
 refine gc (fT p 96 _ A2 x.ae 8 l4 oZ q2 (by simp [ib,aj])) ?_
 rintro _ _ ⟨A3,wv,rfl⟩
 refine gc (fT p 96 _ A3 x.note 8 wv oZ q3 (by simp [ib,aj])) ?_
 rintro _ _ ⟨A4,x4,rfl⟩
 refine gc (Eb p 96 _ A4 x.root m3 ho.root x4 (by simp [ib,aj])) ?_
 rintro _ _ ⟨A5,Ga,rfl⟩
 have Ga:xY p 96 (jJ x) A5:=by simpa [jJ] using Ga
 refine gc (I9 p 96 (jJ x) A5 96 Ga oZ) ?_
 rintro _ _ ⟨A6,Tc,rfl⟩
 have hp:(aE (jJ x)).length=96:=ep oZ
 have hD:=pG p 96 (aE (jJ x)) A6 Tc oZ
 rw [hp] at hD
 refine gc hD ?_
 rintro _ _ ⟨g,rfl,rfl⟩
 have hR:Rd [(g,ax (au (aE (jJ x))) 5)] 1 (.slice (some ⟨g,0,none⟩) 96 96) 96 (au (aE (jJ x))):=ay (by rw [aq,hp]) (aP _) oZ _
 refine gc (Jn T fr _ _ _ hp hR) ?_
 rintro _ _ ⟨g2,rfl,rfl⟩
 refine gz ?_
 exact fin ⟨g2,rfl,rfl⟩ aa
theorem Ed (T:TypeId)(fr:Nat×Nat)(O:Chunk)(ad:Option Addr)(c:Nat)(b:List UInt8)(hb:b.length=128)(hc:128<=c)(hO:Rd O 1 (.slice ad 128 c) 128 (au b))(h:fU b ib=false):Ct 168 [.slice ad 128 c] [gK T fr,O] fun u Bs=>u = .tuple #[jT.agg,.int .i64 45]/\Bs=[gK T fr,O]:=by
 have mI:=qJ T fr O ad c b ib hb hc rfl hO
 rw [h] at mI
 refine st func168 fun w0 => ?_
 refine ga ?_;intro b2
 refine gc mI ?_
 rintro _ _ ⟨w,rfl,_,rfl⟩
 refine gz ?_
 exact fin ⟨rfl,rfl⟩ aa
theorem G7 (T:TypeId)(fr:Nat×Nat)(O:Chunk)(ad:Option Addr)(c:Nat)(x:Ub)(h:wq x=0)(ho:x.Ok)(hc:128<=c)(hO:Rd O 1 (.slice ad 128 c) 128 (au (whole (jJ x)))):Ct 168 [.slice ad 128 c] [gK T fr,O] fun u Bs=>u = .tuple #[x.agg,.int .i64 0]/\Bs=[gK T fr,O]:=by
 have hl:=jU x
 obtain ⟨o1,o2⟩:=iA (x:=jJ x) (letters:=ib) oZ rfl ⟨_,rfl⟩
 have mI:=qJ T fr O ad c _ ib (gE oZ) hc rfl hO
 rw [o1,o2] at mI
 have ic:=Pw h ho
 have hp:(aE (jJ x)).length=96:=ep oZ
 refine st func168 fun w0 => ?_
 refine ga ?_;intro b2
 refine gc mI ?_
 rintro _ _ ⟨w,rfl,hw,rfl⟩
 have hw:=hw rfl
 obtain ⟨ad2,c2,rfl⟩:=hw.slice
 refine ge ?_
 refine ga ?_;intro b8
 refine ga ?_;intro xX
 refine gc (sC (aE (jJ x)) 96 hp oZ O _ hw) ?_
 rintro _ _ ⟨p,A,rfl,hA,rfl⟩
 refine ge ?_
 refine ga ?_;intro c2
 refine gc (qF p (aE (jJ x)) 0 4 A hA oZ) ?_
 rintro _ _ ⟨A1,b1,rfl,mV,rfl⟩
 refine gc (cw p (aE (jJ x)) 4 8 A1 mV oZ oZ) ?_
 rintro _ _ ⟨A2,rfl,l4,rfl⟩
 refine gc (cw p (aE (jJ x)) 12 8 A2 l4 oZ oZ) ?_
 rintro _ _ ⟨A3,rfl,wv,rfl⟩
 refine gc (cw p (aE (jJ x)) 20 8 A3 wv oZ oZ) ?_
 rintro _ _ ⟨A4,rfl,x4,rfl⟩
 refine gc (zd p (aE (jJ x)) 28 A4 x4 oZ) ?_
 rintro _ _ ⟨A5,rfl,Ga,rfl⟩
 refine ga ?_;intro Td
 have hP:=GU p (aE (jJ x)) 76 A5 Ga oZ
 rw [hp,wz hl] at hP
 have hag:(K7 (aE (jJ x))).agg=x.agg:=by rw [ic]
 have Ee:=sH x h
 rw [<-hag] at Ee ⊢
 refine gc hP ?_
 rintro _ _ ⟨A6,Tc,rfl⟩
 have hD:=uu p (aE (jJ x)) 96 0 A6 Tc oZ
 rw [hp] at hD
 refine gc hD ?_
 rintro _ _ ⟨rfl,rfl⟩
 refine gc Ee ?_
 rintro _ _ ⟨rfl,rfl⟩
 refine gz ?_
 exact fin ⟨rfl,rfl⟩ aa
end Go.Proofs.YtpabnmeponmonaaGreatDoor
namespace Go.Sl
section
variable {α:Type}{T:TypeId}{s:Nat}{lay:List α->List Value}
def x5 (T:TypeId)(s:Nat)(lay:List α->List Value):Chunk->List Value->List (List α)->Prop
 | D,[],[]=>D=[]
 | D,v :: vs,x :: xs=>∃C D',D=C++D'/\aC C T s v x.length (lay x)/\x5 T s lay D' vs xs
 | _,_,_=>False
theorem x5.len:∀ {D:Chunk} {vs:List Value} {xs:List (List α)},x5 T s lay D vs xs->vs.length=xs.length
 | _,[],[],_=>rfl
 | _,_ :: _,_ :: _,⟨_,_,_,_,h⟩=>by simp [h.len]
 | _,[],_ :: _,h=>h.elim
 | _,_ :: _,[],h=>h.elim
theorem x5.snoc {C:Chunk}{v:Value}{x:List α}(hC:aC C T s v x.length (lay x)):∀ {D:Chunk} {vs:List Value} {xs:List (List α)},x5 T s lay D vs xs->x5 T s lay (D++C) (vs++[v]) (xs++[x])
 | _,[],[],h=>by
  cases h
  exact ⟨C,[],by simp,hC,rfl⟩
 | _,_ :: _,_ :: _,⟨C0,D',e,Uo,h⟩=>⟨C0,D'++C,by rw [e,append_assoc],Uo,h.snoc hC⟩
 | _,[],_ :: _,h=>h.elim
 | _,_ :: _,[],h=>h.elim
theorem x5.at:∀ {D:Chunk} {vs:List Value} {xs:List (List α)},x5 T s lay D vs xs->∀ {i:Nat} (hi:i<xs.length),
  ∃A C B v,D=A++(C++B)/\vs[i]? = some v/\aC C T s v xs[i].length (lay xs[i])/\∀C' v' x',aC C' T s v' x'.length (lay x')->x5 T s lay (A++(C'++B)) (vs.set i v') (xs.set i x')
 | _,v :: vs,x :: xs,⟨C,D',e,hC,h⟩,0,_=>⟨[],C,D',v,by simpa using e,rfl,hC,fun C' v' x' bF=>⟨C',D',by simp,bF,h⟩⟩
 | _,v :: vs,x :: xs,⟨C,D',e,hC,h⟩,i+1,hi=>by
  obtain ⟨A,C2,B,v2,e2,hv,hB,hk⟩:=h.at (i:=i) (by simpa using hi)
  refine ⟨C++A,C2,B,v2,by rw [e,e2,append_assoc],hv,hB,fun C' v' x' bF => ?_⟩
  exact ⟨C,A++(C'++B),by rw [append_assoc],hC,hk C' v' x' bF⟩
 | _,[],[],_,_,hi=>absurd hi (by simp)
 | _,[],_ :: _,h,_,_=>h.elim
 | _,_ :: _,[],h,_,_=>h.elim
theorem x5.rd {D:Chunk}{vs:List Value}{xs:List (List α)}(h:x5 T s lay D vs xs){i:Nat}(hi:i<xs.length):∃v,vs[i]? = some v/\Rd D s v xs[i].length (lay xs[i]):=by
 obtain ⟨A,C,B,v,rfl,hv,hC, -⟩:=h.at hi
 exact ⟨v,hv,hC.rd.sub fun x hx=>by simp [hx]⟩
end
section
variable {α:Type}{lay:α->List Value}{s:Nat}
theorem sI (hl:∀a,(lay a).length=s):∀(k:Nat) (l:List α),(l.flatMap lay).drop (k*s)=(l.drop k).flatMap lay
 | 0,l=>by simp
 | k+1,[]=>by simp
 | k+1,y :: r=>by rw [flatMap_cons,Nat.succ_mul,drop_succ_cons,<-sI hl k r,Nat.add_comm (k*s) s,<-drop_drop,drop_left' (hl y)]
theorem k9 (hl:∀a,(lay a).length=s):∀(k:Nat) (l:List α),(l.flatMap lay).take (k*s)=(l.take k).flatMap lay
 | 0,l=>by simp
 | k+1,[]=>by simp
 | k+1,y :: r=>by rw [flatMap_cons,take_succ_cons,flatMap_cons,<-k9 hl k r,Nat.succ_mul,Nat.add_comm (k*s) s,take_add,take_left' (hl y),drop_left' (hl y)]
end
theorem Up (xs:List UInt8)(i:Nat)(x:UInt8):(au xs).set i (.int .u8 x.toNat)=au (xs.set i x):=by simp [au,map_set]
section
variable {α:Type}
def dh (n k:Nat):Nat:=(n+(k - 1)) / k
def la (k:Nat)(l:List α)(i:Nat):List (List α):=(List.range i).map fun j=>(l.drop (j*k)).take k
def jV (k:Nat)(l:List α):List (List α):=la k l (dh l.length k)
theorem wB (k:Nat)(l:List α)(i:Nat):la k l (i+1)=la k l i++[(l.drop (i*k)).take k]:=by simp [la,range_succ]
theorem AK (k:Nat)(l:List α)(i:Nat):(la k l i).length=i:=by simp [la]
theorem dN (k:Nat)(l:List α):(jV k l).length=dh l.length k:=AK _ _ _
theorem l5 {k:Nat}{l:List α}{i:Nat}(h:i<(jV k l).length):(jV k l)[i]=(l.drop (i*k)).take k:=by simp [jV,la]
theorem pJ {n k i:Nat}(h1:n<=i*k)(h2:i*k<n+k):dh n k=i:=by
 unfold dh
 have hk:0<k:=by
  rcases Nat.eq_zero_or_pos k with rfl | h
  ·simp at h2;omega
  ·exact h
 rw [Nat.div_eq_iff hk]
 constructor
 ·omega
 ·have:=Nat.succ_mul i k;omega
end
def ei (x:List UInt8):List UInt8:=if x=replicate x.length 0 then [] else x
def bx (x:List UInt8):Bool:=decide (x=replicate x.length 0)
theorem Ef {x:List UInt8}(h:bx x=true):ei x=[]:=by simp only [bx,decide_eq_true_eq] at h;simp only [ei];rw [if_pos h]
theorem nu {x:List UInt8}(h:bx x=false):ei x=x:=by simp only [bx,decide_eq_false_iff_not] at h;simp only [ei];rw [if_neg h]
def fm (b:List UInt8):List (List UInt8):=(jV 1024 b).map ei
theorem G8 {b:List UInt8}{i:Nat}(hi:i<b.length)(h:b.take i=replicate i 0)(hz:b[i]=0):b.take (i+1)=replicate (i+1) 0:=by
 rw [take_add_one,h,getElem?_eq_getElem hi,hz,replicate_succ'];rfl
theorem Lf {b:List UInt8}{i:Nat}(hi:i<b.length)(hz:b[i]≠0):bx b=false:=by
 simp only [bx,decide_eq_false_iff_not]
 intro h
 apply hz
 have:b[i]? = some 0:=by rw [h,getElem?_replicate,if_pos hi]
 rw [getElem?_eq_getElem hi] at this
 exact Option.some.inj this
theorem Lg {b:List UInt8}(h:b.take b.length=replicate b.length 0):bx b=true:=by
 rw [take_length] at h
 simpa [bx] using h
abbrev aR (l:List Pt):List Value:=l.flatMap Pt.lay
end Go.Sl
namespace Go.Proofs.YtpabnmeponmonaaGreatDoor
theorem AL (v:Value)(O:Chunk)(b:List UInt8)(n:Nat)(hn:b.length=n)(hO:Rd O 1 v n (au b)):Ct 187 [v] [O] fun u Bs=>u = .bool (bx b)/\Bs=[O]:=by
 have G1:=hO.2.2.1
 simp only [maxLen] at G1
 obtain ⟨ad,c,rfl⟩:=hO.slice
 refine st func187 fun w0 => ?_
 refine ge ?_
 refine ge ?_
 refine gl [0,1,6,7] (fun (i:Nat)=>[(8,.int .i64 i)]) (fun _=>[]) (fun i=>i<=n/\b.take i=replicate i 0) (fun i=>n - i) 0 ⟨by omega,rfl⟩ ?_
 rintro i ⟨hi,hb⟩
 refine gi ?_ ?_ <;> intro br
 ·have bh:i<b.length:=oZ
  obtain ⟨g,o,rfl⟩:=hO.addr oZ
  obtain ⟨x,hx⟩:∃x,b[i]? = some x:=eC bh
  have x6:b[i]=x:=by rw [getElem?_eq_getElem bh] at hx;exact Option.some.inj hx
  refine ge ?_
  refine gi ?_ ?_ <;> intro ey
  ·refine gz ?_
   exact fin ⟨congrArg _ (Lf bh (by rw [x6];intro h0;rw [h0] at ey;exact absurd ey dZ)).symm,rfl⟩ aa
  ·refine gn ?_
   exact ⟨i+1,⟨by omega,G8 bh hb (by rw [x6];exact UInt8.toNat_inj.1 (by show x.toNat=0;omega))⟩,by omega,ar,_,aa⟩
 ·obtain rfl:i=b.length:=oZ
  refine gz ?_
  exact fin ⟨congrArg _ (Lg hb).symm,rfl⟩ aa
theorem Eg (O:Chunk)(ad:Option Addr)(m c:Nat)(xs:List Value)(hR:Rd O 1 (.slice ad m c) m xs)(hm:1<=m/\m<=100000):Ct 119 [.slice ad m c] [O] fun u Bs=>∃bz c' D',u = .slice bz m c'/\aC D' 5 1 (.slice bz m c') m xs/\Bs=[D',O]:=by
 obtain ⟨g,o,rfl⟩:=hR.addr oZ
 refine st func119 fun w0 => ?_
 refine gm ?_;intro b
 have hB:aC [(b,ax [] 5)] 5 1 (.slice (some ⟨b,0,none⟩) 0 0) 0 []:=⟨rfl,by simp,.inr ⟨b,0,[],rfl,rfl,by omega,by simp [maxLen],rfl⟩⟩
 refine gp ?_;intro bz c' C' bF
 rw [Nat.zero_add,nil_append] at bF
 refine gz ?_
 exact fin ⟨bz,c',C',by rw [Nat.zero_add],bF,rfl⟩ aa
theorem Eh (O:Chunk)(ad:Option Addr)(m c:Nat)(xs:List Value)(hR:Rd O 9 (.slice ad m c) m xs)(hm:1<=m/\m<=100000):Ct 118 [.slice ad m c] [O] fun u Bs=>∃bz c' D',u = .slice bz m c'/\aC D' 121 9 (.slice bz m c') m xs/\Bs=[D',O]:=by
 obtain ⟨g,o,rfl⟩:=hR.addr oZ
 refine st func118 fun w0 => ?_
 refine gm ?_;intro b
 have hB:aC [(b,ax [] 121)] 121 9 (.slice (some ⟨b,0,none⟩) 0 0) 0 []:=⟨rfl,by simp,.inr ⟨b,0,[],rfl,rfl,by omega,by simp [maxLen],rfl⟩⟩
 refine gp ?_;intro bz c' C' bF
 rw [Nat.zero_add,nil_append] at bF
 refine gz ?_
 exact fin ⟨bz,c',C',by rw [Nat.zero_add],bF,rfl⟩ aa
theorem sJ (O:Chunk)(ad:Option Addr)(n c k:Nat)(b:List UInt8)(hn:b.length=n)(hR:Rd O 1 (.slice ad n c) n (au b))(hc:n<=c)(hb:n<=10000)(hk:1<=k/\k<=10000):Ct 139 [.slice ad n c,.int .i64 k] [O] fun u Bs=>∃bz c' vs D V,u = .slice bz (dh n k) c'/\aC D 34 1 u (dh n k) vs/\x5 5 1 au V vs (jV k b)/\Bs=[D,V,O]:=by
 refine st func139 fun w0 => ?_
 refine gl [1] (fun ((i,ad,m,c,v5,_):Nat×Option Addr×Nat×Nat×Value×List Value×Chunk×Chunk)=>[(0,.slice ad m c),(5,v5)]) (fun (_,_,_,_,_,_,D,V)=>[D,V]) (fun (i,ad,m,c,v5,vs,D,V)=>m=n - i*k/\i*k<n+k/\m<=c/\Rd O 1 (.slice ad m c) m (au (b.drop (i*k)))/\(∃sF c5,v5 = .slice sF i c5)/\aC D 34 1 v5 i vs/\x5 5 1 au V vs (la k b i)) (fun (i,_)=>n+k - i*k) (0,ad,n,c,.slice none 0 0,[],[],[]) ⟨by simp,by omega,hc,by simpa using hR,⟨none,0,rfl⟩,aC.nil _ _,rfl⟩ ?_
 clear hR
 rintro ⟨i,ad,m,c,v5,vs,D,V⟩ ⟨rfl,hi,hc,hR,⟨sF,c5,rfl⟩,hD,hV⟩
 have hsi:(i+1)*k=i*k+k:=Nat.succ_mul i k
 have hii:i*1<=i*k:=Nat.mul_le_mul_left i hk.1
 refine gi ?_ ?_ <;> intro br
 ·refine go ?_
  rw [show min (k:Int) ((n - i*k:Nat):Int)=((min k (n - i*k):Nat):Int) by omega]
  obtain ⟨q,hq⟩:∃q,q=min k (n - i*k):=⟨_,rfl⟩
  rw [<-hq]
  have qc:((au (b.drop (i*k))).drop (0*1)).take ((q - 0)*1)=au ((b.drop (i*k)).take k):=by
   rw [Nat.zero_mul,drop_zero,Nat.sub_zero,Nat.mul_one,aQ,hq]
   congr 1
   refine take_eq_take_iff.2 ?_
   rw [length_drop,hn];omega
  have IU:q - 0=q:=rfl
  refine gw ?_;intro ad2 kY
  refine gc (Eg O ad2 q _ _ kY oZ) ?_
  rintro _ _ ⟨ia,c3,D3,rfl,ZI,rfl⟩
  refine gm ?_;intro b19
  refine gp ?_;intro qK c4 D4 hD4
  have hz:((au (b.drop (i*k))).drop (q*1)).take ((n - i*k - q)*1)=au (b.drop ((i+1)*k)):=by
   rw [Nat.mul_one,Nat.mul_one,bo,aQ,drop_drop,take_of_length_le (by rw [length_drop,hn];omega)]
   congr 1
   rcases Nat.le_total k (n - i*k) with h | h
   ·rw [show q=k by omega,hsi]
   ·rw [drop_eq_nil_of_le (by rw [hn];omega),drop_eq_nil_of_le (by rw [hn];omega)]
  have Jj:n - i*k - q=n - (i+1)*k:=oZ
  clear kY qc
  refine gw ?_;intro G5 hR6
  refine gn ?_
  refine ⟨(i+1,G5,_,_,_,_,D4,V++D3),⟨rfl,by omega,by omega,hR6,⟨qK,c4,rfl⟩,hD4, ?_⟩,sOZ,ar,_,aa⟩
  rw [wB]
  refine hV.snoc ?_
  rw [show ((b.drop (i*k)).take k).length=q by rw [length_take,length_drop,hn];omega]
  exact ZI
 ·have oX:dh n k=i:=pJ oZ hi
  have TJ:la k b i=jV k b:=by rw [jV,hn,oX]
  rw [TJ] at hV
  refine gz ?_
  rw [<-oX] at hD ⊢
  exact fin ⟨sF,c5,vs,D,V,rfl,hD,hV,rfl⟩ aa
theorem Lh (O:Chunk)(ad:Option Addr)(n c k:Nat)(b:List Pt)(hn:b.length=n)(hR:Rd O 9 (.slice ad n c) n (aR b))(hc:n<=c)(hb:n<=10000)(hk:1<=k/\k<=10000):Ct 255 [.slice ad n c,.int .i64 k] [O] fun u Bs=>∃bz c' vs D V,u = .slice bz (dh n k) c'/\aC D 147 1 u (dh n k) vs/\x5 121 9 aR V vs (jV k b)/\Bs=[D,V,O]:=by
 refine st func255 fun w0 => ?_
 refine gl [1] (fun ((i,ad,m,c,v5,_):Nat×Option Addr×Nat×Nat×Value×List Value×Chunk×Chunk)=>[(0,.slice ad m c),(5,v5)]) (fun (_,_,_,_,_,_,D,V)=>[D,V]) (fun (i,ad,m,c,v5,vs,D,V)=>m=n - i*k/\i*k<n+k/\m<=c/\Rd O 9 (.slice ad m c) m (aR (b.drop (i*k)))/\(∃sF c5,v5 = .slice sF i c5)/\aC D 147 1 v5 i vs/\x5 121 9 aR V vs (la k b i)) (fun (i,_)=>n+k - i*k) (0,ad,n,c,.slice none 0 0,[],[],[]) ⟨by simp,by omega,hc,by simpa using hR,⟨none,0,rfl⟩,aC.nil _ _,rfl⟩ ?_
 clear hR
 rintro ⟨i,ad,m,c,v5,vs,D,V⟩ ⟨rfl,hi,hc,hR,⟨sF,c5,rfl⟩,hD,hV⟩
 have hsi:(i+1)*k=i*k+k:=Nat.succ_mul i k
 have hii:i*1<=i*k:=Nat.mul_le_mul_left i hk.1
 refine gi ?_ ?_ <;> intro br
 ·refine go ?_
  rw [show min (k:Int) ((n - i*k:Nat):Int)=((min k (n - i*k):Nat):Int) by omega]
  obtain ⟨q,hq⟩:∃q,q=min k (n - i*k):=⟨_,rfl⟩
  rw [<-hq]
  have qc:((aR (b.drop (i*k))).drop (0*9)).take ((q - 0)*9)=aR ((b.drop (i*k)).take k):=by
   rw [Nat.zero_mul,drop_zero,Nat.sub_zero]
   show (flatMap _ _).take (q*9)=flatMap _ _
   rw [k9 Pt.ak,hq]
   congr 1
   refine take_eq_take_iff.2 ?_
   rw [length_drop,hn];omega
  have IU:q - 0=q:=rfl
  refine gw ?_;intro ad2 kY
  refine gc (Eh O ad2 q _ _ kY oZ) ?_
  rintro _ _ ⟨ia,c3,D3,rfl,ZI,rfl⟩
  refine gm ?_;intro b19
  refine gp ?_;intro qK c4 D4 hD4
  have hz:((aR (b.drop (i*k))).drop (q*9)).take ((n - i*k - q)*9)=aR (b.drop ((i+1)*k)):=by
   show ((flatMap _ _).drop (q*9)).take ((n - i*k - q)*9)=flatMap _ _
   rw [sI Pt.ak,k9 Pt.ak,drop_drop,take_of_length_le (by rw [length_drop,hn];omega)]
   congr 1
   rcases Nat.le_total k (n - i*k) with h | h
   ·rw [show q=k by omega,hsi]
   ·rw [drop_eq_nil_of_le (by rw [hn];omega),drop_eq_nil_of_le (by rw [hn];omega)]
  have Jj:n - i*k - q=n - (i+1)*k:=oZ
  clear kY qc
  refine gw ?_;intro G5 hR6
  refine gn ?_
  refine ⟨(i+1,G5,_,_,_,_,D4,V++D3),⟨rfl,by omega,by omega,hR6,⟨qK,c4,rfl⟩,hD4, ?_⟩,sOZ,ar,_,aa⟩
  rw [wB]
  refine hV.snoc ?_
  rw [show ((b.drop (i*k)).take k).length=q by rw [length_take,length_drop,hn];omega]
  exact ZI
 ·have oX:dh n k=i:=pJ oZ hi
  have TJ:la k b i=jV k b:=by rw [jV,hn,oX]
  rw [TJ] at hV
  refine gz ?_
  rw [<-oX] at hD ⊢
  exact fin ⟨sF,c5,vs,D,V,rfl,hD,hV,rfl⟩ aa
theorem Py (ad:Option Addr)(n c:Nat)(vs:List Value)(xs:List (List UInt8))(D V:Chunk)(hD:aC D 34 1 (.slice ad n c) n vs)(hV:x5 5 1 au V vs xs)(hn:n<=10000):Ct 138 [.slice ad n c] [D,V]
  fun u Bs=>∃ws D' V',u = .slice ad n c/\aC D' 34 1 u n ws/\x5 5 1 au V' ws (xs.map ei)/\Bs=[D',V']:=by
 have Li:=hD.1
 rw [Nat.mul_one] at Li
 have Xk:=hV.len
 refine st func138 fun w0 => ?_
 refine gl [0,5,6] (fun ((i,_):Nat×List Value×Chunk×Chunk)=>[(7,.int .i64 i)]) (fun (_,_,D,V)=>[D,V]) (fun (i,ws,D,V)=>i<=n/\aC D 34 1 (.slice ad n c) n ws/\x5 5 1 au V ws ((xs.take i).map ei++xs.drop i)) (fun (i,_)=>n - i) (0,vs,D,V) ⟨by omega,hD,by simpa using hV⟩ ?_
 clear hD hV
 rintro ⟨i,ws,D,V⟩ ⟨hi,hD,hV⟩
 refine gi ?_ ?_ <;> intro br
 ·have bh:i<xs.length:=oZ
  obtain ⟨g,c2,r,hv,rfl,Lj,ng,yn⟩:=hD.opened oZ
  cases hv
  have Cp:=hD.1
  rw [Nat.mul_one] at Cp
  obtain ⟨A,E,B,v,rfl,ZJ,hE,eQ⟩:=hV.at (i:=i) (by simp;omega)
  have uw:((xs.take i).map ei++xs.drop i)[i]'(by simp;omega)=xs[i]:=by
   rw [getElem_append_right (by simp;omega)]
   simp [Nat.min_eq_left (Nat.le_of_lt bh)]
  rw [uw] at hE
  have bX:(ws++r)[i]? = some v:=by rw [getElem?_append_left oZ];exact ZJ
  have bB:(xs.take (i+1)).map ei++xs.drop (i+1)=((xs.take i).map ei++xs.drop i).set i (ei xs[i]):=by
   rw [take_add_one,getElem?_eq_getElem bh,map_append,set_append_right _ _ (show (List.map ei (List.take i xs)).length<=i by simp;omega)]
   rw [length_map,length_take,Nat.min_eq_left (Nat.le_of_lt bh),Nat.sub_self,drop_eq_getElem_cons bh]
   simp only [Option.toList_some,map_cons,map_nil,set_cons_zero,append_assoc,cons_append,nil_append]
  refine gs ?_
  refine gc (AL v E xs[i] _ rfl hE.rd) ?_
  rintro _ _ ⟨rfl,rfl⟩
  refine gi ?_ ?_ <;> intro dP
  ·have hB0:=eQ [] (.slice none 0 0) [] (aC.nil _ _)
   rw [<-Ef dP,<-bB] at hB0
   have Ei:(ws++r).set i (.slice none 0 0)=ws.set i (.slice none 0 0)++r:=set_append_left _ _ oZ
   have Dy:aC [(g,ax (ws.set i (.slice none 0 0)++r) 34)] 34 1 (.slice (some ⟨g,0,none⟩) n c) n (ws.set i (.slice none 0 0)):=ve (by rw [length_set];exact hD.1) (fun u hu=>by
    rcases mem_or_eq_of_mem_set hu with h | rfl
    ·exact hD.2.1 u h
    ·rfl) Lj ng (by rw [length_set];exact yn)
   refine gn ?_
   rw [Ei]
   exact ⟨(i+1,ws.set i (.slice none 0 0),_,A++([]++B)),⟨by omega,Dy,hB0⟩,sOZ,ar,_,aa⟩
  ·have e:=nu (x:=xs[i]) (by simpa using dP)
   have Lk:(xs.take (i+1)).map ei++xs.drop (i+1)=(xs.take i).map ei++xs.drop i:=by
    rw [take_add_one,getElem?_eq_getElem bh,map_append,drop_eq_getElem_cons bh]
    simp [e]
   refine gn ?_
   exact ⟨(i+1,ws,_,A++(E++B)),⟨by omega,hD,by rw [Lk];exact hV⟩,sOZ,ar,_,aa⟩
 ·obtain rfl:i=n:=oZ
  rw [show i=xs.length by omega,take_length,drop_length,append_nil] at hV
  refine gz ?_
  exact fin ⟨ws,D,V,rfl,hD,hV,rfl⟩ aa
end Go.Proofs.YtpabnmeponmonaaGreatDoor
namespace Go.Sl
def fL (l:List Pt):List UInt8:=l.flatMap dB
def lh (l:List Pt):List (List UInt8):=(jV 16 l).map fun g=>ei (fL g)
theorem iP (l:List Pt):(fL l).length=64*l.length:=by
 induction l with
 | nil=>rfl
 | cons x r ih=>simp only [fL,flatMap_cons,length_append,bc,length_cons] at *;omega
theorem qL {α β:Type}{f:α->List β}{k:Nat}(hk:0<k)(hf:∀x,(f x).length=k)(l:List α):jV k (l.flatMap f)=l.map f:=by
 have hl:(l.flatMap f).length=l.length*k:=by
  induction l with
  | nil=>simp
  | cons x r ih=>rw [flatMap_cons,length_append,ih,hf,length_cons,Nat.succ_mul];omega
 have hn:dh (l.length*k) k=l.length:=pJ (Nat.le_refl _) oZ
 apply ext_getElem
 ·rw [dN,hl,hn,length_map]
 ·intro i h1 h2
  rw [l5]
  rw [length_map] at h2
  clear hl hn h1
  rw [getElem_map]
  induction l generalizing i with
  | nil=>simp at h2
  | cons x r ih =>
   cases i with
   | zero=>rw [Nat.zero_mul,drop_zero,flatMap_cons,take_left' (hf x)];rfl
   | succ i =>
    rw [flatMap_cons,Nat.succ_mul,Nat.add_comm,<-drop_drop,drop_left' (hf x),ih i (by simpa using h2)]
    ·rfl
    ·simpa using h2
theorem iB {α:Type}{l:List α}{i:Nat}(h:i<l.length):l.take (i+1)=l.take i++[l[i]]:=by rw [take_add_one,getElem?_eq_getElem h];rfl
theorem Ll {l:List Pt}{i:Nat}(h:i<l.length):fL (l.take (i+1))=fL (l.take i)++dB l[i]:=by rw [fL,iB h,flatMap_append,flatMap_singleton];rfl
end Go.Sl
namespace Go.Proofs.YtpabnmeponmonaaGreatDoor
theorem Uq (O:Chunk)(ad:Option Addr)(n c:Nat)(b:List UInt8)(hn:b.length=n)(hR:Rd O 1 (.slice ad n c) n (au b))(hc:n<=c)(hb:n<=10000) :
  Ct 70 [.slice ad n c] [O] fun u Bs=>∃bz c' vs D V,u = .slice bz (dh n 1024) c'/\aC D 34 1 u (dh n 1024) vs/\x5 5 1 au V vs (fm b)/\Bs=[D,V,O]:=by
 have hN:dh n 1024<=10000:=by unfold dh;omega
 refine st func70 fun w0 => ?_
 refine gc (sJ O ad n c 1024 b hn hR hc hb oZ) ?_
 rintro _ _ ⟨iY,c1,vs,D,V,rfl,hD,hV,rfl⟩
 refine gc (Py iY _ c1 vs _ D V hD hV hN) ?_
 rintro _ _ ⟨ws,D',V',rfl,eJ,Xu,rfl⟩
 refine gz ?_
 exact fin ⟨iY,c1,ws,D',V',rfl,eJ,Xu,rfl⟩ aa
theorem Pz (O:Chunk)(ad:Option Addr)(n c:Nat)(l:List Pt)(hn:l.length=n)(hR:Rd O 9 (.slice ad n c) n (aR l))(hc:n<=c)(hb:n<=1000)(hp:∀x∈l,fK x=0/\x.Ok) :
  Ct 191 [.slice ad n c] [O] fun u Bs=>∃bz c' vs D V,u = .tuple #[.slice bz (dh n 16) c',.int .i64 0]/\aC D 34 1 (.slice bz (dh n 16) c') (dh n 16) vs/\x5 5 1 au V vs (lh l)/\Bs=[D,V,O]:=by
 have hN:dh n 16<=1000:=by unfold dh;omega
 have rS:(jV 16 l).length=dh n 16:=by rw [dN,hn]
 refine st func191 fun w0 => ?_
 refine gc (Lh O ad n c 16 l hn hR hc oZ oZ) ?_
 rintro _ _ ⟨iY,c1,vs,D0,V0,rfl,Gb,Ur,rfl⟩
 have wC:=Gb.rd
 generalize dh n 16=N at *
 refine gl [0,16,17] (fun ((i,v4,_):Nat×Value×List Value×Chunk×Chunk)=>[(18,.int .i64 i),(4,v4)]) (fun (_,_,_,D,V)=>[D,V]) (fun (i,v4,ws,D,V)=>i<=N/\(∃qK c4,v4 = .slice qK i c4)/\aC D 34 1 v4 i ws/\x5 5 1 au V ws (((jV 16 l).take i).map fL)) (fun (i,_)=>N - i) (0,.slice none 0 0,[],[],[]) ⟨by omega,⟨none,0,rfl⟩,aC.nil _ _,rfl⟩ ?_
 rintro ⟨i,v4,ws,D,V⟩ ⟨hi,⟨qK,c4,rfl⟩,hD,hV⟩
 refine gi ?_ ?_ <;> intro br
 ·have bh:i<(jV 16 l).length:=oZ
  obtain ⟨v,ZJ,yr⟩:=Ur.rd bh
  obtain ⟨g,hg⟩:∃g,g=(jV 16 l)[i]:=⟨_,rfl⟩
  rw [<-hg] at yr
  have hgl:g.length<=16:=by rw [hg,l5,length_take];omega
  have hgp:∀x∈g,fK x=0/\x.Ok:=fun x hx=>hp x (by rw [hg,l5] at hx;exact mem_of_mem_drop (mem_of_mem_take hx))
  obtain ⟨g1,o1,rfl⟩:=wC.addr oZ
  obtain ⟨adg,cg,rfl⟩:=yr.slice
  refine gl [0,4,16,17,18,22,23] (fun ((j,v7,_):Nat×Value×Chunk)=>[(24,.int .i64 j),(7,v7)]) (fun (_,_,C)=>[C]) (fun (j,v7,C)=>j<=g.length/\(∃tT c7,v7 = .slice tT (64*j) c7)/\aC C 5 1 v7 (64*j) (au (fL (g.take j)))) (fun (j,_)=>g.length - j) (0,.slice none 0 0,[]) ⟨by omega,⟨none,0,rfl⟩,aC.nil _ _⟩ ?_
  rintro ⟨j,v7,C⟩ ⟨hj,⟨tT,c7,rfl⟩,hC⟩
  refine gi ?_ ?_ <;> intro pC
  ·have hjg:j<g.length:=oZ
   have hx:g[j]? = some g[j]:=getElem?_eq_getElem hjg
   obtain ⟨x,x6⟩:∃x,x=g[j]:=⟨_,rfl⟩
   rw [<-x6] at hx
   have hs:=av Pt.ak g j _ hx
   obtain ⟨g2,o2,rfl⟩:=yr.addr oZ
   obtain ⟨x8,ZF⟩:=hgp x (by rw [x6];exact getElem_mem _)
   refine ga ?_;intro b9
   refine gc (wx x x8 ZF) ?_
   rintro _ _ ⟨Xv,rfl,rfl⟩
   have hRe:Rd [(Xv,ax (au (dB x)) 5)] 1 (.slice (some ⟨Xv,0,none⟩) 64 64) 64 (au (dB x)):=ay (by rw [aq,bc]) (aP _) oZ _
   refine gp ?_;intro ze c8 C8 Ns
   have he:au (fL (g.take j))++au (dB x)=au (fL (g.take (j+1))):=by rw [Ll hjg,<-x6,aG]
   rw [he] at Ns
   refine gn ?_
   exact ⟨(j+1,_,C8),⟨by omega,⟨ze,c8,rfl⟩,Ns⟩,sOZ,ar,_,aa⟩
  ·obtain rfl:j=g.length:=oZ
   rw [take_length] at hC
   refine gm ?_;intro b42
   refine gp ?_;intro sF c5 D5 hD5
   refine gn ?_
   refine ⟨(i+1,_,_,D5,V++C),⟨by omega,⟨sF,c5,rfl⟩,hD5, ?_⟩,sOZ,ar,_,aa⟩
   rw [iB bh,map_append,<-hg]
   exact hV.snoc (by rw [iP];exact hC)
 ·obtain rfl:i=N:=oZ
  rw [take_of_length_le oZ] at hV
  refine gc (Py qK _ c4 ws _ D V hD hV oZ) ?_
  rintro _ _ ⟨ws',D',V',rfl,eJ,Xu,rfl⟩
  rw [map_map] at Xu
  refine gz ?_
  exact fin ⟨qK,c4,ws',D',V',rfl,eJ,Xu,rfl⟩ aa
theorem PA (O:Chunk)(ad:Option Addr)(n c k:Nat)(l:List Pt)(hk:l.length=k)(hn:n=64*k)(hR:Rd O 1 (.slice ad n c) n (au (fL l)))(hc:n<=c)(hb:1<=k/\k<=16)(hp:∀x∈l,fK x=0/\x.Ok) :
  Ct 215 [.slice ad n c] [O] fun u Bs=>∃bz c' D,u = .tuple #[.slice bz k c',.int .i64 0]/\aC D 121 9 (.slice bz k c') k (aR l)/\Bs=[D,O]:=by
 subst hn
 have TJ:jV 64 (fL l)=l.map dB:=qL oZ bc l
 have hN:dh (64*k) 64=k:=pJ oZ oZ
 have hm0:(64*k) % 64=0:=oZ
 refine st func215 fun w0 => ?_
 refine gc (sJ O ad _ c 64 _ (by rw [iP,hk]) hR hc oZ oZ) ?_
 rintro _ _ ⟨iY,c1,vs,D0,V0,rfl,Gb,Ur,rfl⟩
 rw [hN] at Gb ⊢
 rw [TJ] at Ur
 have wC:=Gb.rd
 obtain ⟨g1,o1,rfl⟩:=wC.addr oZ
 refine gl [24,25] (fun ((i,v4,_):Nat×Value×Chunk)=>[(26,.int .i64 i),(4,v4)]) (fun (_,_,D)=>[D]) (fun (i,v4,D)=>i<=k/\(∃qK c4,v4 = .slice qK i c4)/\aC D 121 9 v4 i (aR (l.take i))) (fun (i,_)=>k - i) (0,.slice none 0 0,[]) ⟨by omega,⟨none,0,rfl⟩,aC.nil _ _⟩ ?_
 rintro ⟨i,v4,D⟩ ⟨hi,⟨qK,c4,rfl⟩,hD⟩
 refine gi ?_ ?_ <;> intro br
 ·have bh:i<l.length:=oZ
  obtain ⟨v,ZJ,yr⟩:=Ur.rd (i:=i) (by simpa using bh)
  rw [getElem_map] at yr
  obtain ⟨x,x6⟩:∃x,x=l[i]:=⟨_,rfl⟩
  rw [<-x6,bc] at yr
  obtain ⟨x8,ZF⟩:=hp x (by rw [x6];exact getElem_mem _)
  obtain ⟨kK,cv,rfl⟩:=yr.slice
  refine gc (wA V0 kK cv x x8 ZF yr) ?_
  rintro _ _ ⟨rfl,rfl⟩
  refine ga ?_;intro b7
  refine gm ?_;intro b39
  refine gp ?_;intro sF c5 D5 hD5
  refine gn ?_
  refine ⟨(i+1,_,D5),⟨by omega,⟨sF,c5,rfl⟩, ?_⟩,sOZ,ar,_,aa⟩
  rw [iB bh,<-x6]
  simpa [aR,Pt.lay] using hD5
 ·obtain rfl:i=k:=oZ
  rw [take_of_length_le oZ] at hD
  refine gz ?_
  exact fin ⟨qK,c4,D,rfl,hD,rfl⟩ aa
end Go.Proofs.YtpabnmeponmonaaGreatDoor
