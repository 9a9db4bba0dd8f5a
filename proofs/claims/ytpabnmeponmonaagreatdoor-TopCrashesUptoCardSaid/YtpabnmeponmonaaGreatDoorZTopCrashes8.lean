/-
  8.
-/
import Derived.Test.YtpabnmeponmonaaGreatDoorZTopCrashes7
set_option maxRecDepth 10000
set_option maxHeartbeats 4000000
open List Go.Proofs.Tryz Go.Sl
namespace Go.Sl
def xr (a b:List UInt8):List UInt8:=List.zipWith (· ^^^ ·) a b
def He:List UInt8:=replicate 128 0
theorem Et:He.length=128:=length_replicate
def lx (l:List (List UInt8)):List UInt8:=l.foldl xr He
section
variable {a b c:List UInt8}
theorem PR (ha:a.length=128)(hb:b.length=128):(xr a b).length=128:=by simp [xr,ha,hb]
theorem UF (a b:List UInt8):xr a b=xr b a:=by
 unfold xr
 exact zipWith_comm_of_comm fun x y=>UInt8.xor_comm x y
theorem PT (a b c:List UInt8):xr (xr a b) c=xr a (xr b c):=by
 induction a generalizing b c with
 | nil=>simp [xr]
 | cons x a ih =>
  cases b with
  | nil=>simp [xr]
  | cons y b =>
   cases c with
   | nil=>simp [xr]
   | cons z c =>
    have:=ih b c
    simp only [xr,zipWith_cons_cons] at this ⊢
    rw [this,UInt8.xor_assoc]
theorem Lx (a:List UInt8):xr a (replicate a.length 0)=a:=by
 induction a with
 | nil=>rfl
 | cons x a ih =>
  simp only [xr,zipWith_cons_cons,length_cons,replicate_succ] at ih ⊢
  rw [ih,UInt8.xor_zero]
theorem Js (ha:a.length=128):xr a He=a:=by
 have:=Lx a
 rwa [ha] at this
theorem UG (ha:a.length=128):xr He a=a:=by rw [UF,Js ha]
end
def sN (l:List (List UInt8)):Prop:=∀s∈l,s.length=128
theorem sN.take {l:List (List UInt8)}(h:sN l)(n:Nat):sN (l.take n):=fun s hs=>h s (mem_of_mem_take hs)
theorem sN.drop {l:List (List UInt8)}(h:sN l)(n:Nat):sN (l.drop n):=fun s hs=>h s (mem_of_mem_drop hs)
theorem sO:∀(l:List (List UInt8)) (z:List UInt8),sN l->z.length=128->l.foldl xr z=xr z (lx l)/\(l.foldl xr z).length=128
 | [],z,_,hz=>⟨(Js hz).symm,hz⟩
 | s :: l,z,h,hz=>by
  have hs:=h s (mem_cons_self ..)
  have hl:sN l:=fun t ht=>h t (mem_cons_of_mem _ ht)
  obtain ⟨h1,h2⟩:=sO l (xr z s) hl (PR hz hs)
  obtain ⟨h3,h4⟩:=sO l (xr He s) hl (PR Et hs)
  refine ⟨?_,h2⟩
  show l.foldl xr (xr z s)=xr z (l.foldl xr (xr He s))
  rw [h1,h3,UG hs,PT]
theorem Eu {l:List (List UInt8)}(h:sN l):(lx l).length=128:=(sO l He h Et).2
theorem Ly {s:List UInt8}{l:List (List UInt8)}:lx (l++[s])=xr (lx l) s:=by unfold lx;rw [foldl_append];rfl
def qT (w:Nat):Nat->List (List UInt8)->List (List UInt8)
 | 0,_=>[]
 | k+1,ds=>if ds=[] then [] else (lx (ds.take (w - 1)) :: ds.take (w - 1))++qT w k (ds.drop (w - 1))
def Hf (w:Nat)(ds:List (List UInt8)):List (List UInt8):=qT w ds.length ds
theorem Ew (w k:Nat):qT w k []=[]:=by cases k <;> simp [qT]
theorem Ex {w:Nat}(hw:2<=w):∀(k:Nat) (ds:List (List UInt8)),ds.length<=k->(qT w k ds).length=ds.length+(ds.length+(w - 2)) / (w - 1)
 | 0,ds,hk=>by
  have:ds=[]:=length_eq_zero_iff.1 oZ
  subst this
  simp only [qT,length_nil,Nat.zero_add]
  exact (Nat.div_eq_of_lt oZ).symm
 | k+1,ds,hk=>by
  rw [qT]
  split
  ·rename_i q;subst q
   simp only [length_nil,Nat.zero_add]
   exact (Nat.div_eq_of_lt oZ).symm
  ·rename_i q
   have Kx:0<ds.length:=length_pos_iff.2 q
   rw [length_append,length_cons,length_take,Ex hw k _ (by rw [length_drop];omega),length_drop]
   by_cases hl:w - 1<=ds.length
   ·rw [Nat.min_eq_left hl]
    have e:(ds.length+(w - 2)) / (w - 1)=(ds.length - (w - 1)+(w - 2)) / (w - 1)+1:=by
     rw [show ds.length+(w - 2)=(ds.length - (w - 1)+(w - 2))+(w - 1) by omega,Nat.add_div_right _ oZ]
    omega
   ·rw [Nat.min_eq_right oZ,show ds.length - (w - 1)=0 by omega,Nat.zero_add,Nat.div_eq_of_lt (show 0+(w - 2)<w - 1 by omega)]
    have:(ds.length+(w - 2)) / (w - 1)=1:=by
     rw [Nat.div_eq_iff oZ]
     constructor <;> omega
    omega
def fy (w:Nat):Nat->List (List UInt8)->List UInt8
 | _,[]=>[]
 | i,s :: l=>(if i % w=0 then [] else s)++fy w (i+1) l
theorem qU (w:Nat):∀(i:Nat) (a b:List (List UInt8)),fy w i (a++b)=fy w i a++fy w (i+a.length) b
 | i,[],b=>rfl
 | i,s :: a,b=>by
  rw [cons_append,fy,fy,qU w (i+1) a b,append_assoc,length_cons,Nat.add_right_comm,<-Nat.add_assoc]
theorem wK (w:Nat):∀(i:Nat) (l:List (List UInt8)),fy w (i+w) l=fy w i l
 | i,[]=>rfl
 | i,s :: l=>by
  rw [fy,fy,Nat.add_mod_right,show i+w+1=(i+1)+w by omega,wK w (i+1) l]
theorem Ey (w:Nat):∀(i:Nat) (l:List (List UInt8)),0<i % w->i % w+l.length<=w->fy w i l=l.flatten
 | i,[],_,_=>rfl
 | i,s :: l,hi,hl=>by
  rw [fy,if_neg oZ,flatten_cons]
  cases l with
  | nil=>rfl
  | cons t l =>
   have h1:i % w+1<w:=by simp only [length_cons] at hl;omega
   have h2:(i+1) % w=i % w+1:=by rw [Nat.add_mod,Nat.mod_eq_of_lt (show 1<w by omega),Nat.mod_eq_of_lt h1]
   rw [Ey w (i+1) (t :: l) oZ (by rw [h2];simp only [length_cons] at hl ⊢;omega)]
theorem Ez {w:Nat}(hw:2<=w):∀(k:Nat) (ds:List (List UInt8)),ds.length<=k->fy w 0 (qT w k ds)=ds.flatten
 | 0,ds,hk=>by
  have:ds=[]:=length_eq_zero_iff.1 oZ
  subst this;rfl
 | k+1,ds,hk=>by
  rw [qT]
  split
  ·rename_i q;subst q;rfl
  ·rw [qU,fy,if_pos (Nat.zero_mod w),nil_append,Nat.zero_add]
   have h1:(1:Nat) % w=1:=Nat.mod_eq_of_lt oZ
   rw [Ey w 1 _ oZ (by rw [h1,length_take];omega)]
   by_cases hl:w - 1<=ds.length
   ·have hlen:(lx (ds.take (w - 1)) :: ds.take (w - 1)).length=w:=by rw [length_cons,length_take];omega
    rw [Nat.zero_add,hlen]
    have:=wK w 0 (qT w k (ds.drop (w - 1)))
    rw [Nat.zero_add] at this
    rw [this,Ez hw k _ (by rw [length_drop];omega),<-flatten_append,take_append_drop]
   ·rw [drop_of_length_le oZ,Ew,fy,append_nil,take_of_length_le oZ]
def l9 {α β:Type}(P:α->β->Prop)(al:List α)(bl:List β):Prop:=al.length=bl.length/\∀(i:Nat) (a:α) (b:β),al[i]? = some a->bl[i]? = some b->P a b
section
variable {α β:Type}{P Q:α->β->Prop}{al al2:List α}{bl bl2:List β}{a:α}{b:β}
theorem l9.nil:l9 P [] []:=⟨rfl,fun i a b h=>by simp at h⟩
theorem l9.imp (h:l9 P al bl)(k:∀a b,P a b->Q a b):l9 Q al bl:=⟨h.1,fun i a b h1 h2=>k a b (h.2 i a b h1 h2)⟩
theorem l9.snoc (h:l9 P al bl)(k:P a b):l9 P (al++[a]) (bl++[b]):=by
 refine ⟨by simp [h.1],fun i x y h1 h2 => ?_⟩
 have hl:=h.1
 by_cases hi:i<al.length
 ·rw [getElem?_append_left hi] at h1
  rw [getElem?_append_left oZ] at h2
  exact h.2 i x y h1 h2
 ·rw [getElem?_append_right oZ] at h1
  rw [getElem?_append_right oZ] at h2
  have Ta:i - al.length=0:=by have:=(List.getElem?_eq_some_iff.1 h1).1;simp at this;omega
  rw [Ta] at h1
  rw [show i - bl.length=0 by omega] at h2
  simp at h1 h2
  rw [<-h1,<-h2];exact k
theorem l9.get (h:l9 P al bl){i:Nat}(hi:i<al.length):∃a b,al[i]? = some a/\bl[i]? = some b/\P a b:=by
 have hl:=h.1
 have h1:=getElem?_eq_getElem hi
 have h2:=getElem?_eq_getElem (show i<bl.length by omega)
 exact ⟨_,_,h1,h2,h.2 i _ _ h1 h2⟩
end
theorem Jt:∀ {a b:List UInt8},a.length=b.length->ni a b=xr a b
 | [],[],_=>rfl
 | x :: a,y :: b,h=>by
  have ih:=Jt (a:=a) (b:=b) (by simpa using h)
  simp only [ni,xr,zipWith_cons_cons] at ih ⊢
  rw [ih]
 | [],_ :: _,h=>by simp at h
 | _ :: _,[],h=>by simp at h
def wM (D:Chunk)(v:Value)(s:List UInt8):Prop:=s.length=128/\Rd D 1 v 128 (au s)/\∃ad c,v = .slice ad 128 c/\128<=c
theorem wM.sub {D E:Chunk}{v:Value}{s:List UInt8}(h:wM D v s)(hs:∀x∈D,x∈E):wM E v s:=⟨h.1,h.2.1.sub hs,h.2.2⟩
theorem wM.addr {D:Chunk}{v:Value}{s:List UInt8}(h:wM D v s):∃g off c,v = .slice (some ⟨g,off,none⟩) 128 c/\128<=c:=by
 obtain ⟨h1,h2,ad,c,rfl,hc⟩:=h
 obtain ⟨g,off,rfl⟩:=h2.addr oZ
 exact ⟨g,off,c,rfl,hc⟩
def ff (D:Chunk)(vs:List Value)(ss:List (List UInt8)):Prop:=l9 (wM D) vs ss
section
variable {D E:Chunk}{vs us:List Value}{ss ts:List (List UInt8)}
theorem ff.sK (h:ff D vs ss):sN ss:=fun s hs=>by
 obtain ⟨i,hi,rfl⟩:=mem_iff_getElem.1 hs
 obtain ⟨v,b,h1,h2,h3⟩:=l9.get h (i:=i) (by rw [h.1];exact hi)
 rw [getElem?_eq_getElem hi] at h2
 cases h2;exact h3.1
theorem ff.sub (h:ff D vs ss)(hs:∀x∈D,x∈E):ff E vs ss:=h.imp fun _ _ q=>q.sub hs
theorem ff.at (h:ff D vs ss){i:Nat}(hi:i<ss.length):∃v,vs[i]? = some v/\wM D v ss[i]:=by
 obtain ⟨v,b,h1,h2,h3⟩:=l9.get h (i:=i) (by rw [h.1];exact hi)
 rw [getElem?_eq_getElem hi] at h2
 cases h2;exact ⟨v,h1,h3⟩
theorem ff.app (h:ff D vs ss)(k:ff D us ts):ff D (vs++us) (ss++ts):=by
 refine ⟨by rw [length_append,length_append,h.1,k.1],fun i a b h1 h2 => ?_⟩
 by_cases hi:i<vs.length
 ·rw [getElem?_append_left hi] at h1
  rw [getElem?_append_left (by rw [<-h.1];exact hi)] at h2
  exact h.2 i a b h1 h2
 ·rw [getElem?_append_right oZ] at h1
  rw [getElem?_append_right (by rw [<-h.1];omega),<-h.1] at h2
  exact k.2 _ a b h1 h2
end
theorem Lz (wd:Nat)(kf:Nat)(ds:List (List UInt8))(h:ds≠[])(hk:ds.length<=kf)(hw:2<=wd):∃kf',qT wd kf ds=(lx (ds.take (wd - 1)) :: ds.take (wd - 1))++qT wd kf' (ds.drop (wd - 1))/\(ds.drop (wd - 1)).length<=kf':=by
 cases kf with
 | zero=>exact absurd (length_eq_zero_iff.1 oZ) h
 | succ kf =>
  refine ⟨kf,by rw [qT,if_neg h], ?_⟩
  have:=length_pos_iff.2 h
  rw [length_drop];omega
theorem EA:∀(k:Nat) (l:List UInt8) (i:Nat),i<k->(tV k l)[i]? = some ((l.drop (i*128)).take 128)
 | k+1,l,0,_=>by simp [tV]
 | k+1,l,i+1,h=>by
  rw [tV,getElem?_cons_succ,EA k _ i oZ,drop_drop,show 128+i*128=(i+1)*128 by omega]
def jy (w:Nat)(b:List UInt8):List eE:=Hf w (lr b)
def dU (w n:Nat):Nat:=aF n+(aF n+(w - 2)) / (w - 1)
theorem Hg (b:List UInt8):sN (lr b):=(lu b).1
theorem qV {w:Nat}(hw:2<=w)(b:List UInt8):(jy w b).length=dU w b.length:=by
 unfold jy Hf dU
 rw [Ex hw _ _ (Nat.le_refl _),iC]
theorem EB {w:Nat}(hw:2<=w)(b:List UInt8):fy w 0 (jy w b)=j5 b:=by
 unfold jy Hf
 rw [Ez hw _ _ (Nat.le_refl _),(lu b).2]
theorem nB {w n:Nat}(hw:3<=w)(hn:1<=n/\n<=1024):2<=dU w n/\dU w n<=12/\aF n<=dU w n:=by
 have h1:1<=aF n/\aF n<=8:=by unfold aF;omega
 unfold dU
 have h2:1<=(aF n+(w - 2)) / (w - 1):=by rw [Nat.le_div_iff_mul_le oZ];omega
 have h3:(aF n+(w - 2)) / (w - 1)<=(aF n+1) / 2:=by
  rw [Nat.div_le_iff_le_mul_add_pred oZ]
  obtain ⟨v,rfl⟩:∃v,w=v+3:=⟨w - 3,by omega⟩
  have:(v+3 - 1)*((aF n+1) / 2)=2*((aF n+1) / 2)+v*((aF n+1) / 2):=by rw [show v+3 - 1=2+v by omega,Nat.add_mul]
  rcases Nat.eq_zero_or_pos v with rfl | hv
  ·omega
  ·have h4:1<=(aF n+1) / 2:=oZ
   have h5:(aF n+1) / 2<=v*((aF n+1) / 2):=Nat.le_mul_of_pos_left _ hv
   have h6:v<=v*((aF n+1) / 2):=Nat.le_mul_of_pos_right _ h4
   omega
 omega
def oN (ls:List (Option Lv))(at_:Nat)(b:List UInt8)(k:Nat):List Ev:=match ls[(at_+k) % ls.length]?,(jy ls.length b)[k]? with
 | some (some x),some s=>gG x.i (274+(at_+k) / ls.length) [s]
 | _,_=>[]
theorem EC (ls:List (Option Lv))(at_:Nat)(b:List UInt8)(k:Nat):(oN ls at_ b k).length<=1:=by
 unfold oN;split
 ·rw [eT];simp
 ·simp
theorem PU (n:Nat):replicate n (Value.int .u8 0)=au (replicate n 0):=by simp [au]
end Go.Sl
namespace Go.Proofs.YtpabnmeponmonaaGreatDoor
abbrev uz (vl vk:Value)(sz:Int):Obj:=ax [vl,vk,.int .i64 sz] 260
def LB (m:Nat)(ls:List (Option Lv))(sz:Nat)(M:Chunk):Prop:=∃ad c Cv g,
 aC Cv 110 1 (.slice ad ls.length c) ls.length (ls.map iQ) /\
 M=[(m,uz (.slice ad ls.length c) (.slice (some ⟨g,0,none⟩) ls.length ls.length) sz)]++(Cv++[(g,ax (replicate ls.length (.pointer none)) 404)])
theorem acj (V D:Chunk)(v:Value)(n:Nat)(vs:List Value)(ss:List (List UInt8))(hV:Rd V 1 v n vs)(hn:ss.length=n)(hD:ff D vs ss)(hl:n<=1000) :
  Ct 342 [v] [V,D] fun u Bs=>∃g,u = .slice (some ⟨g,0,none⟩) 128 128/\Bs=[[(g,ax (au (lx ss)) 5)],V,D]:=by
 obtain ⟨ad,c,rfl⟩:=hV.slice
 have Jq:=hD.sK
 refine st func342 fun w0 => ?_
 refine gm ?_;intro g8
 rw [show replicate 128 (Value.int .u8 0)=au (lx (ss.take 0)) from PU 128]
 refine gl [3,9,10] (fun i:Nat=>[(11,.int .i64 i)]) (fun i=>[[(g8,ax (au (lx (ss.take i))) 5)]]) (fun i=>i<=n) (fun i=>n - i) 0 oZ ?_
 rintro i hi
 refine gi ?_ ?_ <;> intro br
 ·have bh:i<ss.length:=oZ
  obtain ⟨vi,ZJ,Gg⟩:=hD.at bh
  obtain ⟨g,off,rfl⟩:=hV.addr oZ
  obtain ⟨gs_,os,cs,rfl,N1⟩:=Gg.addr
  obtain ⟨sx,hsx⟩:∃sx,sx=ss[i]:=⟨_,rfl⟩
  rw [<-hsx] at Gg
  have fS:=Gg.1
  have XA:=Gg.2.1
  obtain ⟨X,hX⟩:∃X,X=lx (ss.take i):=⟨_,rfl⟩
  have hXl:X.length=128:=by rw [hX];exact Eu (Jq.take i)
  have zh:lx (ss.take (i+1))=ni X sx:=by rw [<-take_append_getElem bh,Ly,<-hX,<-hsx,Jt oZ]
  rw [<-hX,show au X=au (ni X (sx.take 0)) by rw [take_zero,Oe]]
  refine gl [3,9,10,11,15,16] (fun j:Nat=>[(17,.int .i64 j)]) (fun j=>[[(g8,ax (au (ni X (sx.take j))) 5)]]) (fun j=>j<=128) (fun j=>128 - j) 0 oZ ?_
  rintro j hj
  refine gi ?_ ?_ <;> intro qI
  ·have pC:j<128:=oZ
   obtain ⟨q,hq⟩:=eC (l:=sx) (i:=j) oZ
   obtain ⟨y,hy⟩:=eC (l:=X) (i:=j) oZ
   have hyi:(ni X (sx.take j))[j]? = some y:=by rw [nU _ _ _ (by rw [length_take];omega)];exact hy
   have Cq:=aei y q
   have hlen:(au (ni X (sx.take j))).length=128:=by rw [aq,iL];omega
   have bB:=Ky hy hq
   refine gn ?_
   rw [Up,bB]
   exact ⟨j+1,by omega,by omega,ar,_,aa⟩
  ·obtain rfl:j=128:=oZ
   rw [take_of_length_le oZ,<-zh]
   refine gn ?_
   exact ⟨i+1,by omega,by omega,ar,_,aa⟩
 ·obtain rfl:i=n:=oZ
  rw [<-hn,take_length]
  refine gz ?_
  exact fin ⟨g8,rfl,rfl⟩ aa
theorem kL (m:Nat)(ad:Option Addr)(w c:Nat)(vk:Value)(z:Int):Ct 332 [ptr m] [[(m,uz (.slice ad w c) vk z)]] fun u Bs=>u = .int .i64 w/\Bs=[[(m,uz (.slice ad w c) vk z)]]:=by
 refine st func332 fun w0 => ?_
 refine gz ?_
 exact fin ⟨rfl,rfl⟩ aa
theorem ZS (a b:Nat)(hb:1<=b/\b<=1000)(ha:a<=1000000):Ct 331 [.int .i64 a,.int .i64 b] [] fun u Bs=>u = .int .i64 ((a+b - 1) / b:Nat)/\Bs=[]:=by
 have h1:IntKind.i64.wrap ((a:Int)+b)=((a+b:Nat):Int):=by rw [IntWalk.i64_in _ oZ];omega
 have hd:=Xo (x:=a+b - 1) (y:=b) oZ
 refine st func331 fun w0 => ?_
 refine gz ?_
 exact fin ⟨rfl,rfl⟩ aa
theorem AS (m:Nat)(ad:Option Addr)(w c:Nat)(vk:Value)(z:Int)(hw:3<=w/\w<=5)(b:Nat)(hb:1<=b/\b<=1024):Ct 325 [ptr m,.int .i64 b] [[(m,uz (.slice ad w c) vk z)]] fun u Bs=>u = .int .i64 (dU w b)/\Bs=[[(m,uz (.slice ad w c) vk z)]]:=by
 have h8:(b+128 - 1) / 128=aF b:=by unfold aF;omega
 have hs:aF b<=8:=by unfold aF;omega
 have h1:=ZS b 128 oZ oZ
 rw [h8] at h1
 have h2:=ZS (aF b) (w - 1) oZ oZ
 rw [show aF b+(w - 1) - 1=aF b+(w - 2) by omega] at h2
 obtain ⟨q,hq⟩:∃q,q=(aF b+(w - 2)) / (w - 1):=⟨_,rfl⟩
 have hq2:q<=100:=by rw [hq];exact Nat.le_trans (Nat.div_le_self ..) oZ
 rw [<-hq] at h2
 have he:dU w b=aF b+q:=by rw [dU,hq]
 rw [he]
 refine st func325 fun w0 => ?_
 refine gc h1 ?_
 rintro _ _ ⟨rfl,rfl⟩
 refine gc (kL m ad w c vk z) ?_
 rintro _ _ ⟨rfl,rfl⟩
 refine gc h2 ?_
 rintro _ _ ⟨rfl,rfl⟩
 have ha:IntKind.i64.wrap ((aF b:Int)+q)=((aF b+q:Nat):Int):=by rw [IntWalk.i64_in _ oZ];omega
 refine gz ?_
 exact fin ⟨rfl,rfl⟩ aa
theorem Ju (m:Nat)(ad:Option Addr)(w c:Nat)(vk:Value)(z:Nat)(hw:3<=w/\w<=5)(hz:z<=10000):Ct 327 [ptr m] [[(m,uz (.slice ad w c) vk z)]] fun u Bs=>u = .int .i64 ((w*z:Nat):Int)/\Bs=[[(m,uz (.slice ad w c) vk z)]]:=by
 have ZT:w*z<=50000:=Nat.mul_le_mul hw.2 hz
 have hm:IntKind.i64.wrap ((w:Int)*z)=((w*z:Nat):Int):=by rw [<-Int.natCast_mul,IntWalk.i64_in _ oZ]
 refine st func327 fun w0 => ?_
 refine gd [0,8,12,16,20,5,24,28] ?_
 refine gc (kL m ad w c vk z) ?_
 rintro _ _ ⟨rfl,rfl⟩
 refine gz ?_
 exact fin ⟨rfl,rfl⟩ aa
theorem Jv (m:Nat)(ad:Option Addr)(w c:Nat)(vk:Value)(z:Nat)(hw:3<=w/\w<=5)(hz:z<=10000)(at_ b:Nat)(hb:1<=b/\b<=1024)(hf:at_+dU w b<=w*z):Ct 336 [ptr m,.int .i64 at_,.int .i64 b] [[(m,uz (.slice ad w c) vk z)]] fun u Bs=>u = .bool true/\Bs=[[(m,uz (.slice ad w c) vk z)]]:=by
 have ZT:w*z<=50000:=Nat.mul_le_mul hw.2 hz
 have XC:=nB hw.1 hb
 have hs:=Ju m ad w c vk z hw hz
 generalize w*z=S at *
 refine st func336 fun w0 => ?_
 refine gc (AS m ad w c vk z hw b hb) ?_
 rintro _ _ ⟨rfl,rfl⟩
 refine gc hs ?_
 rintro _ _ ⟨rfl,rfl⟩
 refine gc hs ?_
 rintro _ _ ⟨rfl,rfl⟩
 have jv:IntKind.i64.wrap ((S:Int) - at_)=((S - at_:Nat):Int):=by rw [IntWalk.i64_in _ oZ];omega
 refine gz ?_
 rw [decide_eq_true oZ]
 exact fin ⟨rfl,rfl⟩ aa
theorem LC (m:Nat)(ad:Option Addr)(w c:Nat)(vk:Value)(z:Int)(hw:3<=w/\w<=5)(b:List UInt8)(n:Nat)(hb:b.length=n)(hn:1<=n/\n<=1024)(O:Chunk)(v:Value)(hO:Rd O 1 v n (au b)) :
  Ct 337 [ptr m,v] [[(m,uz (.slice ad w c) vk z)],O] fun u Bs=>∃Co D vs,aC Co 34 1 u (jy w b).length vs/\ff D vs (jy w b)/\Bs=[Co,D,[(m,uz (.slice ad w c) vk z)],O]:=by
 subst hb
 obtain ⟨mJ,cb,rfl⟩:=hO.slice
 obtain ⟨k,hk⟩:∃k,k=aF b.length:=⟨_,rfl⟩
 have XD:1<=k/\k<=8/\b.length<=k*128:=by rw [hk];unfold aF;omega
 have h8:(b.length+128 - 1) / 128=k:=by rw [hk];unfold aF;omega
 have h1:=ZS b.length 128 oZ oZ
 rw [h8] at h1
 obtain ⟨pb,hpb⟩:∃pb,pb=j5 b:=⟨_,rfl⟩
 have mU:pb.length=k*128:=by rw [hpb,wJ,hk]
 obtain ⟨ds,zf⟩:∃ds,ds=lr b:=⟨_,rfl⟩
 have ny:ds.length=k:=by rw [zf,iC,hk]
 have aeZ:∀i (h:i<k),ds[i]'oZ=(pb.drop (i*128)).take 128:=fun i h=>by
  have:=EA k pb i h
  have e:ds[i]? = (tV k pb)[i]?:=by rw [zf,hpb,hk];rfl
  rw [this,getElem?_eq_getElem oZ] at e
  exact Option.some.inj e
 have ack:sN ds:=by rw [zf];exact Hg b
 have pL:jy w b=Hf w ds:=by rw [jy,zf]
 rw [pL]
 refine st func337 fun w0 => ?_
 refine gc h1 ?_
 rintro _ _ ⟨rfl,rfl⟩
 refine gm ?_;intro g
 have Ek:(replicate (k*128) (Value.int .u8 0)).take 0++(au b).take (min b.length (k*128))++(replicate (k*128) (Value.int .u8 0)).drop (0+min b.length (k*128))=au pb:=by
  rw [Nat.min_eq_left XD.2.2,take_zero,nil_append,take_of_length_le (by rw [aq];omega),Nat.zero_add,drop_replicate,hpb,j5,aG,<-hk]
  simp [au]
 refine gy ?_
 refine gl [0] (fun ((p,_,_,_,_,vo,_,XE,ca):Nat×List eE×Nat×Chunk×Chunk×Value×List Value×Option Addr×Nat)=>[(5,.slice XE (k*128 - p*128) ca),(6,vo)]) (fun (_,_,_,Co,D,_,_,_,_)=>[Co,D]) (fun (p,acc,kf,Co,D,vo,vs,XE,ca)=>p<=k/\Hf w ds=acc++qT w kf (ds.drop p)/\(ds.drop p).length<=kf/\acc.length<=2*p/\aC Co 34 1 vo acc.length vs/\ff D vs acc/\k*128 - p*128<=ca/\Rd D 1 (.slice XE (k*128 - p*128) ca) (k*128 - p*128) (au (pb.drop (p*128)))) (fun (p,_)=>k - p) (0,[],k,[],[(g,ax (au pb) 5)],.slice none 0 0,[],some ⟨g,0,none⟩,k*128) ⟨by omega,by rw [drop_zero,nil_append,Hf,ny],by rw [drop_zero];omega,by simp,aC.nil _ _,l9.nil,by omega,by rw [Nat.zero_mul,drop_zero,Nat.sub_zero];exact ay (T:=5) (by rw [aq];omega) (aP _) oZ _⟩ ?_
 rintro ⟨p,acc,kf,Co,D,vo,vs,XE,ca⟩ ⟨Gc,acm,hkf,agP,hCo,hD,hca,hR⟩
 refine gi ?_ ?_ <;> intro br
 ·have agQ:p<k:=oZ
  have UH:(ds.drop p).length=k - p:=by rw [length_drop,ny]
  refine gl [0,6] (fun ((j,_,vr,_,PV,ZU):Nat×Chunk×Value×List Value×Option Addr×Nat)=>[(5,.slice PV (k*128 - (p+j)*128) ZU),(7,vr)]) (fun (_,Cr,_)=>[Cr,D]) (fun (j,Cr,vr,vrs,PV,ZU)=>j<=w - 1/\p+j<=k/\aC Cr 34 1 vr j vrs/\ff D vrs ((ds.drop p).take j)/\k*128 - (p+j)*128<=ZU/\Rd D 1 (.slice PV (k*128 - (p+j)*128) ZU) (k*128 - (p+j)*128) (au (pb.drop ((p+j)*128)))) (fun (j,_)=>w - 1 - j) (0,[],.slice none 0 0,[],XE,ca) ⟨by omega,by omega,aC.nil _ _,l9.nil,hca,hR⟩ ?_
  rintro ⟨j,Cr,vr,vrs,PV,ZU⟩ ⟨hj,hpj,Gf,hVr,ae0,kY⟩
  obtain ⟨adr,cr,rfl⟩:=Gf.slice
  by_cases ED:j<w - 1/\p+j<k
  ·obtain ⟨hjw,ae1⟩:=ED
   refine gc (kL m ad w c vk z) ?_
   rintro _ _ ⟨rfl,rfl⟩
   have qc:((au (pb.drop ((p+j)*128))).drop (0*1)).take ((128 - 0)*1)=au ((pb.drop ((p+j)*128)).take 128):=by rw [Nat.zero_mul,drop_zero,aQ]
   have hn0:128 - 0=128:=rfl
   have ZV:((au (pb.drop ((p+j)*128))).drop (128*1)).take ((k*128 - (p+j)*128 - 128)*1)=au (pb.drop ((p+(j+1))*128)):=by
    rw [bo,drop_drop,take_of_length_le (by rw [aq,length_drop];omega)];congr 2;omega
   have Nw:k*128 - (p+j)*128 - 128=k*128 - (p+(j+1))*128:=oZ
   refine gw ?_;intro ia DV
   have Gg:wM D (.slice ia 128 (128 - 0)) (ds[p+j]'oZ):=by
    rw [aeZ _ ae1]
    exact ⟨by rw [length_take,length_drop];omega,DV,_,_,rfl,Nat.le_refl _⟩
   refine gm ?_;intro b33
   refine gp ?_;intro qK c4 C4 hC4
   refine gw ?_;intro sF hR5
   have e0:(ds.drop p).take (j+1)=(ds.drop p).take j++[ds[p+j]'oZ]:=by
    have pC:j<(ds.drop p).length:=oZ
    rw [<-take_append_getElem pC,getElem_drop]
   refine gn ?_
   exact ⟨(j+1,C4,_,_,sF,ZU - 128),⟨by omega,by omega,hC4,by rw [e0];exact l9.snoc hVr Gg,by omega,hR5⟩,sOZ,ar,_,aa⟩
  ·have ae2:vrs.length=((ds.drop p).take j).length:=hVr.1
   have acn:(ds.drop p).take j=(ds.drop p).take (w - 1):=by
    by_cases q:j=w - 1
    ·rw [q]
    ·rw [take_of_length_le oZ,take_of_length_le oZ]
   have ph:ds.drop (p+j)=(ds.drop p).drop (w - 1):=by
    rw [<-drop_drop]
    by_cases q:j=w - 1
    ·rw [q]
    ·rw [drop_of_length_le oZ,drop_of_length_le oZ]
   rw [length_take,UH,Nat.min_eq_left oZ] at ae2
   have hj1:1<=j:=oZ
   obtain ⟨kf',hm1,KD⟩:=Lz w kf (ds.drop p) (fun q=>by rw [q] at UH;simp at UH;omega) hkf oZ
   obtain ⟨Jw,co,rfl⟩:=hCo.slice
   have Lb:((ds.drop p).take j).length=j:=by rw [length_take,UH];omega
   have hx:=acj Cr D _ j vrs _ Gf.rd Lb hVr oZ
   obtain ⟨row,hrw⟩:∃row,row=(ds.drop p).take j:=⟨_,rfl⟩
   rw [<-hrw] at hx hVr acn Lb
   have hrs:sN row:=by rw [hrw];exact (ack.drop p).take j
   have Gh:=Eu hrs
   have agR:aC Cr 34 1 (.slice adr j cr) j vrs:=Gf
   rcases (show w - 1<=j\/(j<w - 1/\k<=p+j) by omega) with hg1 | hg1
   all_goals
    refine gc (kL m ad w c vk z) ?_
    rintro _ _ ⟨rfl,rfl⟩
    refine gc hx ?_
    rintro _ _ ⟨gx,rfl,rfl⟩
    refine gm ?_;intro b40
    refine gp ?_;intro agS c41 C41 agT
    have agU:=Gf.rd
    refine gp ?_;intro agV c43 C43 ae3
    have hsx:wM (D++[(gx,ax (au (lx row)) 5)]) (.slice (some ⟨gx,0,none⟩) 128 128) (lx row):=⟨Gh,(ay (T:=5) (by rw [aq,Gh]) (aP _) oZ _).sub fun q hq=>mem_append_right _ hq,_,_,rfl,Nat.le_refl _⟩
    have h2:=l9.snoc (hD.sub (E:=D++[(gx,ax (au (lx row)) 5)]) fun q hq=>mem_append_left _ hq) hsx
    have h3:=ff.app h2 (hVr.sub (E:=D++[(gx,ax (au (lx row)) 5)]) fun q hq=>mem_append_left _ hq)
    rw [append_assoc acc] at h3
    have hlen:(acc++([lx row]++row)).length=acc.length+1+j:=by rw [length_append,length_append,Lb];simp;omega
    refine gn ?_
    refine ⟨(p+j,acc++([lx row]++row),kf',C43,D++[(gx,ax (au (lx row)) 5)],_,_,PV,ZU),⟨by omega, ?_,by rw [ph];exact KD,by omega,by rw [hlen];exact ae3,h3,ae0,kY.sub fun q hq=>mem_append_left _ hq⟩,sOZ,ar,_,aa⟩
    rw [acm,hm1,<-acn,ph,append_assoc];rfl
 ·obtain rfl:p=k:=oZ
  have qB:Hf w ds=acc:=by rw [acm,drop_of_length_le oZ,Ew,append_nil]
  rw [qB]
  refine gz ?_
  exact fin ⟨Co,D,vs,hCo,hD,rfl⟩ aa
section
variable (p:Nat)(qs:List Nat)(m n:Nat)(ls:List (Option Lv))(mk:Nat->fj)(hn:324<=n/\n<=8192)(gH:3<=ls.length/\ls.length<=5)
include hn gH
omit hn in
theorem XF (c:Nat)(ad:Option Addr)(vk:Value)(z:Int)(Cv:Chunk)(pN:aC Cv 110 1 (.slice ad ls.length c) ls.length (ls.map iQ))(i:Nat)(hi:i<=1000000)(x:Option Lv)(hx:ls[i % ls.length]? = some x) :
  Ct 343 [ptr m,.int .i64 i] [[(m,uz (.slice ad ls.length c) vk z)],Cv] fun u Bs=>u = .tuple #[iQ x,.int .i64 (i % ls.length:Nat),.int .i64 (i / ls.length:Nat)]/\Bs=[[(m,uz (.slice ad ls.length c) vk z)],Cv]:=by
 have Gf:=pN.rd
 obtain ⟨ZR,off,rfl⟩:=Gf.addr oZ
 have bX:(ls.map iQ)[i % ls.length]? = some (iQ x):=by rw [getElem?_map,hx];rfl
 have PW:=Nat.mod_lt i (show 0<ls.length by omega)
 refine st func343 fun w0 => ?_
 refine gd [0,4,8,12,16,20,40,44,56,60,25,28,32,36,49,52,65,68,72,76,80] ?_
 refine gc (kL m _ ls.length c vk z) ?_
 rintro _ _ ⟨rfl,rfl⟩
 refine gc (kL m _ ls.length c vk z) ?_
 rintro _ _ ⟨rfl,rfl⟩
 refine gc (kL m _ ls.length c vk z) ?_
 rintro _ _ ⟨rfl,rfl⟩
 refine gz ?_
 exact fin ⟨rfl,rfl⟩ aa
theorem LD (c:Nat)(ad:Option Addr)(vk:Value)(z:Int)(Cv:Chunk)(pN:aC Cv 110 1 (.slice ad ls.length c) ls.length (ls.map iQ))(R:Rk)(C L:Chunk)(hC:bj p qs R C)(hL:iR mk 0 ls L)(ho:dE qs R n ls)
  (i:Nat) (hi:i / ls.length+293<=n) (Ta:i<=1000000) (x:Lv) (hx:ls[i % ls.length]? = some (some x)) (D:Chunk) (v:Value) (s:eE) (hs:wM D v s) (hw:R.ws.length+1<=900000000000) :
  Ct 338 [ptr m,.int .i64 i,v] [C,[(m,uz (.slice ad ls.length c) vk z)],Cv,L,D] fun u Bs=>∃C',u = .int .i64 (if (R.run (gG x.i (274+i / ls.length) [s])).off then 5 else 0)/\bj p qs (R.run (gG x.i (274+i / ls.length) [s])) C'/\Bs=[C',[(m,uz (.slice ad ls.length c) vk z)],Cv,L,D]:=by
 obtain ⟨o1,o2,o3⟩:=ho x (mem_of_getElem? hx)
 obtain ⟨A,L1,B,qS,rfl⟩:=hL.at hx
 obtain ⟨fS,XA,ad2,c2,rfl,XG⟩:=hs
 have mX:=zg p qs _ C hC x.i x.q n x.a _ L1 qS o1 o2 o3 hn (i / ls.length) 1 [s] D ad2 c2 (by simp [fS]) rfl oZ (by simpa using XA) oZ oZ
 refine st func338 fun w0 => ?_
 refine gs ?_
 refine gc (XF m ls gH c ad vk z Cv pN i Ta (some x) hx) ?_
 rintro _ _ ⟨rfl,rfl⟩
 refine gc mX ?_
 rintro _ _ ⟨C',rfl,bF,rfl⟩
 refine gz ?_
 exact fin ⟨C',rfl,bF,rfl⟩ aa
theorem PX (R:Rk)(C M L:Chunk)(hC:bj p qs R C)(hM:LB m ls (n - 292) M)(hL:iR mk 0 ls L)(ho:dE qs R n ls)(hall:∀x∈ls,x≠none)
  (at_ ae:Nat) (b:List UInt8) (k:Nat) (hk:b.length=k) (hb:1<=k/\k<=1024) (hf:at_+dU ls.length k<=ls.length*(n - 292)) (ht:1<=ae/\ae<=281474976710656) (O:Chunk) (v:Value) (hO:Rd O 1 v k (au b)) (hw:R.ws.length+40<=900000000000) :
  Ct 328 [ptr m,.int .i64 at_,v,.int .u64 ae] [C,M,L,O] fun u Bs=>∃C',u = .int .i64 (if (R.run (upto (oN ls at_ b) (dU ls.length k))).off then 5 else 0)/\bj p qs (R.run (upto (oN ls at_ b) (dU ls.length k))) C'/\Bs=[C',M,L,O]:=by
 obtain ⟨ad,c,Cv,g,pN,rfl⟩:=hM
 have XC:=nB gH.1 hb
 have yu:=qV (w:=ls.length) oZ b
 rw [hk] at yu
 obtain ⟨w,kA⟩:∃w,w=ls.length:=⟨_,rfl⟩
 rw [<-kA] at gH hf XC yu
 have hwn:w*(n - 292)<=50000:=Nat.mul_le_mul gH.2 (show n - 292<=10000 by omega)
 obtain ⟨kK,cv,rfl⟩:=hO.slice
 have Gf:=pN.rd
 obtain ⟨ZR,off,rfl⟩:=Gf.addr oZ
 have bJ:=Jv m (some ⟨ZR,off,none⟩) w c (.slice (some ⟨g,0,none⟩) w w) (n - 292) gH oZ at_ k hb hf
 have pL:=LC m (some ⟨ZR,off,none⟩) w c (.slice (some ⟨g,0,none⟩) w w) ((n - 292:Nat):Int) gH b k hk hb O _ hO
 rw [yu] at pL
 obtain ⟨N,hN⟩:∃N,N=dU w k:=⟨_,rfl⟩
 rw [<-hN] at hf XC yu pL
 rw [<-kA,<-hN]
 refine st func328 fun w0 => ?_
 refine gs ?_
 refine gc bJ ?_
 rintro _ _ ⟨rfl,rfl⟩
 refine vY .i64 ?_;intro mr Cm ZW
 refine gc pL ?_
 rintro vo _ ⟨Co,D,vs,hCo,hD,rfl⟩
 obtain ⟨Jw,co,rfl⟩:=hCo.slice
 have ae4:=hCo.rd
 obtain ⟨go_,oo,rfl⟩:=ae4.addr oZ
 refine gl [0,1,2,3,9,30,31] (fun ((j,_):Nat×Chunk)=>[(32,.int .i64 j)]) (fun (_,C)=>[C]) (fun (j,C)=>j<=N/\bj p qs (R.run (upto (oN ls at_ b) j)) C/\(0<j->(R.run (upto (oN ls at_ b) j)).off=false)) (fun (j,_)=>N - j) (0,C) ⟨by omega,hC,fun h0=>absurd h0 oZ⟩ ?_
 rintro ⟨j,C⟩ ⟨hj,hC,jx⟩
 refine gi ?_ ?_ <;> intro br
 ·have hjN:j<(jy w b).length:=oZ
  obtain ⟨vj,hvj,Gg⟩:=(kA ▸ hD:ff D vs (jy w b)).at hjN
  have PW:=Nat.mod_lt (at_+j) (show 0<w by omega)
  obtain ⟨ox,hx⟩:=eC (l:=ls) (i:=(at_+j) % w) oZ
  rcases ox with _ | x
  ·exact absurd rfl (hall _ (mem_of_getElem? hx))
  have sM:=Rk.eS R (upto (oN ls at_ b) j)
  have Ao:=bY (EC ls at_ b) j
  have hdiv:(at_+j) / w+293<=n:=by
   have:(at_+j) / w<n - 292:=by rw [Nat.div_lt_iff_lt_mul oZ,Nat.mul_comm];omega
   omega
  have hpf:oN ls at_ b j=gG x.i (274+(at_+j) / w) [(jy w b)[j]]:=by unfold oN;rw [<-kA,hx,getElem?_eq_getElem hjN]
  have mX:=LD p qs m n ls mk hn oZ c (some ⟨ZR,off,none⟩) (.slice (some ⟨g,0,none⟩) w w) ((n - 292:Nat):Int) Cv pN _ C L hC hL (ho.run (upto (oN ls at_ b) j)) (at_+j) (by rw [<-kA];omega) oZ x (by rw [<-kA];exact hx) D vj _ Gg oZ
  rw [<-kA,<-hpf,<-ea] at mX
  refine gc mX ?_
  rintro _ _ ⟨C',rfl,bF,rfl⟩
  cases dS:(R.run (upto (oN ls at_ b) (j+1))).off with
  | true =>
   refine gz ?_
   rw [jX dS (by omega:j+1<=N),dS]
   exact fin ⟨C',rfl,bF,rfl⟩ aa
  | false =>
   refine gn ?_
   exact ⟨(j+1,C'),⟨by omega,bF,fun _=>dS⟩,sOZ,ar,_,aa⟩
 ·obtain rfl:j=N:=oZ
  rw [jx oZ]
  refine gc (kL m _ w c _ _) ?_
  rintro _ _ ⟨rfl,rfl⟩
  refine gl [0,3,9,56] (fun (q:Nat)=>[(57,.int .i64 q)]) (fun _=>[]) (fun q=>q<=w) (fun q=>w - q) 0 oZ ?_
  rintro q hq
  refine gi ?_ ?_ <;> intro qI
  ·obtain ⟨oy,hy⟩:=eC (l:=ls) (i:=q) oZ
   rcases oy with _ | y
   ·exact absurd rfl (hall _ (mem_of_getElem? hy))
   have bX:(ls.map iQ)[q]? = some (ptr y.a):=by rw [getElem?_map,hy];rfl
   refine gn ?_
   exact ⟨q+1,by omega,by omega,ar,_,aa⟩
  ·refine gz ?_
   exact fin ⟨C,rfl,hC,rfl⟩ aa
end
theorem EE (m:Nat)(ad:Option Addr)(w c:Nat)(vk:Value)(z:Int)(hw:3<=w/\w<=5)(V D:Chunk)(v:Value)(N n:Nat)(vs:List Value)(ss:List eE)(hV:Rd V 1 v N vs)(hN:ss.length=N)(hN2:N<=1000)(hD:ff D vs ss)(hn:n<=(fy w 0 ss).length) :
  Ct 335 [ptr m,v,.int .i64 n] [V,D,[(m,uz (.slice ad w c) vk z)]] fun u Bs=>∃ad2 O,u = .slice ad2 n n/\Rd O 1 (.slice ad2 n n) n (au ((fy w 0 ss).take n))/\Bs=[O,V,D,[(m,uz (.slice ad w c) vk z)]]:=by
 obtain ⟨kK,cv,rfl⟩:=hV.slice
 have Jq:=hD.sK
 have dP:∀j,j<=N->(fy w 0 (ss.take j)).length<=j*128:=fun j=>by
  induction j with
  | zero=>simp [fy]
  | succ j ih =>
   intro hj
   have h1:=ih oZ
   have pC:j<ss.length:=oZ
   rw [<-take_append_getElem pC,qU,length_append,Nat.zero_add,length_take,Nat.min_eq_left oZ]
   have hs:=Jq _ (getElem_mem pC)
   simp only [fy]
   split
   ·simp;omega
   ·rw [append_nil];omega
 refine st func335 fun w0 => ?_
 refine gl [0,2,10,11] (fun ((j,v7,_):Nat×Value×Chunk)=>[(12,.int .i64 j),(7,v7)]) (fun (_,_,C)=>[C]) (fun (j,v7,C)=>j<=N/\aC C 5 1 v7 (fy w 0 (ss.take j)).length (au (fy w 0 (ss.take j)))) (fun (j,_)=>N - j) (0,.slice none 0 0,[]) ⟨by omega,by rw [take_zero];exact aC.nil _ _⟩ ?_
 rintro ⟨j,v7,C⟩ ⟨hj,hC⟩
 obtain ⟨tT,c7,rfl⟩:=hC.slice
 refine gi ?_ ?_ <;> intro br
 ·have pC:j<ss.length:=oZ
  obtain ⟨vj,hvj,Gg⟩:=hD.at pC
  obtain ⟨ZR,off,rfl⟩:=hV.addr oZ
  have XA:=Gg.2.1
  obtain ⟨gs_,os,cs,rfl,N1⟩:=Gg.addr
  have Hc:=dP j oZ
  have zh:fy w 0 (ss.take (j+1))=fy w 0 (ss.take j)++(if j % w=0 then [] else ss[j]):=by
   rw [<-take_append_getElem pC,qU,Nat.zero_add,length_take,Nat.min_eq_left oZ]
   simp [fy]
  refine gc (kL m ad w c vk z) ?_
  rintro _ _ ⟨rfl,rfl⟩
  refine gi ?_ ?_ <;> intro h0
  ·rw [if_neg oZ] at zh
   have fS:=Gg.1
   refine gp ?_;intro ze c8 C8 Ns
   refine gn ?_
   exact ⟨(j+1,_,C8),⟨by omega,by rw [zh,length_append,fS,aG];exact Ns⟩,sOZ,ar,_,aa⟩
  ·rw [if_pos oZ,append_nil] at zh
   refine gn ?_
   exact ⟨(j+1,_,C),⟨by omega,by rw [zh];exact hC⟩,sOZ,ar,_,aa⟩
 ·obtain rfl:j=N:=oZ
  have Hc:=dP j oZ
  rw [<-hN,take_length] at hC Hc
  have Gf:=hC.rd
  have hn0:n - 0=n:=oZ
  have qc:((au (fy w 0 ss)).drop (0*1)).take ((n - 0)*1)=au ((fy w 0 ss).take n):=by rw [Nat.zero_mul,drop_zero,Nat.mul_one,Nat.sub_zero,aQ]
  have hlc:=hC.eH
  rw [<-hN,take_length]
  refine gw ?_;intro ia DV
  refine gz ?_
  exact fin ⟨ia,C,rfl,DV,rfl⟩ aa
abbrev gtO (m:Nat)(at_:Nat)(vs:Value)(mr:Nat):Obj:=ax [ptr m,.int .i64 at_,vs,.map (some mr)] 410
section
variable (p:Nat)(qs:List Nat)(m n:Nat)(ls:List (Option Lv))(mk:Nat->fj)(hn:324<=n/\n<=8192)(gH:3<=ls.length/\ls.length<=5)
include hn gH
theorem PY (c:Nat)(ad:Option Addr)(vk:Value)(Cv:Chunk)(pN:aC Cv 110 1 (.slice ad ls.length c) ls.length (ls.map iQ))(R:Rk)(C L:Chunk)(hC:bj p qs R C)(hL:iR mk 0 ls L)(ho:dE qs R n ls)(hall:∀x∈ls,x≠none)(db:R.off=false)
  (at_ k:Nat) (hb:1<=k/\k<=1024) (hf:at_+dU ls.length k<=ls.length*(n - 292)) (ss:List eE) (fS:ss.length=dU ls.length k) (Jq:∀(j:Nat) (s:eE) (x:Lv),ss[j]? = some s->ls[(at_+j) % ls.length]? = some (some x)->R.now x.i (274+(at_+j) / ls.length)=s) :
  Ct 339 [ptr m,.int .i64 at_,.int .i64 k] [C,[(m,uz (.slice ad ls.length c) vk ((n - 292:Nat):Int))],Cv,L] fun u Bs=>∃b vS CS D mr Cm vs,u = .tuple #[ptr b,.int .i64 0]/\aC CS 34 1 vS ss.length vs/\ff D vs ss/\Mp mr .i64 [] Cm/\Bs=[[(b,gtO m at_ vS mr)],CS,D,Cm,C,[(m,uz (.slice ad ls.length c) vk ((n - 292:Nat):Int))],Cv,L]:=by
 have XC:=nB gH.1 hb
 have hwn:ls.length*(n - 292)<=50000:=Nat.mul_le_mul gH.2 (show n - 292<=10000 by omega)
 obtain ⟨w,kA⟩:∃w,w=ls.length:=⟨_,rfl⟩
 rw [<-kA] at gH hf XC fS Jq hwn pN ⊢
 have eF:=AS m ad w c vk ((n - 292:Nat):Int) gH k hb
 rw [<-fS] at hf XC eF
 obtain ⟨N,hN⟩:∃N,N=ss.length:=⟨_,rfl⟩
 rw [<-hN] at hf XC eF ⊢
 refine st func339 fun w0 => ?_
 refine vY .i64 ?_;intro mr Cm ZW
 refine ga ?_;intro b
 refine gc eF ?_
 rintro _ _ ⟨rfl,rfl⟩
 refine gl [0,1,2,8,24] (fun ((j,_):Nat×Value×Chunk×Chunk×List Value)=>[(25,.int .i64 j)]) (fun (_,vS,CS,D,_)=>[[(b,gtO m at_ vS mr)],CS,D]) (fun (j,vS,CS,D,vs)=>j<=N/\aC CS 34 1 vS j vs/\ff D vs (ss.take j)) (fun (j,_)=>N - j) (0,.slice none 0 0,[],[],[]) ⟨by omega,aC.nil _ _,by rw [take_zero];exact l9.nil⟩ ?_
 rintro ⟨j,vS,CS,D,vs⟩ ⟨hj,XH,hD⟩
 obtain ⟨dy,cS,rfl⟩:=XH.slice
 refine gi ?_ ?_ <;> intro br
 ·have hjN:j<ss.length:=oZ
  have PW:=Nat.mod_lt (at_+j) (show 0<w by omega)
  obtain ⟨ox,hx⟩:=eC (l:=ls) (i:=(at_+j) % w) oZ
  rcases ox with _ | x
  ·exact absurd rfl (hall _ (mem_of_getElem? hx))
  obtain ⟨o1,o2,o3⟩:=ho x (mem_of_getElem? hx)
  have hdiv:(at_+j) / w+1+292<=n:=by
   have:(at_+j) / w<n - 292:=by rw [Nat.div_lt_iff_lt_mul oZ,Nat.mul_comm];omega
   omega
  have ZX:=Jq j _ x (getElem?_eq_getElem hjN) hx
  obtain ⟨vV,lV⟩:=lq hC.ok (i:=x.i) (a:=274+(at_+j) / w) oZ
  rw [ZX] at vV lV
  have nC:=XF m ls oZ c ad vk ((n - 292:Nat):Int) Cv (by rw [<-kA];exact pN) (at_+j) oZ (some x) (by rw [<-kA];exact hx)
  rw [<-kA] at nC
  obtain ⟨A,L1,B,qS,rfl⟩:=hL.at hx
  have qd:=wG p qs R C hC x.i x.q n x.a _ L1 qS o1 o2 o3 hn ((at_+j) / w) 1 hdiv
  rw [vV] at qd
  refine gs ?_
  refine gc nC ?_
  rintro _ _ ⟨rfl,rfl⟩
  refine gm ?_;intro b37
  refine gc qd ?_
  rintro _ _ (⟨dS,rfl,rfl⟩ | ⟨-,g2,rfl,rfl⟩)
  ·rw [db] at dS;cases dS
  refine gm ?_;intro b66
  refine gp ?_;intro ia c3 C3 kP
  have Gg:wM (D++[(g2,ax (au ss[j]) 5)]) (.slice (some ⟨g2,0,none⟩) (1*128) (1*128)) ss[j]:=⟨lV,(ay (T:=5) (by rw [aq,lV]) (aP _) oZ _).sub fun q hq=>mem_append_right _ hq,_,_,rfl,Nat.le_refl _⟩
  have h2:=l9.snoc (hD.sub (E:=D++[(g2,ax (au ss[j]) 5)]) fun q hq=>mem_append_left _ hq) Gg
  rw [take_append_getElem hjN] at h2
  refine gn ?_
  exact ⟨(j+1,_,C3,D++[(g2,ax (au ss[j]) 5)],_),⟨by omega,kP,h2⟩,sOZ,ar,_,aa⟩
 ·obtain rfl:j=N:=oZ
  rw [hN,take_length] at hD
  refine gz ?_
  exact fin ⟨b,_,CS,D,mr,Cm,vs,rfl,XH,hD,ZW,rfl⟩ aa
end
section
variable (T:TypeId)(fr:Nat×Nat)(m:Nat)(ad:Option Addr)(w c:Nat)(vk:Value)(z:Int)(hw:3<=w/\w<=5)
include hw
theorem PZ (b at_:Nat)(CS D:Chunk)(vS:Value)(mr:Nat)(Cm:Chunk)(N n kind:Nat)(vs:List Value)(ss:List eE)(s:Fs)(bs:List UInt8)(ZW:Mp mr .i64 [] Cm)(hV:aC CS 34 1 vS N vs)(hN:ss.length=N)(hN2:N<=1000)(hD:ff D vs ss)(hn:n<=(fy w 0 ss).length)(dq:n<=1024)(hb:(fy w 0 ss).take n=bs)(Ee:tS kind s bs=true) :
  Ct 340 [ptr b,.int .i64 n,.int .i64 kind,s.agg] [[(b,gtO m at_ vS mr)],gK T fr,CS,D,Cm,[(m,uz (.slice ad w c) vk z)]] fun u Bs=>∃O,u = .tuple #[vS,.int .i64 (-1),.bool true]/\Bs=[O,[(b,gtO m at_ vS mr)],gK T fr,CS,D,Cm,[(m,uz (.slice ad w c) vk z)]]:=by
 have dP:bs.length=n:=by rw [<-hb,length_take];omega
 refine st func340 fun w0 => ?_
 refine ga ?_;intro b7
 refine gd [0,4,8,12,16,20,24,28,32,36,40,44,48,52,56,60,64,68,73,79,82] ?_
 refine gc (EE m ad w c vk z hw CS D vS N n vs ss hV.rd hN hN2 hD hn) ?_
 rintro _ _ ⟨ad2,O,rfl,hO,rfl⟩
 rw [hb] at hO
 refine gc (AE T fr O _ bs n dP hO oZ kind s) ?_
 rintro _ _ ⟨rfl,rfl⟩
 rw [Ee]
 refine gz ?_
 exact fin ⟨O,rfl,rfl⟩ aa
end
section
variable (T:TypeId)(fr:Nat×Nat)(p:Nat)(qs:List Nat)(m n:Nat)(ls:List (Option Lv))(mk:Nat->fj)(hn:324<=n/\n<=8192)(gH:3<=ls.length/\ls.length<=5)
include hn gH
theorem UI (R:Rk)(C M L:Chunk)(hC:bj p qs R C)(hM:LB m ls (n - 292) M)(hL:iR mk 0 ls L)(ho:dE qs R n ls)(hall:∀x∈ls,x≠none)(db:R.off=false)
  (at_:Nat) (b:List UInt8) (k kind:Nat) (s:Fs) (hk:b.length=k) (hb:1<=k/\k<=1024) (hf:at_+dU ls.length k<=ls.length*(n - 292)) (Gi:kind=1\/kind=2) (Ee:tS kind s b=true)
  (Jq:∀(j:Nat) (s:eE) (x:Lv),(jy ls.length b)[j]? = some s->ls[(at_+j) % ls.length]? = some (some x)->R.now x.i (274+(at_+j) / ls.length)=s) :
  Ct 326 [ptr m,.int .i64 at_,.int .i64 k,.int .i64 kind,s.agg] [gK T fr,C,M,L] fun u Bs=>∃ad O,u = .tuple #[.slice ad k k,.int .i64 0]/\Rd O 1 (.slice ad k k) k (au b)/\Bs=[O,gK T fr,C,M,L]:=by
 obtain ⟨ad,c,Cv,g,pN,rfl⟩:=hM
 have XC:=nB gH.1 hb
 have yu:=qV (w:=ls.length) oZ b
 rw [hk] at yu
 have eD:(fy ls.length 0 (jy ls.length b)).take k=b:=by rw [EB oZ,j5,<-hk,take_left]
 have P0:k<=(fy ls.length 0 (jy ls.length b)).length:=by rw [EB oZ,j5,length_append,hk];omega
 have bJ:=Jv m ad ls.length c (.slice (some ⟨g,0,none⟩) ls.length ls.length) (n - 292) gH oZ at_ k hb hf
 have qd:=PY p qs m n ls mk hn gH c ad (.slice (some ⟨g,0,none⟩) ls.length ls.length) Cv pN R C L hC hL ho hall db at_ k hb hf (jy ls.length b) yu Jq
 have iy:Ct 333 [ptr m,.int .i64 at_,.int .i64 k,.int .i64 kind,s.agg] [gK T fr,C,[(m,uz (.slice ad ls.length c) (.slice (some ⟨g,0,none⟩) ls.length ls.length) ((n - 292:Nat):Int))],Cv,L] fun u Bs=>∃b' vS CS D mr Cm vs,u = .tuple #[ptr b',vS,.int .i64 (-1),.int .i64 0]/\aC CS 34 1 vS (dU ls.length k) vs/\ff D vs (jy ls.length b)/\Mp mr .i64 [] Cm/\Bs=[[(b',gtO m at_ vS mr)],CS,D,Cm,gK T fr,C,[(m,uz (.slice ad ls.length c) (.slice (some ⟨g,0,none⟩) ls.length ls.length) ((n - 292:Nat):Int))],Cv,L]:=by
  refine st func333 fun w0 => ?_
  refine ga ?_;intro b9
  refine gc bJ ?_
  rintro _ _ ⟨rfl,rfl⟩
  rcases Gi with rfl | rfl
  all_goals
   refine gc qd ?_
   rintro _ _ ⟨b',vS,CS,D,mr,Cm,vs,rfl,XH,hD,ZW,rfl⟩
   rw [yu] at XH
   have tW:=PZ T fr m ad ls.length c (.slice (some ⟨g,0,none⟩) ls.length ls.length) ((n - 292:Nat):Int) gH b' at_ CS D vS mr Cm (dU ls.length k) k _ vs (jy ls.length b) s b ZW XH yu oZ hD P0 oZ eD Ee
   refine gc tW ?_
   rintro _ _ ⟨O,rfl,rfl⟩
   refine gz ?_
   exact fin ⟨b',vS,CS,D,mr,Cm,vs,rfl,XH,hD,ZW,rfl⟩ aa
 refine st func326 fun w0 => ?_
 refine gs ?_
 refine ga ?_;intro b9
 refine gc iy ?_
 rintro _ _ ⟨b',vS,CS,D,mr,Cm,vs,rfl,XH,hD,ZW,rfl⟩
 refine gc (EE m ad ls.length c _ _ gH CS D vS (dU ls.length k) k vs (jy ls.length b) XH.rd yu oZ hD P0) ?_
 rintro _ _ ⟨ad2,O,rfl,hO,rfl⟩
 rw [eD] at hO
 refine gz ?_
 exact fin ⟨ad2,O,rfl,hO,rfl⟩ aa
theorem P3 (R:Rk)(C M L:Chunk)(hC:bj p qs R C)(hM:LB m ls (n - 292) M)(hL:iR mk 0 ls L)(ho:dE qs R n ls)(hall:∀x∈ls,x≠none) :
  Ct 323 [ptr m] [C,M,L] fun u Bs=>∃C',u = .int .i64 (if (R.run (upto (nz ls) ls.length)).off then 5 else 0)/\bj p qs (R.run (upto (nz ls) ls.length)) C'/\Bs=[C',M,L]:=by
 have _:=hn
 obtain ⟨ad,c,Cv,g,pN,rfl⟩:=hM
 have Gf:=pN.rd
 obtain ⟨ZR,off,rfl⟩:=Gf.addr oZ
 refine st func323 fun w0 => ?_
 refine gs ?_
 refine gl [0,3,10,11] (fun ((j,_):Nat×Chunk)=>[(12,.int .i64 j)]) (fun (_,C)=>[C]) (fun (j,C)=>j<=ls.length/\bj p qs (R.run (upto (nz ls) j)) C/\(0<j->(R.run (upto (nz ls) j)).off=false)) (fun (j,_)=>ls.length - j) (0,C) ⟨by omega,hC,fun h0=>absurd h0 oZ⟩ ?_
 rintro ⟨j,C⟩ ⟨hj,hC,jx⟩
 refine gi ?_ ?_ <;> intro br
 ·obtain ⟨ox,hx⟩:=eC (l:=ls) (i:=j) oZ
  rcases ox with _ | x
  ·exact absurd rfl (hall _ (mem_of_getElem? hx))
  obtain ⟨o1,o2,o3⟩:=ho.run (upto (nz ls) j) x (mem_of_getElem? hx)
  have bX:(ls.map iQ)[j]? = some (ptr x.a):=by rw [getElem?_map,hx];rfl
  obtain ⟨A,L1,B,qS,rfl⟩:=hL.at hx
  have ya:nz ls j=[.f x.i]:=by unfold nz;rw [hx]
  have ju:=Eo p qs _ C hC x.i x.q x.a _ L1 qS o1 o2
  rw [show (R.run (upto (nz ls) j)).ev (.f x.i)=R.run (upto (nz ls) (j+1)) by rw [ea,ya];rfl] at ju
  refine gs ?_
  refine gc ju ?_
  rintro _ _ ⟨C',rfl,bF,rfl⟩
  cases dS:(R.run (upto (nz ls) (j+1))).off with
  | true =>
   refine gz ?_
   rw [jX dS (by omega:j+1<=ls.length),dS]
   exact fin ⟨C',rfl,bF,rfl⟩ aa
  | false =>
   refine gn ?_
   exact ⟨(j+1,C'),⟨by omega,bF,fun _=>dS⟩,sOZ,ar,_,aa⟩
 ·obtain rfl:j=ls.length:=oZ
  rw [jx oZ]
  refine gz ?_
  exact fin ⟨C,rfl,hC,rfl⟩ aa
theorem P4 (M:Chunk)(hM:LB m ls (n - 292) M)(k:Nat)(hk:k<ls.length):Ct 324 [ptr m,.int .i64 k] [M] fun u Bs=>u = .tuple #[.agg #[.int .u64 0,.int .u64 0],.bool false]/\Bs=[M]:=by
 have _:=hn
 have _:=gH
 obtain ⟨ad,c,Cv,g,pN,rfl⟩:=hM
 have bX:(replicate ls.length (Value.pointer none))[k]? = some (.pointer none):=by simp [hk]
 refine st func324 fun w0 => ?_
 refine gs ?_
 refine ga ?_;intro b4
 refine ge ?_
 refine gc (kL m ad ls.length c _ _) ?_
 rintro _ _ ⟨rfl,rfl⟩
 refine gz ?_
 exact fin ⟨rfl,rfl⟩ aa
end
end Go.Proofs.YtpabnmeponmonaaGreatDoor
namespace Go.Sl
theorem qW {α:Type}(n:Nat)(x:α)(f:α->List Value):(replicate n (f x)).flatten=(replicate n x).flatMap f:=by
 induction n with
 | zero=>rfl
 | succ n ih=>simp [replicate_succ,ih]
end Go.Sl
namespace Go.Proofs.YtpabnmeponmonaaGreatDoor
theorem Jy (p:Nat)(qs:List Nat)(R:Rk)(C:Chunk)(hC:bj p qs R C)(i q n a:Nat)(l:fj)(L:Chunk)(hL:PL a q l L)(hq:qs[i]? = some q)(hn:R.size i=n)(h:324<=n/\n<=8192):Ct 158 [ptr a] [C,L] fun u Bs=>u = .int .i64 ((n - 292:Nat):Int)/\Bs=[C,L]:=by
 obtain ⟨ad,c,D,z1,z2,z3,hD,rfl⟩:=hL
 refine st func158 fun w0 => ?_
 refine gs ?_
 refine gc (da p qs R C hC i q hq) ?_
 rintro _ _ ⟨rfl,rfl⟩
 rw [hn]
 refine gz ?_
 exact fin ⟨congrArg _ oZ,rfl⟩ aa
section
variable (p:Nat)(qs:List Nat)(n:Nat)(ls:List (Option Lv))(mk:Nat->fj)(hn:324<=n/\n<=8192)(gH:1<=ls.length/\ls.length<=5)
include hn gH
theorem ZY (R:Rk)(C L:Chunk)(hC:bj p qs R C)(hL:iR mk 0 ls L)(ho:dE qs R n ls)(hx:∃x,some x∈ls)(O:Chunk)(ad:Option Addr)(c:Nat)(hO:Rd O 1 (.slice ad ls.length c) ls.length (ls.map iQ)) :
  Ct 98 [.slice ad ls.length c] [C,L,O] fun u Bs=>∃m M,u = .tuple #[ptr m,.int .i64 0]/\Lu m ls (replicate ls.length none) (n - 292) M/\Bs=[M,C,L,O]:=by
 refine stM func98 fun w0 => ?_
 refine ga ?_;intro b2
 refine ga ?_;intro b3
 refine gm ?_;intro g9 C9 hC9
 refine ga ?_;intro m
 refine ga ?_;intro b4
 refine gd [0,4,8,12,16,20,25,28,32,39] ?_
 refine gp ?_;intro ad2 c2 Cv pN
 refine ge ?_
 refine ga ?_;intro bt
 obtain ⟨EF,wO⟩:∃f:Nat->Int,f=fun i=>if (ls.take i).any (·.isSome) then ((n - 292:Nat):Int) else -1:=⟨_,rfl⟩
 have ZZ:EF 0 = -1:=by rw [wO];simp
 refine gfr (wI bt m ls oZ _ _ Cv pN (-1)) (fun i Ls=>Ls=[[(bt,ax [ptr m] 191)],[(m,AR (.slice ad2 ls.length c2) (.slice (some ⟨g9,0,none⟩) ls.length ls.length) (EF i))],[(b4,ax [ptr m] 191)],C9,[(b3,ax [.int .i64 0] 45)],[(b2,ax [.pointer none] 191)],C,L,O]) (fun _=>False) ?_ ?_ ?_ ?_ ?_
 ·show _=_
  rw [show (wH ls).s0=0 from rfl,ZZ]
 ·rintro i i' Ls ⟨hi,rfl⟩ rfl
  obtain ⟨jQ,he⟩:=List.getElem?_eq_some_iff.1 hi
  have:EF (i+1)=EF i:=by rw [wO];simp only;rw [take_succ_eq_append_getElem jQ,any_append,he];simp
  rw [this]
 ·rintro rc l r i vs i' bm ⟨x,uw,rfl,rfl⟩ rfl
  refine ⟨_,.two (Nat.le_of_ble_eq_true rfl) (Nat.le_of_ble_eq_true rfl), ?_⟩
  obtain ⟨o1,o2,o3⟩:=ho x (mem_of_getElem? uw)
  obtain ⟨A,L1,B,qS,rfl⟩:=hL.at uw
  obtain ⟨jQ,he⟩:=List.getElem?_eq_some_iff.1 uw
  have Hh:EF (i+1)=((n - 292:Nat):Int):=by rw [wO];simp only;rw [take_succ_eq_append_getElem jQ,any_append,he];simp
  have I2:=Jy p qs R C hC x.i x.q n x.a (mk (0+i)) L1 qS o1 o3 hn
  refine gas ?_
  refine gs ?_
  refine gd [0,4,8,12,16,20,24,32,36,40,44,29,48,52] ?_
  rcases (show EF i = -1\/EF i=((n - 292:Nat):Int) by rw [wO];simp only;split <;> simp) with h0 | h0
  ·rw [h0]
   refine gd [0,4,9,12,16,23] ?_
   refine gc I2 ?_
   rintro _ _ ⟨rfl,rfl⟩
   refine go ?_
   exact WE.next (L':=[[(bt,ax [ptr m] 191)],[(m,AR (.slice ad2 ls.length c2) (.slice (some ⟨g9,0,none⟩) ls.length ls.length) ((n - 292:Nat):Int))],[(b4,ax [ptr m] 191)],C9,[(b3,ax [.int .i64 0] 45)],[(b2,ax [.pointer none] 191)],C,A++(L1++B),O]) aa (by rw [Hh])
  ·rw [h0]
   refine gc I2 ?_
   rintro _ _ ⟨rfl,rfl⟩
   refine gd [0,4,9,12,16,23] ?_
   refine gc I2 ?_
   rintro _ _ ⟨rfl,rfl⟩
   refine go ?_
   exact WE.next (L':=[[(bt,ax [ptr m] 191)],[(m,AR (.slice ad2 ls.length c2) (.slice (some ⟨g9,0,none⟩) ls.length ls.length) ((n - 292:Nat):Int))],[(b4,ax [ptr m] 191)],C9,[(b3,ax [.int .i64 0] 45)],[(b2,ax [.pointer none] 191)],C,A++(L1++B),O]) aa (by rw [Hh])
 ·rintro r i bm Ck rfl
  obtain rfl:i=ls.length:=Ck
  have Z3:EF ls.length=((n - 292:Nat):Int):=by
   rw [wO];simp only;rw [take_length,if_pos]
   obtain ⟨x,hx⟩:=hx
   exact any_eq_true.2 ⟨_,hx,rfl⟩
  rw [Z3]
  have iy:C9=[(g9,ax ((replicate ls.length none).flatMap nA) 424)]:=by
   rcases hC9.2.2 with ⟨h,_⟩ | ⟨g,c0,r,hv,rfl,_,_,hlen⟩
   ·cases h
   ·cases hv
    have h3:=hC9.1
    obtain rfl:r=[]:=eq_nil_of_length_eq_zero oZ
    rw [append_nil,<-qW];rfl
  refine gm1 ?_
  subst iy
  exact fin ⟨m,_,rfl,⟨ad2,c2,Cv,g9,pN,by simp,rfl⟩,rfl⟩ aa
 ·rintro r bm h;exact h.elim
end
theorem Z4 (p:Nat)(qs:List Nat)(n:Nat)(ls:List (Option Lv))(mk:Nat->fj)(hn:324<=n/\n<=8192)(gH:3<=ls.length/\ls.length<=5)(R:Rk)(C L:Chunk)(hC:bj p qs R C)(hL:iR mk 0 ls L)(ho:dE qs R n ls)(hx:ls.countP (·.isNone)<=1)(O:Chunk)(ad:Option Addr)(c:Nat)(hO:Rd O 1 (.slice ad ls.length c) ls.length (ls.map iQ)) :
  Ct 96 [.slice ad ls.length c] [C,L,O] fun u Bs=>∃m M,u = .tuple #[ptr m,.int .i64 0]/\LB m ls (n - 292) M/\Bs=[M,C,L,O]:=by
 obtain ⟨g0,off,rfl⟩:=hO.addr oZ
 obtain ⟨EF,wO⟩:∃f:Nat->Int,f=fun i=>if (ls.take i).any (·.isSome) then ((n - 292:Nat):Int) else -1:=⟨_,rfl⟩
 have ZZ:EF 0 = -1:=by rw [wO];simp
 have ae5:∀i,EF i = -1\/EF i=((n - 292:Nat):Int):=fun i=>by rw [wO];simp only;split <;> simp
 refine st func96 fun w0 => ?_
 refine gm ?_;intro g9
 refine ga ?_;intro m
 refine gl [2,3,4,21,22] (fun ((i,t5,_):Nat×Nat×Value×Chunk×Int)=>[(23,.int .i64 i),(5,.int .i64 t5)]) (fun (i,_,v,Cv,z)=>[[(m,uz v (.slice (some ⟨g9,0,none⟩) ls.length ls.length) z)],Cv]) (fun (i,t5,v,Cv,z)=>i<=ls.length/\z=EF i/\t5=(ls.take i).countP (·.isNone)/\aC Cv 110 1 v i ((ls.take i).map iQ)) (fun (i,_)=>ls.length - i) (0,0,.slice none 0 0,[], -1) ⟨by omega,ZZ.symm,rfl,aC.nil _ _⟩ ?_
 rintro ⟨i,t5,v,Cv,z⟩ ⟨hi,hz,ht5,pN⟩
 obtain ⟨ad2,c2,rfl⟩:=pN.slice
 have rS:=countP_le_length (p:=fun x:Option Lv=>x.isNone) (l:=ls.take i)
 rw [length_take] at rS
 refine gi ?_ ?_ <;> intro br
 ·obtain ⟨ox,uw⟩:=eC (l:=ls) (i:=i) oZ
  obtain ⟨jQ,he⟩:=List.getElem?_eq_some_iff.1 uw
  have bX:(ls.map iQ)[i]? = some (iQ ox):=by rw [getElem?_map,uw];rfl
  have EG:ls.take (i+1)=ls.take i++[ox]:=by rw [take_succ_eq_append_getElem jQ,he]
  rcases ox with _ | x
  ·have Hh:EF (i+1)=EF i:=by rw [wO];simp only;rw [EG,any_append];simp
   refine gm ?_;intro b58
   refine gp ?_;intro ia c3 C3 kP
   refine gn ?_
   exact ⟨(i+1,t5+1,_,C3,z),⟨by omega,by rw [Hh,hz],by rw [EG,countP_append,ht5];rfl,by rw [EG,map_append];exact kP⟩,sOZ,ar,_,aa⟩
  ·obtain ⟨o1,o2,o3⟩:=ho x (mem_of_getElem? uw)
   obtain ⟨A,L1,B,qS,rfl⟩:=hL.at uw
   have Hh:EF (i+1)=((n - 292:Nat):Int):=by rw [wO];simp only;rw [EG,any_append];simp
   have I2:=Jy p qs R C hC x.i x.q n x.a _ L1 qS o1 o3 hn
   refine gs ?_
   rcases ae5 i with h0 | h0
   ·rw [h0] at hz
    subst hz
    refine gd [0,4,8,12,16,20,24,32,36,40,44,29,48,52,56] ?_
    refine gc I2 ?_
    rintro _ _ ⟨rfl,rfl⟩
    refine gm ?_;intro b58
    refine gp ?_;intro ia c3 C3 kP
    refine gn ?_
    exact ⟨(i+1,t5,_,C3,_),⟨by omega,Hh.symm,by rw [EG,countP_append,ht5];rfl,by rw [EG,map_append];exact kP⟩,sOZ,ar,_,aa⟩
   ·rw [h0] at hz
    subst hz
    refine gd [0,4,8,12,16,20,24,32,36,40,44,29,48,52,56] ?_
    refine gc I2 ?_
    rintro _ _ ⟨rfl,rfl⟩
    refine gc I2 ?_
    rintro _ _ ⟨rfl,rfl⟩
    refine gm ?_;intro b58
    refine gp ?_;intro ia c3 C3 kP
    refine gn ?_
    exact ⟨(i+1,t5,_,C3,_),⟨by omega,Hh.symm,by rw [EG,countP_append,ht5];rfl,by rw [EG,map_append];exact kP⟩,sOZ,ar,_,aa⟩
 ·obtain rfl:i=ls.length:=oZ
  rw [take_length] at ht5 pN
  have Z3:EF ls.length=((n - 292:Nat):Int):=by
   rw [wO];simp only;rw [take_length,if_pos]
   obtain ⟨x,hx⟩:∃x,some x∈ls:=by
    refine Classical.byContradiction fun ey => ?_
    have:ls.countP (·.isNone)=ls.length:=countP_eq_length.2 fun o rT=>by
     rcases o with _ | x
     ·rfl
     ·exact absurd ⟨x,rT⟩ ey
    omega
   exact any_eq_true.2 ⟨_,hx,rfl⟩
  rw [Z3] at hz
  subst hz
  refine gz ?_
  refine fin ⟨m,_,rfl,⟨ad2,c2,Cv,g9,pN,rfl⟩,rfl⟩ aa
section
variable (p:Nat)(qs:List Nat)(m n:Nat)(ls:List (Option Lv))(mk:Nat->fj)(lk:List (Option (Nat×Nat)))(hn:324<=n/\n<=8192)(gH:ls.length<=5)
include hn gH
theorem P5 (R:Rk)(C M L:Chunk)(hC:bj p qs R C)(hM:Lu m ls lk (n - 292) M)(hL:iR mk 0 ls L)(ho:dE qs R n ls)(ey:∃x,some x∈ls) :
  Ct 346 [ptr m] [C,M,L] fun u Bs=>∃C',u = .int .i64 (if (R.run (upto (nz ls) ls.length)).off then 5 else 0)/\bj p qs (R.run (upto (nz ls) ls.length)) C'/\Bs=[C',M,L]:=by
 have _:=hn
 obtain ⟨ad,c,Cv,g,pN,iy,rfl⟩:=hM
 refine stM func346 fun w0 => ?_
 refine gs ?_
 refine ga ?_;intro b2
 refine ga ?_;intro b3
 refine ge ?_
 refine ga ?_;intro bt
 refine gfr (wI bt m ls oZ _ _ Cv pN ((n - 292:Nat):Int)) (fun i Ls=>∃C e,i<=ls.length/\bj p qs (R.run (upto (nz ls) i)) C/\(R.run (upto (nz ls) i)).off=(R.off)/\(e=4/\(∀j x,j<i->ls[j]? ≠ some (some x))\/e=0/\R.off=false)/\Ls=[[(bt,ax [ptr m] 191)],[(b3,ax [.int .i64 e] 45)],[(b2,ax [.int .i64 0] 45)],C,[(m,AR (.slice ad ls.length c) (.slice (some ⟨g,0,none⟩) ls.length ls.length) ((n - 292:Nat):Int))],[(g,ax (lk.flatMap nA) 424)],L]) (fun Ls=>∃C,bj p qs R C/\R.off=true/\Ls=[[(b2,ax [.int .i64 5] 45)],C,[(m,AR (.slice ad ls.length c) (.slice (some ⟨g,0,none⟩) ls.length ls.length) ((n - 292:Nat):Int))],[(g,ax (lk.flatMap nA) 424)],L]) ?_ ?_ ?_ ?_ ?_
 ·exact ⟨C,4,by simp [wH],hC,rfl,.inl ⟨rfl,fun j x hj=>absurd hj (by simp [wH])⟩,rfl⟩
 ·rintro s s' Ls ⟨hs,rfl⟩ ⟨C,e,h1,h2,h3,h4,rfl⟩
  have hu:upto (nz ls) (s+1)=upto (nz ls) s:=by rw [upto,show nz ls s=[] by unfold nz;rw [hs],append_nil]
  obtain ⟨Nt,_⟩:=List.getElem?_eq_some_iff.1 hs
  refine ⟨C,e,by omega,by rw [hu];exact h2,by rw [hu];exact h3,h4.imp_left fun ⟨h5,h6⟩=>⟨h5,fun j x hj => ?_⟩,rfl⟩
  rcases (show j<s\/j=s by omega) with c | rfl
  ·exact h6 j x c
  ·rw [hs];simp
 ·rintro rc l r s vs s' bm ⟨x,hx,rfl,rfl⟩ ⟨C,e,h1,h2,h3,h4,rfl⟩
  refine ⟨_,.two (Nat.le_of_ble_eq_true rfl) (Nat.le_of_ble_eq_true rfl), ?_⟩
  obtain ⟨o1,o2,o3⟩:=ho.run (upto (nz ls) s) x (mem_of_getElem? hx)
  obtain ⟨A,L1,B,qS,rfl⟩:=hL.at hx
  obtain ⟨Nt,_⟩:=List.getElem?_eq_some_iff.1 hx
  have ya:nz ls s=[.f x.i]:=by unfold nz;rw [hx]
  have ju:=Eo p qs _ C h2 x.i x.q x.a (mk (0+s)) L1 qS o1 o2
  rw [show (R.run (upto (nz ls) s)).ev (.f x.i)=R.run (upto (nz ls) (s+1)) by rw [ea,ya];rfl] at ju
  have jx:(R.run (upto (nz ls) (s+1))).off=R.off:=by
   rw [ea,ya,<-h3];show ((R.run (upto (nz ls) s)).ev (.f x.i)).off=_
   simp only [Rk.ev];split <;> rfl
  rw [jx] at ju
  refine gas ?_
  refine gs ?_
  refine gc ju ?_
  rintro _ _ ⟨C',rfl,bF,rfl⟩
  cases Tf:R.off with
  | true =>
   rw [Rk.iH Tf] at bF
   refine go ?_
   exact WE.stop (L':=[[(b2,ax [.int .i64 5] 45)],C',[(m,AR (.slice ad ls.length c) (.slice (some ⟨g,0,none⟩) ls.length ls.length) ((n - 292:Nat):Int))],[(g,ax (lk.flatMap nA) 424)],A++(L1++B)]) aa ⟨C',bF,rfl,rfl⟩
  | false =>
   refine go ?_
   exact WE.next (L':=[[(bt,ax [ptr m] 191)],[(b3,ax [.int .i64 0] 45)],[(b2,ax [.int .i64 0] 45)],C',[(m,AR (.slice ad ls.length c) (.slice (some ⟨g,0,none⟩) ls.length ls.length) ((n - 292:Nat):Int))],[(g,ax (lk.flatMap nA) 424)],A++(L1++B)]) aa ⟨C',0,by omega,bF,by rw [jx,Tf],.inr ⟨rfl,rfl⟩,rfl⟩
 ·rintro r s bm Ck ⟨C,e,h1,h2,h3,h4,rfl⟩
  obtain rfl:s=ls.length:=Ck
  obtain ⟨rfl,Tf⟩:e=0/\R.off=false:=by
   rcases h4 with ⟨_,h5⟩ | h4
   ·obtain ⟨x,hx⟩:=ey
    obtain ⟨j,hj⟩:=mem_iff_getElem?.1 hx
    obtain ⟨Af,_⟩:=List.getElem?_eq_some_iff.1 hj
    exact absurd hj (h5 j x Af)
   ·exact h4
  refine gm1 ?_
  exact fin ⟨C,by rw [h3,Tf];rfl,h2,rfl⟩ aa
 ·rintro r bm ⟨C,h1,h2,rfl⟩
  refine gm1 ?_
  exact fin ⟨C,by rw [Rk.iH h2,h2];rfl,by rw [Rk.iH h2];exact h1,rfl⟩ aa
end
section
variable (T:TypeId)(fr:Nat×Nat)(p:Nat)(qs:List Nat)(m n:Nat)(ls:List (Option Lv))(mk:Nat->fj)(lk:List (Option (Nat×Nat)))(hn:324<=n/\n<=8192)(gH:ls.length<=5)
include hn gH
theorem UJ (R:Rk)(C M L:Chunk)(hC:bj p qs R C)(hM:Lu m ls lk (n - 292) M)(hL:iR mk 0 ls L)(ho:dE qs R n ls)(db:R.off=false)
  (at_:Nat) (b:List UInt8) (k kind:Nat) (s:Fs) (hk:b.length=k) (hb:1<=k/\k<=1024) (hf:at_+aF k+292<=n) (Gi:kind=1\/kind=2) (Ee:tS kind s b=true)
  (hx:∃x,some x∈ls) (hh:∀x,some x∈ls->R.sK x.i (274+at_) (aF k)=j5 b) :
  Ct 349 [ptr m,.int .i64 at_,.int .i64 k,.int .i64 kind,s.agg] [gK T fr,C,M,L] fun u Bs=>∃ad O,u = .tuple #[.slice ad k k,.int .i64 0]/\Rd O 1 (.slice ad k k) k (au b)/\Bs=[O,gK T fr,C,M,L]:=by
 obtain ⟨ad,c,Cv,g,pN,iy,rfl⟩:=hM
 have eF:1<=aF k/\aF k<=8/\k<=aF k*128:=by unfold aF;omega
 have Ek:Ct 357 [ptr m,.int .i64 at_,.int .i64 k,.int .i64 kind,s.agg,.bool false] [gK T fr,C,[(m,AR (.slice ad ls.length c) (.slice (some ⟨g,0,none⟩) ls.length ls.length) ((n - 292:Nat):Int))],Cv,L] fun u Bs=>∃g2 c2,k<=c2/\u = .tuple #[.slice (some ⟨g2,0,none⟩) k c2,.slice none 0 0,.int .i64 0]/\Bs=[[(g2,ax (au (j5 b)) 5)],gK T fr,C,[(m,AR (.slice ad ls.length c) (.slice (some ⟨g,0,none⟩) ls.length ls.length) ((n - 292:Nat):Int))],Cv,L]:=by
  refine stM func357 fun w0 => ?_
  refine ga ?_;intro b6
  refine ga ?_;intro b7
  refine ga ?_;intro b8
  refine ga ?_;intro b9
  refine ga ?_;intro xX
  refine ga ?_;intro b11
  refine ga ?_;intro Td
  refine ga ?_;intro b13
  refine ga ?_;intro Z5
  refine ge ?_
  refine ga ?_;intro bt
  obtain ⟨L0,hL0⟩:∃L0:List Chunk,L0=[[(bt,ax [ptr m] 191)],[(Z5,ax [.int .i64 0] 45)],[(b13,ax [.slice none 0 0] 113)],[(Td,ax [.slice none 0 0] 34)],[(b11,ax [.bool false] 4)],[(xX,ax [.int .u64 s.a,.int .u64 s.b,.int .u64 s.c,.int .u64 s.d] 119)],[(b9,ax [.int .i64 kind] 3)],[(b8,ax [.int .i64 k] 3)],[(b7,ax [.int .i64 at_] 3)],[(b6,ax [ptr m] 191)],gK T fr,C,[(m,AR (.slice ad ls.length c) (.slice (some ⟨g,0,none⟩) ls.length ls.length) ((n - 292:Nat):Int))],L]:=⟨_,rfl⟩
  refine gfr (wI bt m ls oZ _ _ Cv pN ((n - 292:Nat):Int)) (fun i Ls=>(∀j,j<i->ls[j]? = some none)/\Ls=L0) (fun Ls=>∃g2 c2,k<=c2/\Ls=[[(g2,ax (au (j5 b)) 5)],[(Z5,ax [.int .i64 0] 45)],[(b13,ax [.slice none 0 0] 113)],[(Td,ax [.slice (some ⟨g2,0,none⟩) k c2] 34)],gK T fr,C,[(m,AR (.slice ad ls.length c) (.slice (some ⟨g,0,none⟩) ls.length ls.length) ((n - 292:Nat):Int))],L]) ?_ ?_ ?_ ?_ ?_
  ·exact ⟨fun j hj=>absurd hj (by simp [wH]),hL0.symm⟩
  ·rintro i i' Ls ⟨hi,rfl⟩ ⟨h1,rfl⟩
   refine ⟨fun j hj => ?_,rfl⟩
   rcases (show j<i\/j=i by omega) with c | rfl
   ·exact h1 j c
   ·exact hi
  ·rintro rc l r i vs i' bm ⟨x,uw,rfl,rfl⟩ ⟨h1,rfl⟩
   refine ⟨_,.two (Nat.le_of_ble_eq_true rfl) (Nat.le_of_ble_eq_true rfl), ?_⟩
   subst hL0
   obtain ⟨o1,o2,o3⟩:=ho x (mem_of_getElem? uw)
   have hsx:=hh x (mem_of_getElem? uw)
   obtain ⟨A,L1,B,qS,rfl⟩:=hL.at uw
   have qd:=wG p qs R C hC x.i x.q n x.a (mk (0+i)) L1 qS o1 o2 o3 hn at_ (aF k) oZ
   rw [hsx] at qd
   refine gas ?_
   refine gs ?_
   refine rQ [[(b6,ax [ptr m] 191)],[(b7,ax [.int .i64 at_] 3)],[(b8,ax [.int .i64 k] 3)]] [0,4,8,12,17,23,26,30,34,38,42] ?_
   refine gc (qR m k hb) ?_
   rintro _ _ ⟨rfl,rfl⟩
   refine gc qd ?_
   rintro _ _ (⟨dS,rfl,rfl⟩ | ⟨-,g2,rfl,rfl⟩)
   ·rw [db] at dS;cases dS
   have hRb:Rd [(g2,ax (au (j5 b)) 5)] 1 (.slice (some ⟨g2,0,none⟩) k (aF k*128 - 0)) k (au b):=by
    have:=qu (g:=g2) (T:=5) (m:=k) [] (au b) (replicate (aF k*128 - k) (.int .u8 0)) (by rw [aq,hk]) (aP b) oZ (aF k*128 - 0)
    rw [nil_append] at this
    rw [j5,aG,hk]
    simpa [au] using this
   refine gd [0,4,8,12,16,23,26,30] ?_
   refine gv ?_
   refine gc (AE T fr _ _ b k hk hRb oZ kind s) ?_
   rintro _ _ ⟨rfl,rfl⟩
   rw [Ee]
   refine gv ?_
   refine gd [0,4,9,13,19] ?_
   refine go ?_
   exact WE.stop (L':=[[(g2,ax (au (j5 b)) 5)],[(Z5,ax [.int .i64 0] 45)],[(b13,ax [.slice none 0 0] 113)],[(Td,ax [.slice (some ⟨g2,0,none⟩) k (aF k*128 - 0)] 34)],gK T fr,C,[(m,AR (.slice ad ls.length c) (.slice (some ⟨g,0,none⟩) ls.length ls.length) ((n - 292:Nat):Int))],A++(L1++B)]) aa ⟨g2,_,by omega,rfl⟩
  ·rintro r i bm Ck ⟨h1,rfl⟩
   exfalso
   obtain ⟨x,hx⟩:=hx
   obtain ⟨j,hj⟩:=mem_iff_getElem?.1 hx
   obtain ⟨Af,_⟩:=List.getElem?_eq_some_iff.1 hj
   have Ck:i=ls.length:=Ck
   rw [h1 j oZ] at hj;cases hj
  ·rintro r bm ⟨g2,c2,XG,rfl⟩
   refine gm1 ?_
   exact fin ⟨g2,c2,XG,rfl,rfl⟩ aa
 refine st func349 fun w0 => ?_
 refine gs ?_
 refine ga ?_;intro b9
 refine ge ?_
 refine ga ?_;intro xX
 refine ge ?_
 refine gc (qR m k hb) ?_
 rintro _ _ ⟨rfl,rfl⟩
 rcases Gi with rfl | rfl
 all_goals
  refine gc Ek ?_
  rintro _ _ ⟨g2,c2,XG,rfl,rfl⟩
  have hRb:Rd [(g2,ax (au (j5 b)) 5)] 1 (.slice (some ⟨g2,0,none⟩) k c2) k (au b):=by
   have:=qu (g:=g2) (T:=5) (m:=k) [] (au b) (replicate (aF k*128 - k) (.int .u8 0)) (by rw [aq,hk]) (aP b) oZ c2
   rw [nil_append] at this
   rw [j5,aG,hk]
   simpa [au] using this
  refine ge ?_
  refine gl [0,1,2,3,13,14] (fun _:Nat=>[(15,.int .i64 0),(10,.int .i64 0)]) (fun _=>[]) (fun _=>True) (fun _=>0) 0 trivial ?_
  intro _ _
  have xT:k - 0=k:=oZ
  have qc:((au b).drop (0*1)).take ((k - 0)*1)=au b:=by rw [Nat.zero_mul,drop_zero,Nat.mul_one,Nat.sub_zero,take_of_length_le (by rw [aq];omega)]
  refine gw ?_;intro ia DV
  refine gz ?_
  exact fin ⟨ia,_,rfl,DV,rfl⟩ aa
theorem P6 (M:Chunk)(hM:Lu m ls lk (n - 292) M)(k:Nat)(hk:k<ls.length):Ct 347 [ptr m,.int .i64 k] [M] fun u Bs=>(∃a b:Nat,u = .tuple #[.agg #[.int .u64 a,.int .u64 b],.bool ((lk.getD k none).isSome)]/\∀q,lk.getD k none=some q->q=(a,b))/\Bs=[M]:=by
 have _:=hn
 have _:=gH
 obtain ⟨ad,c,Cv,g,pN,iy,rfl⟩:=hM
 obtain ⟨x,hx⟩:=eC (l:=lk) (i:=k) oZ
 have hs:=av Lt lk k _ hx
 have hgd:lk.getD k none=x:=by simp [List.getD,hx]
 rw [hgd]
 refine st func347 fun w0 => ?_
 refine gs ?_
 refine ga ?_;intro b4
 refine ge ?_
 rcases x with _ | ⟨a,b⟩
 ·have vg:=hs 2 _ rfl
  have hsS:Sub (k*3) [.int .u64 0,.int .u64 0] (lk.flatMap nA):=fun j u hu=>hs j u (by rcases j with _ | _ | j <;> simp at hu ⊢ <;> exact hu)
  refine rQ [[(m,AR (.slice ad ls.length c) (.slice (some ⟨g,0,none⟩) ls.length ls.length) ((n - 292:Nat):Int))],[(g,ax (lk.flatMap nA) 424)]] [0,4,8,12,16,20,24,28,32,36,40,44,48,52,56,60,65,68] ?_
  refine gz ?_
  exact fin ⟨⟨0,0,rfl,fun q hq=>by cases hq⟩,rfl⟩ aa
 ·have vg:=hs 2 _ rfl
  have hsS:Sub (k*3) [.int .u64 a,.int .u64 b] (lk.flatMap nA):=fun j u hu=>hs j u (by rcases j with _ | _ | j <;> simp at hu ⊢ <;> exact hu)
  refine rQ [[(m,AR (.slice ad ls.length c) (.slice (some ⟨g,0,none⟩) ls.length ls.length) ((n - 292:Nat):Int))],[(g,ax (lk.flatMap nA) 424)]] [0,4,8,12,16,20,24,28,32,36,40,44,48,52,56,60,65,68] ?_
  refine gz ?_
  exact fin ⟨⟨a,b,rfl,fun q hq=>by cases hq;rfl⟩,rfl⟩ aa
end
end Go.Proofs.YtpabnmeponmonaaGreatDoor
namespace Go.Sl
abbrev Hi (l:List Ub):List Value:=l.flatMap Ub.lay
theorem Ub.ak (u:Ub):u.lay.length=12:=rfl
theorem Ub.bK (u:Ub):∀x∈u.lay,x.oneCell'=true:=fun x hx=>by
 simp only [Ub.lay,List.mem_cons,not_mem_nil,or_false] at hx
 rcases hx with rfl | rfl | rfl | rfl | rfl | rfl | rfl | rfl | rfl | rfl | rfl | rfl <;> rfl
def Ub.KX (u v:Ub):Bool:=((u.pool:Int)==v.pool)&&(((u.ae:Int)==v.ae)&&(((u.note:Int)==v.note)&&u.root.KX v.root))
theorem Ub.Jz (u v:Ub):u.KX v=true↔u=v:=by
 obtain ⟨p,t,n,⟨a1,a2,a3,a4,a5,a6,a7,a8,a9⟩⟩:=u
 obtain ⟨p',t',n',⟨b1,b2,b3,b4,b5,b6,b7,b8,b9⟩⟩:=v
 simp [Ub.KX,Pt.KX,beq_iff_eq,Int.ofNat_inj]
theorem eU {α:Type}{lay:α->List Value}{s:Nat}(hs:∀a,(lay a).length=s):∀l:List α,(l.flatMap lay).length=l.length*s
 | []=>by simp
 | a :: l=>by rw [flatMap_cons,length_append,hs,eU hs l,length_cons,Nat.succ_mul];omega
theorem AT {α:Type}{lay:α->List Value}{s:Nat}(hs:∀a,(lay a).length=s)(r:List Value)(a:α):∀(l:List α) (j:Nat),j<l.length->ins (j*s) (lay a) (l.flatMap lay++r)=(l.set j a).flatMap lay++r:=by
 intro l j hj
 have h1:=eU hs l
 have h3:l=l.take j++l[j] :: l.drop (j+1):=by rw [<-drop_eq_getElem_cons,take_append_drop]
 have h4:=eU hs (l.take j)
 rw [length_take,Nat.min_eq_left oZ] at h4
 have h5:(j+1)*s<=l.length*s:=Nat.mul_le_mul_right _ oZ
 rw [Nat.succ_mul] at h5
 rw [su _ _ _ (by rw [length_append,hs,h1];omega),hs,set_eq_take_append_cons_drop,if_pos hj]
 conv=>lhs;rw [h3]
 simp only [flatMap_append,flatMap_cons,append_assoc]
 rw [take_left' h4,drop_append,drop_of_length_le oZ,nil_append,h4,show j*s+s - j*s=s by omega,drop_left' (hs _)]
def Srt (l:List Ub)(i:Nat):Prop:=∀(p q:Nat) (u v:Ub),p<q->q<i->l[p]? = some u->l[q]? = some v->v.ae<=u.ae
structure XI (l:List Ub)(j i:Nat):Prop where
 a:∀(p q:Nat) (u v:Ub),p<q->q<=i->q≠j->p≠j->l[p]? = some u->l[q]? = some v->v.ae<=u.ae
 b:∀(q:Nat) (u v:Ub),j<q->q<=i->l[j]? = some u->l[q]? = some v->v.ae<=u.ae
theorem XI.start {l:List Ub}{i:Nat}(h:Srt l i):XI l i i:=⟨fun p q u v h1 h2 h3 _=>h p q u v h1 oZ,fun q u v h1 h2=>by omega⟩
theorem XJ (l:List Ub){j:Nat}{a b:Ub}(hj:0<j)(hl:j<l.length)(p:Nat):((l.set j a).set (j - 1) b)[p]? = if p=j - 1 then some b else if p=j then some a else l[p]?:=by
 rw [getElem?_set,getElem?_set]
 by_cases h1:j - 1=p
 ·rw [if_pos h1,if_pos (show p=j - 1 from h1.symm),if_pos (by rw [length_set];omega)]
 ·rw [if_neg h1,if_neg (show ¬p=j - 1 from fun e=>h1 e.symm)]
  by_cases h2:j=p
  ·rw [if_pos h2,if_pos (show p=j from h2.symm),if_pos oZ]
  ·rw [if_neg h2,if_neg (show ¬p=j from fun e=>h2 e.symm)]
theorem XI.step {l:List Ub}{j i:Nat}{a b:Ub}(h:XI l j i)(hj:0<j)(hi:j<=i)(hl:i<l.length)(ha:l[j - 1]? = some a)(hb:l[j]? = some b)(br:a.ae<b.ae):XI ((l.set j a).set (j - 1) b) (j - 1) i:=by
 have hs:=XJ l (a:=a) (b:=b) hj oZ
 constructor
 ·intro p q u v h1 h2 h3 h4 hu hv
  rw [hs,if_neg h4] at hu
  rw [hs,if_neg h3] at hv
  by_cases c1:p=j
  ·rw [if_pos c1] at hu;cases hu
   rw [if_neg oZ] at hv
   exact h.a (j - 1) q a v oZ h2 oZ oZ ha hv
  ·rw [if_neg c1] at hu
   by_cases c2:q=j
   ·rw [if_pos c2] at hv;cases hv
    exact h.a p (j - 1) u a oZ oZ oZ c1 hu ha
   ·rw [if_neg c2] at hv
    exact h.a p q u v h1 h2 c2 c1 hu hv
 ·intro q u v h1 h2 hu hv
  rw [hs,if_pos rfl] at hu;cases hu
  rw [hs,if_neg oZ] at hv
  by_cases c2:q=j
  ·rw [if_pos c2] at hv;cases hv;omega
  ·rw [if_neg c2] at hv
   exact h.b q b v oZ h2 hb hv
theorem XI.done {l:List Ub}{j i:Nat}(h:XI l j i)(hd:j=0\/∀a b,l[j - 1]? = some a->l[j]? = some b->b.ae<=a.ae)(hj:j<=i)(hl:i<l.length):Srt l (i+1):=by
 intro p q u v h1 h2 hu hv
 by_cases c1:q=j
 ·subst c1
  rcases hd with h0 | hd
  ·omega
  ·obtain ⟨a,ha⟩:∃a,l[q - 1]? = some a:=⟨_,getElem?_eq_getElem oZ⟩
   have e1:=hd a v ha hv
   by_cases c2:p=q - 1
   ·subst c2;rw [ha] at hu;cases hu;exact e1
   ·have:=h.a p (q - 1) u a oZ oZ oZ oZ hu ha
    omega
 ·by_cases c2:p=j
  ·subst c2;exact h.b q u v h1 oZ hu hv
  ·exact h.a p q u v h1 oZ c1 c2 hu hv
theorem Z6 (l:List Ub){j:Nat}{a b:Ub}(hj:0<j)(hl:j<l.length)(ha:l[j - 1]? = some a)(hb:l[j]? = some b)(u:Ub):u∈(l.set j a).set (j - 1) b↔u∈l:=by
 have hs:=XJ l (a:=a) (b:=b) hj hl
 simp only [mem_iff_getElem?]
 constructor
 ·rintro ⟨p,hp⟩
  rw [hs] at hp
  split at hp
  ·cases hp;exact ⟨j,hb⟩
  ·split at hp
   ·cases hp;exact ⟨j - 1,ha⟩
   ·exact ⟨p,hp⟩
 ·rintro ⟨p,hp⟩
  by_cases c1:p=j - 1
  ·subst c1;rw [ha] at hp;cases hp;exact ⟨j,by rw [hs,if_neg oZ,if_pos rfl]⟩
  ·by_cases c2:p=j
   ·subst c2;rw [hb] at hp;cases hp;exact ⟨p - 1,by rw [hs,if_pos rfl]⟩
   ·exact ⟨p,by rw [hs,if_neg c1,if_neg c2];exact hp⟩
end Go.Sl
namespace Go.Proofs.YtpabnmeponmonaaGreatDoor
theorem UK (O:Chunk)(v:Value)(l:List Ub)(n:Nat)(hn:l.length=n)(u:Ub)(hO:Rd O 12 v n (Hi l)):Ct 169 [v,u.agg] [O] fun w Bs=>w = .bool (decide (u∈l))/\Bs=[O]:=by
 subst hn
 have G1:=hO.2.2.1
 simp only [maxLen] at G1
 obtain ⟨ad,c,rfl⟩:=hO.slice
 refine st func169 fun w0 => ?_
 refine ga ?_;intro b3
 refine ge ?_
 refine ga ?_;intro b4
 refine gl [0,3,6,7] (fun i:Nat=>[(8,.int .i64 i)]) (fun _=>[]) (fun i=>i<=l.length/\u∉l.take i) (fun i=>l.length - i) 0 ⟨by omega,by simp⟩ ?_
 rintro i ⟨hi,hm⟩
 refine gi ?_ ?_ <;> intro br
 ·obtain ⟨x,hx⟩:=eC (show i<l.length by omega)
  have hs:=av Ub.ak l i _ hx
  obtain ⟨g,off,rfl⟩:=hO.addr oZ
  refine gi ?_ ?_ <;> intro he
  ·have he:u.KX x=true:=he
   rw [Ub.Jz] at he
   refine gz ?_
   exact fin ⟨congrArg _ (by rw [decide_eq_true (p:=(0:Int)<=i) oZ,decide_eq_true (p:=u∈l) (he ▸ mem_of_getElem? hx)]),rfl⟩ aa
  ·have he:u.KX x=false:=he
   have ey:u≠x:=fun h=>by rw [(Ub.Jz u x).2 h] at he;cases he
   refine gn ?_
   refine ⟨i+1,⟨by omega, ?_⟩,by omega,ar,_,aa⟩
   obtain ⟨jQ,rfl⟩:=List.getElem?_eq_some_iff.1 hx
   rw [take_succ_eq_append_getElem jQ,List.mem_append,mem_singleton,not_or]
   exact ⟨hm,ey⟩
 ·obtain rfl:i=l.length:=oZ
  rw [take_length] at hm
  refine gz ?_
  exact fin ⟨congrArg _ (by rw [decide_eq_false hm];rfl),rfl⟩ aa
theorem UL (a b:Ub):Ct 171 [a.agg,b.agg] [] fun w Bs=>w = .int .i64 (if b.ae<a.ae then -1 else if a.ae<b.ae then 1 else 0)/\Bs=[]:=by
 refine st func171 fun w0 => ?_
 refine ga ?_;intro b2
 refine ga ?_;intro b3
 refine ge ?_
 refine ge ?_
 refine ge ?_
 refine gi ?_ ?_ <;> intro h1
 ·refine gz ?_
  exact fin ⟨by rw [if_pos oZ],rfl⟩ aa
 ·refine gi ?_ ?_ <;> intro h2
  ·refine gz ?_
   exact fin ⟨by rw [if_neg oZ,if_pos oZ],rfl⟩ aa
  ·refine gz ?_
   exact fin ⟨by rw [if_neg oZ,if_neg oZ],rfl⟩ aa
theorem UM (g n c:Nat)(l:List Ub)(r:List Value)(hn:l.length=n)(hc:n<=1000):Ct 276 [.slice (some ⟨g,0,none⟩) n c,.int .i64 0,.int .i64 n,.func (.func 171) #[] #[]] [[(g,ax (Hi l++r) 123)]] fun _ Bs=>∃l',(∀u,u∈l'↔u∈l)/\l'.length=n/\Srt l' n/\Bs=[[(g,ax (Hi l'++r) 123)]]:=by
 refine st func276 fun w0 => ?_
 refine gl [0,1,2,3] (fun ((i,_):Nat×List Ub)=>[(8,.int .i64 i)]) (fun (_,l)=>[[(g,ax (Hi l++r) 123)]]) (fun (i,l')=>1<=i/\(i<=n\/i=1)/\(∀u,u∈l'↔u∈l)/\l'.length=n/\Srt l' i) (fun (i,_)=>n+1 - i) (1,l) ⟨by omega,.inr rfl,fun _=>Iff.rfl,hn,fun p q u v h1 h2=>by omega⟩ ?_
 rintro ⟨i,l1⟩ ⟨h1,h2,hm,uk,hs⟩
 refine gi ?_ ?_ <;> intro br
 ·refine gl [0,1,2,3,8] (fun ((j,_):Nat×List Ub)=>[(9,.int .i64 j)]) (fun (_,l)=>[[(g,ax (Hi l++r) 123)]]) (fun (j,l')=>j<=i/\(∀u,u∈l'↔u∈l)/\l'.length=n/\XI l' j i) (fun (j,_)=>j) (i,l1) ⟨Nat.le_refl _,hm,uk,.start hs⟩ ?_
  rintro ⟨j,l2⟩ ⟨hj,KD,jK,hb⟩
  have gH:(Hi l2++r).length=n*12+r.length:=by rw [length_append,eU Ub.ak,jK]
  refine gd [0,4,8,12,16,20,24,28,32,36,40,44,48,52,59,62,66] ?_
  refine gg ?_ ?_ <;> intro hj0
  ·obtain ⟨a,ha⟩:=eC (l:=l2) (i:=j - 1) oZ
   obtain ⟨b,UN⟩:=eC (l:=l2) (i:=j) oZ
   have hsa:Sub ((j - 1)*12) a.lay (Hi l2++r):=fun k u hu=>by
    have:=av Ub.ak l2 (j - 1) _ ha k u hu
    rw [getElem?_append_left (List.getElem?_eq_some_iff.1 this).1];exact this
   have PI:Sub (j*12) b.lay (Hi l2++r):=fun k u hu=>by
    have:=av Ub.ak l2 j _ UN k u hu
    rw [getElem?_append_left (List.getElem?_eq_some_iff.1 this).1];exact this
   refine gc (UL b a) ?_
   rintro _ _ ⟨rfl,rfl⟩
   have G1:l2.length<=1000:=oZ
   by_cases br:a.ae<b.ae
   ·rw [if_pos br]
    have hla:=Ub.ak a
    have Lq:=Ub.ak b
    have bh:(ins (j*12) a.lay (Hi l2++r)).length=n*12+r.length:=by rw [AT Ub.ak r a l2 j oZ,length_append,eU Ub.ak,length_set,jK]
    refine gd [0,4,10,14,18,20,24,28,32,36,40,44,48,52,56,63,66,71] ?_
    refine gn ?_
    rw [AT Ub.ak r a l2 j oZ,AT Ub.ak r b _ (j - 1) (by rw [length_set];omega)]
    exact ⟨(j - 1,(l2.set j a).set (j - 1) b),⟨by omega,fun u=>(Z6 l2 oZ oZ ha UN u).trans (KD u),by simp [jK],hb.step oZ hj oZ ha UN br⟩,sOZ,ar,_,aa⟩
   ·have hd:=hb.done (.inr fun a' b' h3 h4=>by rw [ha] at h3;rw [UN] at h4;cases h3;cases h4;omega) hj oZ
    rw [if_neg br]
    obtain ⟨z,hz,hz0⟩:∃z:Int,(if b.ae<a.ae then 1 else 0)=z/\0<=z:=⟨_,rfl,by split <;> omega⟩
    rw [hz]
    refine gn ?_
    exact ⟨(i+1,l2),⟨by omega,.inl oZ,KD,jK,hd⟩,sOZ,ar,_,aa⟩
  ·have hd:=hb.done (.inl oZ) hj oZ
   refine gn ?_
   exact ⟨(i+1,l2),⟨by omega,.inl oZ,KD,jK,hd⟩,sOZ,ar,_,aa⟩
 ·refine gz ?_
  exact fin ⟨l1,hm,uk,fun p q u v h3 h4=>hs p q u v h3 oZ,rfl⟩ aa
end Go.Proofs.YtpabnmeponmonaaGreatDoor
namespace Go.Sl
theorem wP {α:Type}[DecidableEq α]:∀ {l m:List α},l.Nodup->(∀x∈l,x∈m)->l.length<=m.length
 | [],_,_,_=>Nat.zero_le _
 | a :: l,m,hn,hs=>by
  rw [nodup_cons] at hn
  have h1:a∈m:=hs a (mem_cons_self ..)
  have h2:=wP (l:=l) (m:=m.erase a) hn.2 fun x hx=>(mem_erase_of_ne fun e=>hn.1 (by rw [<-e];exact hx)).2 (hs x (mem_cons_of_mem _ hx))
  rw [length_erase_of_mem h1] at h2
  have:=length_pos_of_mem h1
  rw [length_cons];omega
def iD (R:Rk)(n i:Nat)(ring:Nat->Nat->Option Ub):Prop:=∀k j,k<4->j<8->match ring k j with
 | none=>fU (R.now i (ez n k+1+j)) ib=false
 | some u=>R.now i (ez n k+1+j)=whole (jJ u)/\wq u=0/\u.Ok
def zi (ring:Nat->Nat->Option Ub)(pool k j:Nat)(u:Ub):Prop:=∃k' j',(k'<k/\j'<8\/k'=k/\j'<j)/\ring k' j'=some u/\u.pool=pool
theorem Hj {ring:Nat->Nat->Option Ub}{pool k:Nat}{u:Ub}:zi ring pool k 8 u↔zi ring pool (k+1) 0 u:=by
 constructor
 ·rintro ⟨k',j',h,h2⟩;exact ⟨k',j',by omega,h2⟩
 ·rintro ⟨k',j',h,h2⟩;exact ⟨k',j',by omega,h2⟩
theorem jY {ring:Nat->Nat->Option Ub}{pool k j:Nat}{u:Ub}:zi ring pool k (j+1) u↔zi ring pool k j u\/(ring k j=some u/\u.pool=pool):=by
 constructor
 ·rintro ⟨k',j',h,h2⟩
  by_cases c:k'=k/\j'=j
  ·obtain ⟨rfl,rfl⟩:=c;exact .inr h2
  ·exact .inl ⟨k',j',by omega,h2⟩
 ·rintro (⟨k',j',h,h2⟩ | h2)
  ·exact ⟨k',j',by omega,h2⟩
  ·exact ⟨k,j,by omega,h2⟩
end Go.Sl
namespace Go.Proofs.YtpabnmeponmonaaGreatDoor
theorem P7 (v:Value)(D:Chunk)(us:List Ub)(hD:aC D 123 12 v us.length (Hi us))(hl:us.length<=19):Ct 170 [v,.func (.func 171) #[] #[]] [D] fun _ Bs=>∃XK D',(∀u,u∈XK↔u∈us)/\XK.length=us.length/\Srt XK us.length/\aC D' 123 12 v us.length (Hi XK)/\Bs=[D']:=by
 rcases hD.2.2 with ⟨rfl,h0,rfl⟩ | ⟨g,c,r,rfl,rfl,hc,ng,hlen⟩
 ·rw [h0]
  have hz:Ct 276 [.slice none 0 0,.int .i64 0,.int .i64 0,.func (.func 171) #[] #[]] [] fun _ Bs=>Bs=[]:=by
   refine st func276 fun w0 => ?_
   refine gl [0,1,2,3] (fun _:Nat=>[(8,.int .i64 1)]) (fun _=>[]) (fun _=>True) (fun _=>0) 0 trivial ?_
   intro _ _
   refine gz ?_
   exact fin rfl aa
  obtain rfl:=eq_nil_of_length_eq_zero h0
  refine st func170 fun w0 => ?_
  refine ge ?_
  refine gl [0,1,2,6] (fun _:Nat=>[(7,.int .i64 0),(8,.int .i64 20)]) (fun _=>[]) (fun _=>True) (fun _=>0) 0 trivial ?_
  intro _ _
  refine gc hz ?_
  rintro _ _ rfl
  refine gl [0,1,2] (fun _:Nat=>[(6,.int .i64 20)]) (fun _=>[]) (fun _=>True) (fun _=>0) 0 trivial ?_
  intro _ _
  refine gz ?_
  exact fin ⟨[],[],fun _=>Iff.rfl,rfl,fun p q u v h1 h2=>absurd h2 oZ,aC.nil _ _,rfl⟩ aa
 ·have h1:=UM g us.length c us r rfl oZ
  refine st func170 fun w0 => ?_
  refine ge ?_
  refine gl [0,1,2,6] (fun _:Nat=>[(7,.int .i64 0),(8,.int .i64 20)]) (fun _=>[]) (fun _=>True) (fun _=>0) 0 trivial ?_
  intro _ _
  refine gc h1 ?_
  rintro _ _ ⟨XK,hm,jI,hs,rfl⟩
  refine gl [0,1,2] (fun _:Nat=>[(6,.int .i64 20)]) (fun _=>[]) (fun _=>True) (fun _=>0) 0 trivial ?_
  intro _ _
  refine gz ?_
  refine fin ⟨XK,_,hm,jI,hs,⟨by rw [eU Ub.ak,jI],fun x hx => ?_,.inr ⟨g,c,r,rfl,rfl,hc,ng, ?_⟩⟩,rfl⟩ aa
  ·obtain ⟨u,_,hu⟩:=mem_flatMap.1 hx;exact u.bK x hu
  ·rw [eU Ub.ak] at hlen ⊢;rw [jI];exact hlen
theorem EH (T:TypeId)(fr:Nat×Nat)(p:Nat)(qs:List Nat)(R:Rk)(C:Chunk)(hC:bj p qs R C)(i q n a:Nat)(l:fj)(L:Chunk)(hL:PL a q l L)(hq:qs[i]? = some q)(hl:R.live i)(ho:R.off=false)(hn:R.size i=n)(h:324<=n/\n<=8192)
  (ring:Nat->Nat->Option Ub) (hr:iD R n i ring) (U:List Ub) (hU:U.length<=19) (Hk:∀k j u,ring k j=some u->u∈U):Ct 109 [ptr a] [gK T fr,C,L] fun v Bs =>
  ∃us D,aC D 123 12 v us.length (Hi us)/\(∀u,u∈us↔∃k j,k<4/\j<8/\ring k j=some u/\u.pool=l.pool)/\Srt us us.length/\Bs=[D,gK T fr,C,L]:=by
 obtain ⟨ad,c,D0,z1,z2,z3,Gb,rfl⟩:=hL
 refine st func109 fun w0 => ?_
 refine gs ?_
 refine gc (qQ p qs R C hC i q n hq hn h) ?_
 rintro _ _ ⟨rfl,rfl⟩
 refine gl [0,15] (fun ((k,_,v,_):Nat×List Ub×Value×Chunk)=>[(16,.int .i64 k),(3,v)]) (fun (_,_,_,D)=>[D]) (fun (k,us,v,D)=>k<=4/\us.Nodup/\(∀u,u∈us↔zi ring l.pool k 0 u)/\aC D 123 12 v us.length (Hi us)) (fun (k,_)=>4 - k) (0,[],.slice none 0 0,[]) ⟨by omega,by simp,fun u=>⟨(fun hu=>by cases hu),(fun ⟨k',j',h1,_⟩=>by omega)⟩,aC.nil _ _⟩ ?_
 rintro ⟨k,us,v,D⟩ ⟨hk,eF,hm,hD⟩
 refine gi ?_ ?_ <;> intro br
 ·have Nr:k<4:=oZ
  have Gc:=AP n Nr
  have mU:=AO (k:=k) h.1
  refine gl [0,15,5,16] (fun ((j,_,v,_):Nat×List Ub×Value×Chunk)=>[(19,.int .u64 j),(3,v)]) (fun (_,_,_,D)=>[D]) (fun (j,us,v,D)=>j<=8/\us.Nodup/\(∀u,u∈us↔zi ring l.pool k j u)/\aC D 123 12 v us.length (Hi us)) (fun (j,_)=>8 - j) (0,us,v,D) ⟨by omega,eF,hm,hD⟩ ?_
  rintro ⟨j,us,v,D⟩ ⟨hj,eF,hm,hD⟩
  refine gi ?_ ?_ <;> intro qI
  ·have P8:j<8:=oZ
   have Ao:us.length<=19:=Nat.le_trans (wP eF fun u hu=>by obtain ⟨k',j',_,h2,_⟩:=(hm u).1 hu;exact Hk _ _ _ h2) hU
   have hrk:=hr k j Nr P8
   obtain ⟨lV,fS⟩:=lq hC.ok (i:=i) (a:=ez n k+1+j) oZ
   refine rQ [[(a,XB q l (.slice ad l.aN.length c) z1 z2 z3)]] [0,4,8,12,16,20,25,31,34,38,42,46,50] ?_
   refine ge ?_
   rw [Nat.mod_eq_of_lt P8]
   refine gc (n0 p qs R C hC i q (ez n k+1+j) 1 hq hl oZ) ?_
   rintro _ _ (⟨dS,rfl,rfl⟩ | ⟨-,g,rfl,rfl⟩)
   ·rw [ho] at dS;cases dS
   rw [lV]
   have hg:Rd [(g,ax (au (R.now i (ez n k+1+j))) 5)] 1 (.slice (some ⟨g,0,none⟩) 128 128) 128 (au (R.now i (ez n k+1+j))):=ay (by rw [aq,fS]) (aP _) oZ _
   cases Nn:ring k j with
   | none =>
    rw [Nn] at hrk
    refine gc (Ed T fr _ _ 128 _ fS oZ hg hrk) ?_
    rintro _ _ ⟨rfl,rfl⟩
    refine ga ?_;intro b9
    refine gd [0,4,8,12,16,20,24,28,32,36,40,44,48,52,56,63,66,70] ?_
    refine gn ?_
    exact ⟨(j+1,us,v,D),⟨by omega,eF,fun u=>(hm u).trans (by rw [jY,Nn];simp),hD⟩,sOZ,ar,_,aa⟩
   | some u =>
    rw [Nn] at hrk
    obtain ⟨hr1,hr2,hr3⟩:=hrk
    rw [hr1] at hg ⊢
    refine gc (G7 T fr _ _ 128 u hr2 hr3 oZ hg) ?_
    rintro _ _ ⟨rfl,rfl⟩
    refine ga ?_;intro b9
    refine gd [0,4,8,12,16,20,24,28,32,36,40,44,48,52,56,63,66,70] ?_
    by_cases hp:u.pool=l.pool
    ·refine gc (UK D v us us.length rfl u hD.rd) ?_
     rintro _ _ ⟨rfl,rfl⟩
     by_cases jH:u∈us
     ·rw [decide_eq_true jH]
      refine gn ?_
      exact ⟨(j+1,us,v,D),⟨by omega,eF,fun u'=>⟨fun h'=>jY.2 (.inl ((hm u').1 h')),fun h'=>by
       rcases jY.1 h' with h' | ⟨h1,h2⟩
       ·exact (hm u').2 h'
       ·rw [Nn] at h1;cases h1;exact jH⟩,hD⟩,sOZ,ar,_,aa⟩
     ·rw [decide_eq_false jH]
      refine gm ?_;intro xX
      have XA:Rd [(xX,ax u.lay 123)] 12 (.slice (some ⟨xX,0,none⟩) 1 1) 1 u.lay:=ay (Ub.ak u) u.bK oZ _
      refine gp ?_;intro ia c3 C3 kP
      refine gn ?_
      refine ⟨(j+1,us++[u],_,C3),⟨by omega, ?_,fun u' => ?_, ?_⟩,sOZ,ar,_,aa⟩
      ·rw [nodup_append];exact ⟨eF,by simp,fun x hx y hy e=>jH (by rw [mem_singleton.1 hy] at e;rw [<-e];exact hx)⟩
      ·rw [List.mem_append,hm,jY,Nn,mem_singleton]
       constructor
       ·rintro (h' | rfl)
        ·exact .inl h'
        ·exact .inr ⟨rfl,hp⟩
       ·rintro (h' | ⟨h1,h2⟩)
        ·exact .inl h'
        ·cases h1;exact .inr rfl
      ·rw [length_append];simpa [Hi] using kP
    ·refine gn ?_
     exact ⟨(j+1,us,v,D),⟨by omega,eF,fun u'=>(hm u').trans (by
      rw [jY,Nn]
      constructor
      ·exact .inl
      ·rintro (h' | ⟨h1,h2⟩)
       ·exact h'
       ·cases h1;exact absurd h2 hp),hD⟩,sOZ,ar,_,aa⟩
  ·obtain rfl:j=8:=oZ
   refine gn ?_
   exact ⟨(k+1,us,v,D),⟨by omega,eF,fun u=>(hm u).trans Hj,hD⟩,sOZ,ar,_,aa⟩
 ·obtain rfl:k=4:=oZ
  have Ao:us.length<=19:=Nat.le_trans (wP eF fun u hu=>by obtain ⟨k',j',_,h2,_⟩:=(hm u).1 hu;exact Hk _ _ _ h2) hU
  refine gc (P7 v D us hD Ao) ?_
  rintro _ _ ⟨XK,D',hm',jI,Nt,eJ,rfl⟩
  rw [<-jI] at Nt eJ
  refine gz ?_
  exact fin ⟨XK,D',eJ,fun u=>(hm' u).trans ((hm u).trans ⟨fun ⟨k',j',h1,h2,h3⟩=>⟨k',j',by omega,by omega,h2,h3⟩,fun ⟨k',j',h1,h2,h3,h4⟩=>⟨k',j',.inl ⟨h1,h2⟩,h3,h4⟩⟩),Nt,rfl⟩ aa
end Go.Proofs.YtpabnmeponmonaaGreatDoor
