/-
  Texts put together (8).
-/
import Derived.Test.YtcfioaeamfappaaGreatDoorZTopFull7
namespace Go.Sl
def xr (a b:List UInt8):List UInt8:=List.zipWith (· ^^^ ·) a b
def Gc:List UInt8:=List.replicate 128 0
theorem CJ:Gc.length=128:=List.length_replicate
def kI (l:List (List UInt8)):List UInt8:=l.foldl xr Gc
section
variable {a b c:List UInt8}
theorem Of (ha:a.length=128)(hb:b.length=128):(xr a b).length=128:=by simp [xr,ha,hb]
theorem Tj (a b:List UInt8):xr a b=xr b a:=by
 unfold xr
 exact List.zipWith_comm_of_comm fun x y=>UInt8.xor_comm x y
theorem Og (a b c:List UInt8):xr (xr a b) c=xr a (xr b c):=by
 induction a generalizing b c with
 | nil=>simp [xr]
 | cons x a ih =>
  cases b with
  | nil=>simp [xr]
  | cons y b =>
   cases c with
   | nil=>simp [xr]
   | cons z c =>
    have:=ih b c
    simp only [xr,List.zipWith_cons_cons] at this ⊢
    rw [this,UInt8.xor_assoc]
theorem J9 (a:List UInt8):xr a (List.replicate a.length 0)=a:=by
 induction a with
 | nil=>rfl
 | cons x a ih =>
  simp only [xr,List.zipWith_cons_cons,List.length_cons,List.replicate_succ] at ih ⊢
  rw [ih,UInt8.xor_zero]
theorem Im (ha:a.length=128):xr a Gc=a:=by
 have:=J9 a
 rwa [ha] at this
theorem Tl (ha:a.length=128):xr Gc a=a:=by rw [Tj,Im ha]
end
def rq (l:List (List UInt8)):Prop:=∀s∈l,s.length=128
theorem rq.take {l:List (List UInt8)}(h:rq l)(n:Nat):rq (l.take n):=fun s hs=>h s (List.mem_of_mem_take hs)
theorem rq.drop {l:List (List UInt8)}(h:rq l)(n:Nat):rq (l.drop n):=fun s hs=>h s (List.mem_of_mem_drop hs)
theorem ru:∀(l:List (List UInt8)) (z:List UInt8),rq l->z.length=128->l.foldl xr z=xr z (kI l)/\(l.foldl xr z).length=128
 | [],z,_,hz=>⟨(Im hz).symm,hz⟩
 | s :: l,z,h,hz=>by
  have hs:=h s (List.mem_cons_self ..)
  have hl:rq l:=fun t ht=>h t (List.mem_cons_of_mem _ ht)
  obtain ⟨h1,h2⟩:=ru l (xr z s) hl (Of hz hs)
  obtain ⟨h3,h4⟩:=ru l (xr Gc s) hl (Of CJ hs)
  refine ⟨?_,h2⟩
  show l.foldl xr (xr z s)=xr z (l.foldl xr (xr Gc s))
  rw [h1,h3,Tl hs,Og]
theorem CK {l:List (List UInt8)}(h:rq l):(kI l).length=128:=(ru l Gc h CJ).2
theorem Kb {s:List UInt8}{l:List (List UInt8)}:kI (l++[s])=xr (kI l) s:=by unfold kI;rw [List.foldl_append];rfl
def pM (w:Nat):Nat->List (List UInt8)->List (List UInt8)
 | 0,_=>[]
 | k+1,ds=>if ds=[] then [] else (kI (ds.take (w - 1)) :: ds.take (w - 1))++pM w k (ds.drop (w - 1))
def Gf (w:Nat)(ds:List (List UInt8)):List (List UInt8):=pM w ds.length ds
theorem CO (w k:Nat):pM w k []=[]:=by cases k <;> simp [pM]
theorem CP {w:Nat}(hw:2<=w):∀(k:Nat) (ds:List (List UInt8)),ds.length<=k->(pM w k ds).length=ds.length+(ds.length+(w - 2)) / (w - 1)
 | 0,ds,hk=>by
  have:ds=[]:=List.length_eq_zero_iff.1 oZ
  subst this
  simp only [pM,List.length_nil,Nat.zero_add]
  exact (Nat.div_eq_of_lt oZ).symm
 | k+1,ds,hk=>by
  rw [pM]
  split
  ·rename_i q;subst q
   simp only [List.length_nil,Nat.zero_add]
   exact (Nat.div_eq_of_lt oZ).symm
  ·rename_i q
   have Jm:0<ds.length:=List.length_pos_iff.2 q
   rw [List.length_append,List.length_cons,List.length_take,CP hw k _ (by rw [List.length_drop];omega),List.length_drop]
   by_cases hl:w - 1<=ds.length
   ·rw [Nat.min_eq_left hl]
    have e:(ds.length+(w - 2)) / (w - 1)=(ds.length - (w - 1)+(w - 2)) / (w - 1)+1:=by
     rw [show ds.length+(w - 2)=(ds.length - (w - 1)+(w - 2))+(w - 1) by omega,Nat.add_div_right _ oZ]
    omega
   ·rw [Nat.min_eq_right oZ,show ds.length - (w - 1)=0 by omega,Nat.zero_add,Nat.div_eq_of_lt (show 0+(w - 2)<w - 1 by omega)]
    have:(ds.length+(w - 2)) / (w - 1)=1:=by
     rw [Nat.div_eq_iff oZ]
     constructor <;> omega
    omega
def eZ (w:Nat):Nat->List (List UInt8)->List UInt8
 | _,[]=>[]
 | i,s :: l=>(if i % w=0 then [] else s)++eZ w (i+1) l
theorem pN (w:Nat):∀(i:Nat) (a b:List (List UInt8)),eZ w i (a++b)=eZ w i a++eZ w (i+a.length) b
 | i,[],b=>rfl
 | i,s :: a,b=>by
  rw [List.cons_append,eZ,eZ,pN w (i+1) a b,List.append_assoc,List.length_cons,Nat.add_right_comm,<-Nat.add_assoc]
theorem va (w:Nat):∀(i:Nat) (l:List (List UInt8)),eZ w (i+w) l=eZ w i l
 | i,[]=>rfl
 | i,s :: l=>by
  rw [eZ,eZ,Nat.add_mod_right,show i+w+1=(i+1)+w by omega,va w (i+1) l]
theorem CQ (w:Nat):∀(i:Nat) (l:List (List UInt8)),0<i % w->i % w+l.length<=w->eZ w i l=l.flatten
 | i,[],_,_=>rfl
 | i,s :: l,hi,hl=>by
  rw [eZ,if_neg oZ,List.flatten_cons]
  cases l with
  | nil=>rfl
  | cons t l =>
   have h1:i % w+1<w:=by simp only [List.length_cons] at hl;omega
   have h2:(i+1) % w=i % w+1:=by rw [Nat.add_mod,Nat.mod_eq_of_lt (show 1<w by omega),Nat.mod_eq_of_lt h1]
   rw [CQ w (i+1) (t :: l) oZ (by rw [h2];simp only [List.length_cons] at hl ⊢;omega)]
theorem CR {w:Nat}(hw:2<=w):∀(k:Nat) (ds:List (List UInt8)),ds.length<=k->eZ w 0 (pM w k ds)=ds.flatten
 | 0,ds,hk=>by
  have:ds=[]:=List.length_eq_zero_iff.1 oZ
  subst this;rfl
 | k+1,ds,hk=>by
  rw [pM]
  split
  ·rename_i q;subst q;rfl
  ·rw [pN,eZ,if_pos (Nat.zero_mod w),List.nil_append,Nat.zero_add]
   have h1:(1:Nat) % w=1:=Nat.mod_eq_of_lt oZ
   rw [CQ w 1 _ oZ (by rw [h1,List.length_take];omega)]
   by_cases hl:w - 1<=ds.length
   ·have hlen:(kI (ds.take (w - 1)) :: ds.take (w - 1)).length=w:=by rw [List.length_cons,List.length_take];omega
    rw [Nat.zero_add,hlen]
    have:=va w 0 (pM w k (ds.drop (w - 1)))
    rw [Nat.zero_add] at this
    rw [this,CR hw k _ (by rw [List.length_drop];omega),<-List.flatten_append,List.take_append_drop]
   ·rw [List.drop_of_length_le oZ,CO,eZ,List.append_nil,List.take_of_length_le oZ]
def ly {α β:Type}(P:α->β->Prop)(al:List α)(bl:List β):Prop:=al.length=bl.length/\∀(i:Nat) (a:α) (b:β),al[i]? = some a->bl[i]? = some b->P a b
section
variable {α β:Type}{P Q:α->β->Prop}{al al2:List α}{bl bl2:List β}{a:α}{b:β}
theorem ly.nil:ly P [] []:=⟨rfl,fun i a b h=>by simp at h⟩
theorem ly.imp (h:ly P al bl)(k:∀a b,P a b->Q a b):ly Q al bl:=⟨h.1,fun i a b h1 h2=>k a b (h.2 i a b h1 h2)⟩
theorem ly.snoc (h:ly P al bl)(k:P a b):ly P (al++[a]) (bl++[b]):=by
 refine ⟨by simp [h.1],fun i x y h1 h2 => ?_⟩
 have hl:=h.1
 by_cases hi:i<al.length
 ·rw [List.getElem?_append_left hi] at h1
  rw [List.getElem?_append_left oZ] at h2
  exact h.2 i x y h1 h2
 ·rw [List.getElem?_append_right oZ] at h1
  rw [List.getElem?_append_right oZ] at h2
  have Rz:i - al.length=0:=by have:=(List.getElem?_eq_some_iff.1 h1).1;simp at this;omega
  rw [Rz] at h1
  rw [show i - bl.length=0 by omega] at h2
  simp at h1 h2
  rw [<-h1,<-h2];exact k
theorem ly.get (h:ly P al bl){i:Nat}(hi:i<al.length):∃a b,al[i]? = some a/\bl[i]? = some b/\P a b:=by
 have hl:=h.1
 have h1:=List.getElem?_eq_getElem hi
 have h2:=List.getElem?_eq_getElem (show i<bl.length by omega)
 exact ⟨_,_,h1,h2,h.2 i _ _ h1 h2⟩
end
theorem Io:∀ {a b:List UInt8},a.length=b.length->mf a b=xr a b
 | [],[],_=>rfl
 | x :: a,y :: b,h=>by
  have ih:=Io (a:=a) (b:=b) (by simpa using h)
  simp only [mf,xr,List.zipWith_cons_cons] at ih ⊢
  rw [ih]
 | [],_ :: _,h=>by simp at h
 | _ :: _,[],h=>by simp at h
def vb (D:Chunk)(v:Value)(s:List UInt8):Prop:=s.length=128/\Rd D 1 v 128 (ak s)/\∃ad c,v = .slice ad 128 c/\128<=c
theorem vb.sub {D E:Chunk}{v:Value}{s:List UInt8}(h:vb D v s)(hs:∀x∈D,x∈E):vb E v s:=⟨h.1,h.2.1.sub hs,h.2.2⟩
theorem vb.addr {D:Chunk}{v:Value}{s:List UInt8}(h:vb D v s):∃g off c,v = .slice (some ⟨g,off,none⟩) 128 c/\128<=c:=by
 obtain ⟨h1,h2,ad,c,rfl,hc⟩:=h
 obtain ⟨g,off,rfl⟩:=h2.addr oZ
 exact ⟨g,off,c,rfl,hc⟩
def eO (D:Chunk)(vs:List Value)(ss:List (List UInt8)):Prop:=ly (vb D) vs ss
section
variable {D E:Chunk}{vs us:List Value}{ss ts:List (List UInt8)}
theorem eO.rn (h:eO D vs ss):rq ss:=fun s hs=>by
 obtain ⟨i,hi,rfl⟩:=List.mem_iff_getElem.1 hs
 obtain ⟨v,b,h1,h2,h3⟩:=ly.get h (i:=i) (by rw [h.1];exact hi)
 rw [List.getElem?_eq_getElem hi] at h2
 cases h2;exact h3.1
theorem eO.sub (h:eO D vs ss)(hs:∀x∈D,x∈E):eO E vs ss:=h.imp fun _ _ q=>q.sub hs
theorem eO.at (h:eO D vs ss){i:Nat}(hi:i<ss.length):∃v,vs[i]? = some v/\vb D v ss[i]:=by
 obtain ⟨v,b,h1,h2,h3⟩:=ly.get h (i:=i) (by rw [h.1];exact hi)
 rw [List.getElem?_eq_getElem hi] at h2
 cases h2;exact ⟨v,h1,h3⟩
theorem eO.app (h:eO D vs ss)(k:eO D us ts):eO D (vs++us) (ss++ts):=by
 refine ⟨by rw [List.length_append,List.length_append,h.1,k.1],fun i a b h1 h2 => ?_⟩
 by_cases hi:i<vs.length
 ·rw [List.getElem?_append_left hi] at h1
  rw [List.getElem?_append_left (by rw [<-h.1];exact hi)] at h2
  exact h.2 i a b h1 h2
 ·rw [List.getElem?_append_right oZ] at h1
  rw [List.getElem?_append_right (by rw [<-h.1];omega),<-h.1] at h2
  exact k.2 _ a b h1 h2
end
theorem Kc (wd:Nat)(kf:Nat)(ds:List (List UInt8))(h:ds≠[])(hk:ds.length<=kf)(hw:2<=wd):∃kf',pM wd kf ds=(kI (ds.take (wd - 1)) :: ds.take (wd - 1))++pM wd kf' (ds.drop (wd - 1))/\(ds.drop (wd - 1)).length<=kf':=by
 cases kf with
 | zero=>exact absurd (List.length_eq_zero_iff.1 oZ) h
 | succ kf =>
  refine ⟨kf,by rw [pM,if_neg h], ?_⟩
  have:=List.length_pos_iff.2 h
  rw [List.length_drop];omega
theorem CT:∀(k:Nat) (l:List UInt8) (i:Nat),i<k->(sR k l)[i]? = some ((l.drop (i*128)).take 128)
 | k+1,l,0,_=>by simp [sR]
 | k+1,l,i+1,h=>by
  rw [sR,List.getElem?_cons_succ,CT k _ i oZ,List.drop_drop,show 128+i*128=(i+1)*128 by omega]
def iW (w:Nat)(b:List UInt8):List eF:=Gf w (kG b)
def dG (w n:Nat):Nat:=aD n+(aD n+(w - 2)) / (w - 1)
theorem Gg (b:List UInt8):rq (kG b):=(kH b).1
theorem pO {w:Nat}(hw:2<=w)(b:List UInt8):(iW w b).length=dG w b.length:=by
 unfold iW Gf dG
 rw [CP hw _ _ (Nat.le_refl _),gX]
theorem CU {w:Nat}(hw:2<=w)(b:List UInt8):eZ w 0 (iW w b)=jD b:=by
 unfold iW Gf
 rw [CR hw _ _ (Nat.le_refl _),(kH b).2]
theorem mD {w n:Nat}(hw:3<=w)(hn:1<=n/\n<=1024):2<=dG w n/\dG w n<=12/\aD n<=dG w n:=by
 have h1:1<=aD n/\aD n<=8:=by unfold aD;omega
 unfold dG
 have h2:1<=(aD n+(w - 2)) / (w - 1):=by rw [Nat.le_div_iff_mul_le oZ];omega
 have h3:(aD n+(w - 2)) / (w - 1)<=(aD n+1) / 2:=by
  rw [Nat.div_le_iff_le_mul_add_pred oZ]
  obtain ⟨v,rfl⟩:∃v,w=v+3:=⟨w - 3,by omega⟩
  have:(v+3 - 1)*((aD n+1) / 2)=2*((aD n+1) / 2)+v*((aD n+1) / 2):=by rw [show v+3 - 1=2+v by omega,Nat.add_mul]
  rcases Nat.eq_zero_or_pos v with rfl | hv
  ·omega
  ·have h4:1<=(aD n+1) / 2:=by omega
   have h5:(aD n+1) / 2<=v*((aD n+1) / 2):=Nat.le_mul_of_pos_left _ hv
   have h6:v<=v*((aD n+1) / 2):=Nat.le_mul_of_pos_right _ h4
   omega
 omega
def nH (ls:List (Option Lv))(at_:Nat)(b:List UInt8)(k:Nat):List Ev:=match ls[(at_+k) % ls.length]?,(iW ls.length b)[k]? with
 | some (some x),some s=>fS x.i (274+(at_+k) / ls.length) [s]
 | _,_=>[]
theorem CV (ls:List (Option Lv))(at_:Nat)(b:List UInt8)(k:Nat):(nH ls at_ b k).length<=1:=by
 unfold nH;split
 ·rw [fm];simp
 ·simp
theorem Oh (n:Nat):List.replicate n (Value.int .u8 0)=ak (List.replicate n 0):=by simp [ak]
end Go.Sl
namespace Go.Proofs.YtcfioaeamfappaaGreatDoor
open Go.Sl
set_option maxRecDepth 10000
set_option maxHeartbeats 4000000
abbrev tq (vl vk:Value)(sz:Int):Obj:=av [vl,vk,.int .i64 sz] 229
def Kd (m:Nat)(ls:List (Option Lv))(sz:Nat)(M:Chunk):Prop:=∃ad c Cv g,
 az Cv 108 1 (.slice ad ls.length c) ls.length (ls.map iv) /\
 M=[(m,tq (.slice ad ls.length c) (.slice (some ⟨g,0,none⟩) ls.length ls.length) sz)]++(Cv++[(g,av (List.replicate ls.length (.pointer none)) 399)])
theorem aa7 (V D:Chunk)(v:Value)(n:Nat)(vs:List Value)(ss:List (List UInt8))(hV:Rd V 1 v n vs)(hn:ss.length=n)(hD:eO D vs ss)(hl:n<=1000) :
  Ct 342 [v] [V,D] fun u Bs=>∃g,u = .slice (some ⟨g,0,none⟩) 128 128/\Bs=[[(g,av (ak (kI ss)) 5)],V,D]:=by
 obtain ⟨ad,c,rfl⟩:=hV.slice
 have Ik:=hD.rn
 refine st Tryz.func342 fun w0 => ?_
 refine gm ?_;intro g8
 rw [show List.replicate 128 (Value.int .u8 0)=ak (kI (ss.take 0)) from Oh 128]
 refine gl [3,9,10] (fun i:Nat=>[(11,.int .i64 i)]) (fun i=>[[(g8,av (ak (kI (ss.take i))) 5)]]) (fun i=>i<=n) (fun i=>n - i) 0 oZ ?_
 rintro i hi
 refine gi ?_ ?_ <;> intro bh
 ·have bo:i<ss.length:=by omega
  obtain ⟨vi,Ym,Ip⟩:=hD.at bo
  obtain ⟨g,off,rfl⟩:=hV.addr oZ
  obtain ⟨gs_,os,cs,rfl,Mt⟩:=Ip.addr
  obtain ⟨sx,hsx⟩:∃sx,sx=ss[i]:=⟨_,rfl⟩
  rw [<-hsx] at Ip
  have fM:=Ip.1
  have V6:=Ip.2.1
  obtain ⟨X,hX⟩:∃X,X=kI (ss.take i):=⟨_,rfl⟩
  have hXl:X.length=128:=by rw [hX];exact CK (Ik.take i)
  have yf:kI (ss.take (i+1))=mf X sx:=by rw [<-List.take_append_getElem bo,Kb,<-hX,<-hsx,Io oZ]
  rw [<-hX,show ak X=ak (mf X (sx.take 0)) by rw [List.take_zero,MI]]
  refine gl [3,9,10,11,15,16] (fun j:Nat=>[(17,.int .i64 j)]) (fun j=>[[(g8,av (ak (mf X (sx.take j))) 5)]]) (fun j=>j<=128) (fun j=>128 - j) 0 oZ ?_
  rintro j hj
  refine gi ?_ ?_ <;> intro pD
  ·have oV:j<128:=by omega
   obtain ⟨q,hq⟩:=eB (l:=sx) (i:=j) oZ
   obtain ⟨y,hy⟩:=eB (l:=X) (i:=j) oZ
   have hyi:(mf X (sx.take j))[j]? = some y:=by rw [mX _ _ _ (by rw [List.length_take];omega)];exact hy
   have Fc:=acp y q
   have hlen:(ak (mf X (sx.take j))).length=128:=by rw [ai,im];omega
   have cu:=Jn hy hq
   refine gn ?_
   rw [SY,cu]
   exact ⟨j+1,by omega,by omega,aq,_,aa⟩
  ·obtain rfl:j=128:=by omega
   rw [List.take_of_length_le oZ,<-yf]
   refine gn ?_
   exact ⟨i+1,by omega,by omega,aq,_,aa⟩
 ·obtain rfl:i=n:=by omega
  rw [<-hn,List.take_length]
  refine gz ?_
  exact fin ⟨g8,rfl,rfl⟩ aa
theorem j5 (m:Nat)(ad:Option Addr)(w c:Nat)(vk:Value)(z:Int):Ct 332 [ptr m] [[(m,tq (.slice ad w c) vk z)]] fun u Bs=>u = .int .i64 w/\Bs=[[(m,tq (.slice ad w c) vk z)]]:=by
 refine st Tryz.func332 fun w0 => ?_
 refine gz ?_
 exact fin ⟨rfl,rfl⟩ aa
theorem Yw (a b:Nat)(hb:1<=b/\b<=1000)(ha:a<=1000000):Ct 331 [.int .i64 a,.int .i64 b] [] fun u Bs=>u = .int .i64 ((a+b - 1) / b:Nat)/\Bs=[]:=by
 have h1:IntKind.i64.wrap ((a:Int)+b)=((a+b:Nat):Int):=by rw [IntWalk.i64_in _ oZ];omega
 have hd:=VU (x:=a+b - 1) (y:=b) oZ
 refine st Tryz.func331 fun w0 => ?_
 refine gz ?_
 exact fin ⟨rfl,rfl⟩ aa
theorem zO (m:Nat)(ad:Option Addr)(w c:Nat)(vk:Value)(z:Int)(hw:3<=w/\w<=5)(b:Nat)(hb:1<=b/\b<=1024):Ct 325 [ptr m,.int .i64 b] [[(m,tq (.slice ad w c) vk z)]] fun u Bs=>u = .int .i64 (dG w b)/\Bs=[[(m,tq (.slice ad w c) vk z)]]:=by
 have h8:(b+128 - 1) / 128=aD b:=by unfold aD;omega
 have hs:aD b<=8:=by unfold aD;omega
 have h1:=Yw b 128 oZ oZ
 rw [h8] at h1
 have h2:=Yw (aD b) (w - 1) oZ oZ
 rw [show aD b+(w - 1) - 1=aD b+(w - 2) by omega] at h2
 obtain ⟨q,hq⟩:∃q,q=(aD b+(w - 2)) / (w - 1):=⟨_,rfl⟩
 have hq2:q<=100:=by rw [hq];exact Nat.le_trans (Nat.div_le_self ..) oZ
 rw [<-hq] at h2
 have he:dG w b=aD b+q:=by rw [dG,hq]
 rw [he]
 refine st Tryz.func325 fun w0 => ?_
 refine gc h1 ?_
 rintro _ _ ⟨rfl,rfl⟩
 refine gc (j5 m ad w c vk z) ?_
 rintro _ _ ⟨rfl,rfl⟩
 refine gc h2 ?_
 rintro _ _ ⟨rfl,rfl⟩
 have ha:IntKind.i64.wrap ((aD b:Int)+q)=((aD b+q:Nat):Int):=by rw [IntWalk.i64_in _ oZ];omega
 refine gz ?_
 exact fin ⟨rfl,rfl⟩ aa
theorem Iq (m:Nat)(ad:Option Addr)(w c:Nat)(vk:Value)(z:Nat)(hw:3<=w/\w<=5)(hz:z<=10000):Ct 327 [ptr m] [[(m,tq (.slice ad w c) vk z)]] fun u Bs=>u = .int .i64 ((w*z:Nat):Int)/\Bs=[[(m,tq (.slice ad w c) vk z)]]:=by
 have Yx:w*z<=50000:=Nat.mul_le_mul hw.2 hz
 have hm:IntKind.i64.wrap ((w:Int)*z)=((w*z:Nat):Int):=by rw [<-Int.natCast_mul,IntWalk.i64_in _ oZ]
 refine st Tryz.func327 fun w0 => ?_
 refine gd [0,8,12,16,20,5,24,28] ?_
 refine gc (j5 m ad w c vk z) ?_
 rintro _ _ ⟨rfl,rfl⟩
 refine gz ?_
 exact fin ⟨rfl,rfl⟩ aa
theorem Ir (m:Nat)(ad:Option Addr)(w c:Nat)(vk:Value)(z:Nat)(hw:3<=w/\w<=5)(hz:z<=10000)(at_ b:Nat)(hb:1<=b/\b<=1024)(hf:at_+dG w b<=w*z):Ct 336 [ptr m,.int .i64 at_,.int .i64 b] [[(m,tq (.slice ad w c) vk z)]] fun u Bs=>u = .bool true/\Bs=[[(m,tq (.slice ad w c) vk z)]]:=by
 have Yx:w*z<=50000:=Nat.mul_le_mul hw.2 hz
 have V8:=mD hw.1 hb
 have hs:=Iq m ad w c vk z hw hz
 generalize w*z=S at *
 refine st Tryz.func336 fun w0 => ?_
 refine gc (zO m ad w c vk z hw b hb) ?_
 rintro _ _ ⟨rfl,rfl⟩
 refine gc hs ?_
 rintro _ _ ⟨rfl,rfl⟩
 refine gc hs ?_
 rintro _ _ ⟨rfl,rfl⟩
 have j3:IntKind.i64.wrap ((S:Int) - at_)=((S - at_:Nat):Int):=by rw [IntWalk.i64_in _ oZ];omega
 refine gz ?_
 rw [decide_eq_true oZ]
 exact fin ⟨rfl,rfl⟩ aa
set_option maxHeartbeats 2000000
theorem Ke (m:Nat)(ad:Option Addr)(w c:Nat)(vk:Value)(z:Int)(hw:3<=w/\w<=5)(b:List UInt8)(n:Nat)(hb:b.length=n)(hn:1<=n/\n<=1024)(O:Chunk)(v:Value)(hO:Rd O 1 v n (ak b)) :
  Ct 337 [ptr m,v] [[(m,tq (.slice ad w c) vk z)],O] fun u Bs=>∃Co D vs,az Co 28 1 u (iW w b).length vs/\eO D vs (iW w b)/\Bs=[Co,D,[(m,tq (.slice ad w c) vk z)],O]:=by
 subst hb
 obtain ⟨gf,cb,rfl⟩:=hO.slice
 obtain ⟨k,hk⟩:∃k,k=aD b.length:=⟨_,rfl⟩
 have hkb:1<=k/\k<=8/\b.length<=k*128:=by rw [hk];unfold aD;omega
 have h8:(b.length+128 - 1) / 128=k:=by rw [hk];unfold aD;omega
 have h1:=Yw b.length 128 oZ oZ
 rw [h8] at h1
 obtain ⟨pb,hpb⟩:∃pb,pb=jD b:=⟨_,rfl⟩
 have mj:pb.length=k*128:=by rw [hpb,u9,hk]
 obtain ⟨ds,A8⟩:∃ds,ds=kG b:=⟨_,rfl⟩
 have sQ:ds.length=k:=by rw [A8,gX,hk]
 have ac9:∀i (h:i<k),ds[i]'oZ=(pb.drop (i*128)).take 128:=fun i h=>by
  have:=CT k pb i h
  have e:ds[i]? = (sR k pb)[i]?:=by rw [A8,hpb,hk];rfl
  rw [this,List.getElem?_eq_getElem oZ] at e
  exact Option.some.inj e
 have aa8:rq ds:=by rw [A8];exact Gg b
 have u4:iW w b=Gf w ds:=by rw [iW,A8]
 rw [u4]
 refine st Tryz.func337 fun w0 => ?_
 refine gc h1 ?_
 rintro _ _ ⟨rfl,rfl⟩
 refine gm ?_;intro g
 have zI:(List.replicate (k*128) (Value.int .u8 0)).take 0++(ak b).take (min b.length (k*128))++(List.replicate (k*128) (Value.int .u8 0)).drop (0+min b.length (k*128))=ak pb:=by
  rw [Nat.min_eq_left hkb.2.2,List.take_zero,List.nil_append,List.take_of_length_le (by rw [ai];omega),Nat.zero_add,List.drop_replicate,hpb,jD,aE,<-hk]
  simp [ak]
 refine gy ?_
 refine gl [0] (fun ((p,_,_,_,_,vo,_,Wa,ca):Nat×List eF×Nat×Chunk×Chunk×Value×List Value×Option Addr×Nat)=>[(5,.slice Wa (k*128 - p*128) ca),(6,vo)]) (fun (_,_,_,Co,D,_,_,_,_)=>[Co,D]) (fun (p,acc,kf,Co,D,vo,vs,Wa,ca)=>p<=k/\Gf w ds=acc++pM w kf (ds.drop p)/\(ds.drop p).length<=kf/\acc.length<=2*p/\az Co 28 1 vo acc.length vs/\eO D vs acc/\k*128 - p*128<=ca/\Rd D 1 (.slice Wa (k*128 - p*128) ca) (k*128 - p*128) (ak (pb.drop (p*128)))) (fun (p,_)=>k - p) (0,[],k,[],[(g,av (ak pb) 5)],.slice none 0 0,[],some ⟨g,0,none⟩,k*128) ⟨by omega,by rw [List.drop_zero,List.nil_append,Gf,sQ],by rw [List.drop_zero];omega,by simp,az.nil _ _,ly.nil,by omega,by rw [Nat.zero_mul,List.drop_zero,Nat.sub_zero];exact aw (T:=5) (by rw [ai];omega) (aK _) oZ _⟩ ?_
 rintro ⟨p,acc,kf,Co,D,vo,vs,Wa,ca⟩ ⟨Fa,aa9,hkf,afs,hCo,hD,hca,hR⟩
 refine gi ?_ ?_ <;> intro bh
 ·have afu:p<k:=by omega
  have Tm:(ds.drop p).length=k - p:=by rw [List.length_drop,sQ]
  refine gl [0,6] (fun ((j,_,vr,_,Oi,Yy):Nat×Chunk×Value×List Value×Option Addr×Nat)=>[(5,.slice Oi (k*128 - (p+j)*128) Yy),(7,vr)]) (fun (_,Cr,_)=>[Cr,D]) (fun (j,Cr,vr,vrs,Oi,Yy)=>j<=w - 1/\p+j<=k/\az Cr 28 1 vr j vrs/\eO D vrs ((ds.drop p).take j)/\k*128 - (p+j)*128<=Yy/\Rd D 1 (.slice Oi (k*128 - (p+j)*128) Yy) (k*128 - (p+j)*128) (ak (pb.drop ((p+j)*128)))) (fun (j,_)=>w - 1 - j) (0,[],.slice none 0 0,[],Wa,ca) ⟨by omega,by omega,az.nil _ _,ly.nil,hca,hR⟩ ?_
  rintro ⟨j,Cr,vr,vrs,Oi,Yy⟩ ⟨hj,hpj,Fb,hVr,ade,kr⟩
  obtain ⟨adr,cr,rfl⟩:=Fb.slice
  by_cases Gh:j<w - 1/\p+j<k
  ·obtain ⟨hjw,adf⟩:=Gh
   refine gc (j5 m ad w c vk z) ?_
   rintro _ _ ⟨rfl,rfl⟩
   have nZ:((ak (pb.drop ((p+j)*128))).drop (0*1)).take ((128 - 0)*1)=ak ((pb.drop ((p+j)*128)).take 128):=by rw [Nat.zero_mul,List.drop_zero,aL]
   have hn0:128 - 0=128:=rfl
   have Yz:((ak (pb.drop ((p+j)*128))).drop (128*1)).take ((k*128 - (p+j)*128 - 128)*1)=ak (pb.drop ((p+(j+1))*128)):=by
    rw [aY,List.drop_drop,List.take_of_length_le (by rw [ai,List.length_drop];omega)];congr 2;omega
   have LV:k*128 - (p+j)*128 - 128=k*128 - (p+(j+1))*128:=by omega
   refine gw ?_;intro fJ zx
   have Ip:vb D (.slice fJ 128 (128 - 0)) (ds[p+j]'oZ):=by
    rw [ac9 _ adf]
    exact ⟨by rw [List.length_take,List.length_drop];omega,zx,_,_,rfl,Nat.le_refl _⟩
   refine gm ?_;intro b33
   refine gp ?_;intro pF c4 C4 hC4
   refine gw ?_;intro rf hR5
   have e0:(ds.drop p).take (j+1)=(ds.drop p).take j++[ds[p+j]'oZ]:=by
    have oV:j<(ds.drop p).length:=by omega
    rw [<-List.take_append_getElem oV,List.getElem_drop]
   refine gn ?_
   exact ⟨(j+1,C4,_,_,rf,Yy - 128),⟨by omega,by omega,hC4,by rw [e0];exact ly.snoc hVr Ip,by omega,hR5⟩,by simp only;omega,aq,_,aa⟩
  ·have adh:vrs.length=((ds.drop p).take j).length:=hVr.1
   have aba:(ds.drop p).take j=(ds.drop p).take (w - 1):=by
    by_cases q:j=w - 1
    ·rw [q]
    ·rw [List.take_of_length_le oZ,List.take_of_length_le oZ]
   have nT:ds.drop (p+j)=(ds.drop p).drop (w - 1):=by
    rw [<-List.drop_drop]
    by_cases q:j=w - 1
    ·rw [q]
    ·rw [List.drop_of_length_le oZ,List.drop_of_length_le oZ]
   rw [List.length_take,Tm,Nat.min_eq_left oZ] at adh
   have hj1:1<=j:=by omega
   obtain ⟨kf',hm1,LI⟩:=Kc w kf (ds.drop p) (fun q=>by rw [q] at Tm;simp at Tm;omega) hkf oZ
   obtain ⟨Is,co,rfl⟩:=hCo.slice
   have JW:((ds.drop p).take j).length=j:=by rw [List.length_take,Tm];omega
   have hx:=aa7 Cr D _ j vrs _ Fb.rd JW hVr oZ
   obtain ⟨row,hrw⟩:∃row,row=(ds.drop p).take j:=⟨_,rfl⟩
   rw [<-hrw] at hx hVr aba JW
   have hrs:rq row:=by rw [hrw];exact (aa8.drop p).take j
   have Fe:=CK hrs
   have afv:az Cr 28 1 (.slice adr j cr) j vrs:=Fb
   rcases (show w - 1<=j\/(j<w - 1/\k<=p+j) by omega) with hg1 | hg1
   all_goals
    refine gc (j5 m ad w c vk z) ?_
    rintro _ _ ⟨rfl,rfl⟩
    refine gc hx ?_
    rintro _ _ ⟨gx,rfl,rfl⟩
    refine gm ?_;intro b40
    refine gp ?_;intro afw c41 C41 afx
    have afy:=Fb.rd
    refine gp ?_;intro afz c43 C43 adi
    have hsx:vb (D++[(gx,av (ak (kI row)) 5)]) (.slice (some ⟨gx,0,none⟩) 128 128) (kI row):=⟨Fe,(aw (T:=5) (by rw [ai,Fe]) (aK _) oZ _).sub fun q hq=>List.mem_append_right _ hq,_,_,rfl,Nat.le_refl _⟩
    have h2:=ly.snoc (hD.sub (E:=D++[(gx,av (ak (kI row)) 5)]) fun q hq=>List.mem_append_left _ hq) hsx
    have h3:=eO.app h2 (hVr.sub (E:=D++[(gx,av (ak (kI row)) 5)]) fun q hq=>List.mem_append_left _ hq)
    rw [List.append_assoc acc] at h3
    have hlen:(acc++([kI row]++row)).length=acc.length+1+j:=by rw [List.length_append,List.length_append,JW];simp;omega
    refine gn ?_
    refine ⟨(p+j,acc++([kI row]++row),kf',C43,D++[(gx,av (ak (kI row)) 5)],_,_,Oi,Yy),⟨by omega, ?_,by rw [nT];exact LI,by omega,by rw [hlen];exact adi,h3,ade,kr.sub fun q hq=>List.mem_append_left _ hq⟩,by simp only;omega,aq,_,aa⟩
    rw [aa9,hm1,<-aba,nT,List.append_assoc];rfl
 ·obtain rfl:p=k:=by omega
  have pq:Gf w ds=acc:=by rw [aa9,List.drop_of_length_le oZ,CO,List.append_nil]
  rw [pq]
  refine gz ?_
  exact fin ⟨Co,D,vs,hCo,hD,rfl⟩ aa
section
variable (p:Nat)(qs:List Nat)(m n:Nat)(ls:List (Option Lv))(mk:Nat->eR)(hn:324<=n/\n<=8192)(iK:3<=ls.length/\ls.length<=5)
include hn iK
omit hn in
theorem Wb (c:Nat)(ad:Option Addr)(vk:Value)(z:Int)(Cv:Chunk)(ou:az Cv 108 1 (.slice ad ls.length c) ls.length (ls.map iv))(i:Nat)(hi:i<=1000000)(x:Option Lv)(hx:ls[i % ls.length]? = some x) :
  Ct 343 [ptr m,.int .i64 i] [[(m,tq (.slice ad ls.length c) vk z)],Cv] fun u Bs=>u = .tuple #[iv x,.int .i64 (i % ls.length:Nat),.int .i64 (i / ls.length:Nat)]/\Bs=[[(m,tq (.slice ad ls.length c) vk z)],Cv]:=by
 have Fb:=ou.rd
 obtain ⟨Yv,off,rfl⟩:=Fb.addr oZ
 have bV:(ls.map iv)[i % ls.length]? = some (iv x):=by rw [List.getElem?_map,hx];rfl
 have Wc:=Nat.mod_lt i (show 0<ls.length by omega)
 refine st Tryz.func343 fun w0 => ?_
 refine gd [0,4,8,12,16,20,40,44,56,60,25,28,32,36,49,52,65,68,72,76,80] ?_
 refine gc (j5 m _ ls.length c vk z) ?_
 rintro _ _ ⟨rfl,rfl⟩
 refine gc (j5 m _ ls.length c vk z) ?_
 rintro _ _ ⟨rfl,rfl⟩
 refine gc (j5 m _ ls.length c vk z) ?_
 rintro _ _ ⟨rfl,rfl⟩
 refine gz ?_
 exact fin ⟨rfl,rfl⟩ aa
theorem Kf (c:Nat)(ad:Option Addr)(vk:Value)(z:Int)(Cv:Chunk)(ou:az Cv 108 1 (.slice ad ls.length c) ls.length (ls.map iv))(R:Rk)(C L:Chunk)(hC:br p qs R C)(hL:iw mk 0 ls L)(ho:dI qs R n ls)
  (i:Nat) (hi:i / ls.length+293<=n) (Rz:i<=1000000) (x:Lv) (hx:ls[i % ls.length]? = some (some x)) (D:Chunk) (v:Value) (s:eF) (hs:vb D v s) (hw:R.ws.length+1<=900000000000) :
  Ct 338 [ptr m,.int .i64 i,v] [C,[(m,tq (.slice ad ls.length c) vk z)],Cv,L,D] fun u Bs=>∃C',u = .int .i64 (if (R.run (fS x.i (274+i / ls.length) [s])).off then 5 else 0)/\br p qs (R.run (fS x.i (274+i / ls.length) [s])) C'/\Bs=[C',[(m,tq (.slice ad ls.length c) vk z)],Cv,L,D]:=by
 obtain ⟨o1,o2,o3⟩:=ho x (List.mem_of_getElem? hx)
 obtain ⟨A,L1,B,pL,rfl⟩:=hL.at hx
 obtain ⟨fM,V6,ad2,c2,rfl,hc2⟩:=hs
 have nF:=ye p qs _ C hC x.i x.q n x.a _ L1 pL o1 o2 o3 hn (i / ls.length) 1 [s] D ad2 c2 (by simp [fM]) rfl oZ (by simpa using V6) oZ oZ
 refine st Tryz.func338 fun w0 => ?_
 refine gs ?_
 refine gc (Wb m ls iK c ad vk z Cv ou i Rz (some x) hx) ?_
 rintro _ _ ⟨rfl,rfl⟩
 refine gc nF ?_
 rintro _ _ ⟨C',rfl,bA,rfl⟩
 refine gz ?_
 exact fin ⟨C',rfl,bA,rfl⟩ aa
theorem Oj (R:Rk)(C M L:Chunk)(hC:br p qs R C)(hM:Kd m ls (n - 292) M)(hL:iw mk 0 ls L)(ho:dI qs R n ls)(hall:∀x∈ls,x≠none)
  (at_ txg:Nat) (b:List UInt8) (k:Nat) (hk:b.length=k) (hb:1<=k/\k<=1024) (hf:at_+dG ls.length k<=ls.length*(n - 292)) (ht:1<=txg/\txg<=281474976710656) (O:Chunk) (v:Value) (hO:Rd O 1 v k (ak b)) (hw:R.ws.length+40<=900000000000) :
  Ct 328 [ptr m,.int .i64 at_,v,.int .u64 txg] [C,M,L,O] fun u Bs=>∃C',u = .int .i64 (if (R.run (upto (nH ls at_ b) (dG ls.length k))).off then 5 else 0)/\br p qs (R.run (upto (nH ls at_ b) (dG ls.length k))) C'/\Bs=[C',M,L,O]:=by
 obtain ⟨ad,c,Cv,g,ou,rfl⟩:=hM
 have V8:=mD iK.1 hb
 have xn:=pO (w:=ls.length) oZ b
 rw [hk] at xn
 obtain ⟨w,j4⟩:∃w,w=ls.length:=⟨_,rfl⟩
 rw [<-j4] at iK hf V8 xn
 have hwn:w*(n - 292)<=50000:=Nat.mul_le_mul iK.2 (show n - 292<=10000 by omega)
 obtain ⟨j2,cv,rfl⟩:=hO.slice
 have Fb:=ou.rd
 obtain ⟨Yv,off,rfl⟩:=Fb.addr oZ
 have bE:=Ir m (some ⟨Yv,off,none⟩) w c (.slice (some ⟨g,0,none⟩) w w) (n - 292) iK oZ at_ k hb hf
 have u4:=Ke m (some ⟨Yv,off,none⟩) w c (.slice (some ⟨g,0,none⟩) w w) ((n - 292:Nat):Int) iK b k hk hb O _ hO
 rw [xn] at u4
 obtain ⟨N,hN⟩:∃N,N=dG w k:=⟨_,rfl⟩
 rw [<-hN] at hf V8 xn u4
 rw [<-j4,<-hN]
 refine st Tryz.func328 fun w0 => ?_
 refine gs ?_
 refine gc bE ?_
 rintro _ _ ⟨rfl,rfl⟩
 refine uC .i64 ?_;intro mr Cm YA
 refine gc u4 ?_
 rintro vo _ ⟨Co,D,vs,hCo,hD,rfl⟩
 obtain ⟨Is,co,rfl⟩:=hCo.slice
 have adj:=hCo.rd
 obtain ⟨go_,oo,rfl⟩:=adj.addr oZ
 refine gl [0,1,2,3,9,30,31] (fun ((j,_):Nat×Chunk)=>[(32,.int .i64 j)]) (fun (_,C)=>[C]) (fun (j,C)=>j<=N/\br p qs (R.run (upto (nH ls at_ b) j)) C/\(0<j->(R.run (upto (nH ls at_ b) j)).off=false)) (fun (j,_)=>N - j) (0,C) ⟨by omega,hC,fun h0=>absurd h0 oZ⟩ ?_
 rintro ⟨j,C⟩ ⟨hj,hC,jt⟩
 refine gi ?_ ?_ <;> intro bh
 ·have hjN:j<(iW w b).length:=by omega
  obtain ⟨vj,hvj,Ip⟩:=(j4 ▸ hD:eO D vs (iW w b)).at hjN
  have Wc:=Nat.mod_lt (at_+j) (show 0<w by omega)
  obtain ⟨ox,hx⟩:=eB (l:=ls) (i:=(at_+j) % w) oZ
  rcases ox with _ | x
  ·exact absurd rfl (hall _ (List.mem_of_getElem? hx))
  have Cz:=Rk.iJ R (upto (nH ls at_ b) j)
  have zj:=cR (CV ls at_ b) j
  have hdiv:(at_+j) / w+293<=n:=by
   have:(at_+j) / w<n - 292:=by rw [Nat.div_lt_iff_lt_mul oZ,Nat.mul_comm];omega
   omega
  have hpf:nH ls at_ b j=fS x.i (274+(at_+j) / w) [(iW w b)[j]]:=by unfold nH;rw [<-j4,hx,List.getElem?_eq_getElem hjN]
  have nF:=Kf p qs m n ls mk hn oZ c (some ⟨Yv,off,none⟩) (.slice (some ⟨g,0,none⟩) w w) ((n - 292:Nat):Int) Cv ou _ C L hC hL (ho.run (upto (nH ls at_ b) j)) (at_+j) (by rw [<-j4];omega) oZ x (by rw [<-j4];exact hx) D vj _ Ip oZ
  rw [<-j4,<-hpf,<-dO] at nF
  refine gc nF ?_
  rintro _ _ ⟨C',rfl,bA,rfl⟩
  cases dN:(R.run (upto (nH ls at_ b) (j+1))).off with
  | true =>
   refine gz ?_
   rw [jr dN (by omega:j+1<=N),dN]
   exact fin ⟨C',rfl,bA,rfl⟩ aa
  | false =>
   refine gn ?_
   exact ⟨(j+1,C'),⟨by omega,bA,fun _=>dN⟩,by simp only;omega,aq,_,aa⟩
 ·obtain rfl:j=N:=by omega
  rw [jt oZ]
  refine gc (j5 m _ w c _ _) ?_
  rintro _ _ ⟨rfl,rfl⟩
  refine gl [0,3,9,56] (fun (q:Nat)=>[(57,.int .i64 q)]) (fun _=>[]) (fun q=>q<=w) (fun q=>w - q) 0 oZ ?_
  rintro q hq
  refine gi ?_ ?_ <;> intro pD
  ·obtain ⟨oy,hy⟩:=eB (l:=ls) (i:=q) oZ
   rcases oy with _ | y
   ·exact absurd rfl (hall _ (List.mem_of_getElem? hy))
   have bV:(ls.map iv)[q]? = some (ptr y.a):=by rw [List.getElem?_map,hy];rfl
   refine gn ?_
   exact ⟨q+1,by omega,by omega,aq,_,aa⟩
  ·refine gz ?_
   exact fin ⟨C,rfl,hC,rfl⟩ aa
end
theorem CX (m:Nat)(ad:Option Addr)(w c:Nat)(vk:Value)(z:Int)(hw:3<=w/\w<=5)(V D:Chunk)(v:Value)(N n:Nat)(vs:List Value)(ss:List eF)(hV:Rd V 1 v N vs)(hN:ss.length=N)(hN2:N<=1000)(hD:eO D vs ss)(hn:n<=(eZ w 0 ss).length) :
  Ct 335 [ptr m,v,.int .i64 n] [V,D,[(m,tq (.slice ad w c) vk z)]] fun u Bs=>∃ad2 O,u = .slice ad2 n n/\Rd O 1 (.slice ad2 n n) n (ak ((eZ w 0 ss).take n))/\Bs=[O,V,D,[(m,tq (.slice ad w c) vk z)]]:=by
 obtain ⟨j2,cv,rfl⟩:=hV.slice
 have Ik:=hD.rn
 have cV:∀j,j<=N->(eZ w 0 (ss.take j)).length<=j*128:=fun j=>by
  induction j with
  | zero=>simp [eZ]
  | succ j ih =>
   intro hj
   have h1:=ih oZ
   have oV:j<ss.length:=by omega
   rw [<-List.take_append_getElem oV,pN,List.length_append,Nat.zero_add,List.length_take,Nat.min_eq_left oZ]
   have hs:=Ik _ (List.getElem_mem oV)
   simp only [eZ]
   split
   ·simp;omega
   ·rw [List.append_nil];omega
 refine st Tryz.func335 fun w0 => ?_
 refine gl [0,2,10,11] (fun ((j,v7,_):Nat×Value×Chunk)=>[(12,.int .i64 j),(7,v7)]) (fun (_,_,C)=>[C]) (fun (j,v7,C)=>j<=N/\az C 5 1 v7 (eZ w 0 (ss.take j)).length (ak (eZ w 0 (ss.take j)))) (fun (j,_)=>N - j) (0,.slice none 0 0,[]) ⟨by omega,by rw [List.take_zero];exact az.nil _ _⟩ ?_
 rintro ⟨j,v7,C⟩ ⟨hj,hC⟩
 obtain ⟨sN,c7,rfl⟩:=hC.slice
 refine gi ?_ ?_ <;> intro bh
 ·have oV:j<ss.length:=by omega
  obtain ⟨vj,hvj,Ip⟩:=hD.at oV
  obtain ⟨Yv,off,rfl⟩:=hV.addr oZ
  have V6:=Ip.2.1
  obtain ⟨gs_,os,cs,rfl,Mt⟩:=Ip.addr
  have Ba:=cV j oZ
  have yf:eZ w 0 (ss.take (j+1))=eZ w 0 (ss.take j)++(if j % w=0 then [] else ss[j]):=by
   rw [<-List.take_append_getElem oV,pN,Nat.zero_add,List.length_take,Nat.min_eq_left oZ]
   simp [eZ]
  refine gc (j5 m ad w c vk z) ?_
  rintro _ _ ⟨rfl,rfl⟩
  refine gi ?_ ?_ <;> intro h0
  ·rw [if_neg oZ] at yf
   have fM:=Ip.1
   refine gp ?_;intro yd c8 C8 LN
   refine gn ?_
   exact ⟨(j+1,_,C8),⟨by omega,by rw [yf,List.length_append,fM,aE];exact LN⟩,by simp only;omega,aq,_,aa⟩
  ·rw [if_pos oZ,List.append_nil] at yf
   refine gn ?_
   exact ⟨(j+1,_,C),⟨by omega,by rw [yf];exact hC⟩,by simp only;omega,aq,_,aa⟩
 ·obtain rfl:j=N:=by omega
  have Ba:=cV j oZ
  rw [<-hN,List.take_length] at hC Ba
  have Fb:=hC.rd
  have hn0:n - 0=n:=by omega
  have nZ:((ak (eZ w 0 ss)).drop (0*1)).take ((n - 0)*1)=ak ((eZ w 0 ss).take n):=by rw [Nat.zero_mul,List.drop_zero,Nat.mul_one,Nat.sub_zero,aL]
  have hlc:=hC.dL
  rw [<-hN,List.take_length]
  refine gw ?_;intro fJ zx
  refine gz ?_
  exact fin ⟨fJ,C,rfl,zx,rfl⟩ aa
abbrev gtO (m:Nat)(at_:Nat)(vs:Value)(mr:Nat):Obj:=av [ptr m,.int .i64 at_,vs,.map (some mr)] 405
section
variable (p:Nat)(qs:List Nat)(m n:Nat)(ls:List (Option Lv))(mk:Nat->eR)(hn:324<=n/\n<=8192)(iK:3<=ls.length/\ls.length<=5)
include hn iK
theorem Ol (c:Nat)(ad:Option Addr)(vk:Value)(Cv:Chunk)(ou:az Cv 108 1 (.slice ad ls.length c) ls.length (ls.map iv))(R:Rk)(C L:Chunk)(hC:br p qs R C)(hL:iw mk 0 ls L)(ho:dI qs R n ls)(hall:∀x∈ls,x≠none)(bW:R.off=false)
  (at_ k:Nat) (hb:1<=k/\k<=1024) (hf:at_+dG ls.length k<=ls.length*(n - 292)) (ss:List eF) (fM:ss.length=dG ls.length k) (Ik:∀(j:Nat) (s:eF) (x:Lv),ss[j]? = some s->ls[(at_+j) % ls.length]? = some (some x)->R.now x.i (274+(at_+j) / ls.length)=s) :
  Ct 339 [ptr m,.int .i64 at_,.int .i64 k] [C,[(m,tq (.slice ad ls.length c) vk ((n - 292:Nat):Int))],Cv,L] fun u Bs=>∃b vS CS D mr Cm vs,u = .tuple #[ptr b,.int .i64 0]/\az CS 28 1 vS ss.length vs/\eO D vs ss/\Mp mr .i64 [] Cm/\Bs=[[(b,gtO m at_ vS mr)],CS,D,Cm,C,[(m,tq (.slice ad ls.length c) vk ((n - 292:Nat):Int))],Cv,L]:=by
 have V8:=mD iK.1 hb
 have hwn:ls.length*(n - 292)<=50000:=Nat.mul_le_mul iK.2 (show n - 292<=10000 by omega)
 obtain ⟨w,j4⟩:∃w,w=ls.length:=⟨_,rfl⟩
 rw [<-j4] at iK hf V8 fM Ik hwn ou ⊢
 have ek:=zO m ad w c vk ((n - 292:Nat):Int) iK k hb
 rw [<-fM] at hf V8 ek
 obtain ⟨N,hN⟩:∃N,N=ss.length:=⟨_,rfl⟩
 rw [<-hN] at hf V8 ek ⊢
 refine st Tryz.func339 fun w0 => ?_
 refine uC .i64 ?_;intro mr Cm YA
 refine ga ?_;intro b
 refine gc ek ?_
 rintro _ _ ⟨rfl,rfl⟩
 refine gl [0,1,2,8,24] (fun ((j,_):Nat×Value×Chunk×Chunk×List Value)=>[(25,.int .i64 j)]) (fun (_,vS,CS,D,_)=>[[(b,gtO m at_ vS mr)],CS,D]) (fun (j,vS,CS,D,vs)=>j<=N/\az CS 28 1 vS j vs/\eO D vs (ss.take j)) (fun (j,_)=>N - j) (0,.slice none 0 0,[],[],[]) ⟨by omega,az.nil _ _,by rw [List.take_zero];exact ly.nil⟩ ?_
 rintro ⟨j,vS,CS,D,vs⟩ ⟨hj,Wd,hD⟩
 obtain ⟨bG,cS,rfl⟩:=Wd.slice
 refine gi ?_ ?_ <;> intro bh
 ·have hjN:j<ss.length:=by omega
  have Wc:=Nat.mod_lt (at_+j) (show 0<w by omega)
  obtain ⟨ox,hx⟩:=eB (l:=ls) (i:=(at_+j) % w) oZ
  rcases ox with _ | x
  ·exact absurd rfl (hall _ (List.mem_of_getElem? hx))
  obtain ⟨o1,o2,o3⟩:=ho x (List.mem_of_getElem? hx)
  have hdiv:(at_+j) / w+1+292<=n:=by
   have:(at_+j) / w<n - 292:=by rw [Nat.div_lt_iff_lt_mul oZ,Nat.mul_comm];omega
   omega
  have YB:=Ik j _ x (List.getElem?_eq_getElem hjN) hx
  obtain ⟨xg,lU⟩:=kF hC.ok (i:=x.i) (a:=274+(at_+j) / w) oZ
  rw [YB] at xg lU
  have tt:=Wb m ls oZ c ad vk ((n - 292:Nat):Int) Cv (by rw [<-j4];exact ou) (at_+j) oZ (some x) (by rw [<-j4];exact hx)
  rw [<-j4] at tt
  obtain ⟨A,L1,B,pL,rfl⟩:=hL.at hx
  have oM:=u5 p qs R C hC x.i x.q n x.a _ L1 pL o1 o2 o3 hn ((at_+j) / w) 1 hdiv
  rw [xg] at oM
  refine gs ?_
  refine gc tt ?_
  rintro _ _ ⟨rfl,rfl⟩
  refine gm ?_;intro b37
  refine gc oM ?_
  rintro _ _ (⟨dN,rfl,rfl⟩ | ⟨-,g2,rfl,rfl⟩)
  ·rw [bW] at dN;cases dN
  refine gm ?_;intro b66
  refine gp ?_;intro fJ c3 C3 ka
  have Ip:vb (D++[(g2,av (ak ss[j]) 5)]) (.slice (some ⟨g2,0,none⟩) (1*128) (1*128)) ss[j]:=⟨lU,(aw (T:=5) (by rw [ai,lU]) (aK _) oZ _).sub fun q hq=>List.mem_append_right _ hq,_,_,rfl,Nat.le_refl _⟩
  have h2:=ly.snoc (hD.sub (E:=D++[(g2,av (ak ss[j]) 5)]) fun q hq=>List.mem_append_left _ hq) Ip
  rw [List.take_append_getElem hjN] at h2
  refine gn ?_
  exact ⟨(j+1,_,C3,D++[(g2,av (ak ss[j]) 5)],_),⟨by omega,ka,h2⟩,by simp only;omega,aq,_,aa⟩
 ·obtain rfl:j=N:=by omega
  rw [hN,List.take_length] at hD
  refine gz ?_
  exact fin ⟨b,_,CS,D,mr,Cm,vs,rfl,Wd,hD,YA,rfl⟩ aa
end
section
variable (T:TypeId)(fr:Nat×Nat)(m:Nat)(ad:Option Addr)(w c:Nat)(vk:Value)(z:Int)(hw:3<=w/\w<=5)
include hw
theorem Om (b at_:Nat)(CS D:Chunk)(vS:Value)(mr:Nat)(Cm:Chunk)(N n kind:Nat)(vs:List Value)(ss:List eF)(s:Fs)(bs:List UInt8)(YA:Mp mr .i64 [] Cm)(hV:az CS 28 1 vS N vs)(hN:ss.length=N)(hN2:N<=1000)(hD:eO D vs ss)(hn:n<=(eZ w 0 ss).length)(dx:n<=1024)(hb:(eZ w 0 ss).take n=bs)(Cj:sM kind s bs=true) :
  Ct 340 [ptr b,.int .i64 n,.int .i64 kind,s.agg] [[(b,gtO m at_ vS mr)],gK T fr,CS,D,Cm,[(m,tq (.slice ad w c) vk z)]] fun u Bs=>∃O,u = .tuple #[vS,.int .i64 (-1),.bool true]/\Bs=[O,[(b,gtO m at_ vS mr)],gK T fr,CS,D,Cm,[(m,tq (.slice ad w c) vk z)]]:=by
 have cV:bs.length=n:=by rw [<-hb,List.length_take];omega
 refine st Tryz.func340 fun w0 => ?_
 refine ga ?_;intro b7
 refine gd [0,4,8,12,16,20,24,28,32,36,40,44,48,52,56,60,64,68,73,79,82] ?_
 refine gc (CX m ad w c vk z hw CS D vS N n vs ss hV.rd hN hN2 hD hn) ?_
 rintro _ _ ⟨ad2,O,rfl,hO,rfl⟩
 rw [hb] at hO
 refine gc (zz T fr O _ bs n cV hO oZ kind s) ?_
 rintro _ _ ⟨rfl,rfl⟩
 rw [Cj]
 refine gz ?_
 exact fin ⟨O,rfl,rfl⟩ aa
end
section
variable (T:TypeId)(fr:Nat×Nat)(p:Nat)(qs:List Nat)(m n:Nat)(ls:List (Option Lv))(mk:Nat->eR)(hn:324<=n/\n<=8192)(iK:3<=ls.length/\ls.length<=5)
include hn iK
theorem Tn (R:Rk)(C M L:Chunk)(hC:br p qs R C)(hM:Kd m ls (n - 292) M)(hL:iw mk 0 ls L)(ho:dI qs R n ls)(hall:∀x∈ls,x≠none)(bW:R.off=false)
  (at_:Nat) (b:List UInt8) (k kind:Nat) (s:Fs) (hk:b.length=k) (hb:1<=k/\k<=1024) (hf:at_+dG ls.length k<=ls.length*(n - 292)) (Ff:kind=1\/kind=2) (Cj:sM kind s b=true)
  (Ik:∀(j:Nat) (s:eF) (x:Lv),(iW ls.length b)[j]? = some s->ls[(at_+j) % ls.length]? = some (some x)->R.now x.i (274+(at_+j) / ls.length)=s) :
  Ct 326 [ptr m,.int .i64 at_,.int .i64 k,.int .i64 kind,s.agg] [gK T fr,C,M,L] fun u Bs=>∃ad O,u = .tuple #[.slice ad k k,.int .i64 0]/\Rd O 1 (.slice ad k k) k (ak b)/\Bs=[O,gK T fr,C,M,L]:=by
 obtain ⟨ad,c,Cv,g,ou,rfl⟩:=hM
 have V8:=mD iK.1 hb
 have xn:=pO (w:=ls.length) oZ b
 rw [hk] at xn
 have ef:(eZ ls.length 0 (iW ls.length b)).take k=b:=by rw [CU oZ,jD,<-hk,List.take_left]
 have On:k<=(eZ ls.length 0 (iW ls.length b)).length:=by rw [CU oZ,jD,List.length_append,hk];omega
 have bE:=Ir m ad ls.length c (.slice (some ⟨g,0,none⟩) ls.length ls.length) (n - 292) iK oZ at_ k hb hf
 have oM:=Ol p qs m n ls mk hn iK c ad (.slice (some ⟨g,0,none⟩) ls.length ls.length) Cv ou R C L hC hL ho hall bW at_ k hb hf (iW ls.length b) xn Ik
 have gM:Ct 333 [ptr m,.int .i64 at_,.int .i64 k,.int .i64 kind,s.agg] [gK T fr,C,[(m,tq (.slice ad ls.length c) (.slice (some ⟨g,0,none⟩) ls.length ls.length) ((n - 292:Nat):Int))],Cv,L] fun u Bs=>∃b' vS CS D mr Cm vs,u = .tuple #[ptr b',vS,.int .i64 (-1),.int .i64 0]/\az CS 28 1 vS (dG ls.length k) vs/\eO D vs (iW ls.length b)/\Mp mr .i64 [] Cm/\Bs=[[(b',gtO m at_ vS mr)],CS,D,Cm,gK T fr,C,[(m,tq (.slice ad ls.length c) (.slice (some ⟨g,0,none⟩) ls.length ls.length) ((n - 292:Nat):Int))],Cv,L]:=by
  refine st Tryz.func333 fun w0 => ?_
  refine ga ?_;intro b9
  refine gc bE ?_
  rintro _ _ ⟨rfl,rfl⟩
  rcases Ff with rfl | rfl
  all_goals
   refine gc oM ?_
   rintro _ _ ⟨b',vS,CS,D,mr,Cm,vs,rfl,Wd,hD,YA,rfl⟩
   rw [xn] at Wd
   have zP:=Om T fr m ad ls.length c (.slice (some ⟨g,0,none⟩) ls.length ls.length) ((n - 292:Nat):Int) iK b' at_ CS D vS mr Cm (dG ls.length k) k _ vs (iW ls.length b) s b YA Wd xn oZ hD On oZ ef Cj
   refine gc zP ?_
   rintro _ _ ⟨O,rfl,rfl⟩
   refine gz ?_
   exact fin ⟨b',vS,CS,D,mr,Cm,vs,rfl,Wd,hD,YA,rfl⟩ aa
 refine st Tryz.func326 fun w0 => ?_
 refine gs ?_
 refine ga ?_;intro b9
 refine gc gM ?_
 rintro _ _ ⟨b',vS,CS,D,mr,Cm,vs,rfl,Wd,hD,YA,rfl⟩
 refine gc (CX m ad ls.length c _ _ iK CS D vS (dG ls.length k) k vs (iW ls.length b) Wd.rd xn oZ hD On) ?_
 rintro _ _ ⟨ad2,O,rfl,hO,rfl⟩
 rw [ef] at hO
 refine gz ?_
 exact fin ⟨ad2,O,rfl,hO,rfl⟩ aa
theorem Oo (R:Rk)(C M L:Chunk)(hC:br p qs R C)(hM:Kd m ls (n - 292) M)(hL:iw mk 0 ls L)(ho:dI qs R n ls)(hall:∀x∈ls,x≠none) :
  Ct 323 [ptr m] [C,M,L] fun u Bs=>∃C',u = .int .i64 (if (R.run (upto (ni ls) ls.length)).off then 5 else 0)/\br p qs (R.run (upto (ni ls) ls.length)) C'/\Bs=[C',M,L]:=by
 have _:=hn
 obtain ⟨ad,c,Cv,g,ou,rfl⟩:=hM
 have Fb:=ou.rd
 obtain ⟨Yv,off,rfl⟩:=Fb.addr oZ
 refine st Tryz.func323 fun w0 => ?_
 refine gs ?_
 refine gl [0,3,10,11] (fun ((j,_):Nat×Chunk)=>[(12,.int .i64 j)]) (fun (_,C)=>[C]) (fun (j,C)=>j<=ls.length/\br p qs (R.run (upto (ni ls) j)) C/\(0<j->(R.run (upto (ni ls) j)).off=false)) (fun (j,_)=>ls.length - j) (0,C) ⟨by omega,hC,fun h0=>absurd h0 oZ⟩ ?_
 rintro ⟨j,C⟩ ⟨hj,hC,jt⟩
 refine gi ?_ ?_ <;> intro bh
 ·obtain ⟨ox,hx⟩:=eB (l:=ls) (i:=j) oZ
  rcases ox with _ | x
  ·exact absurd rfl (hall _ (List.mem_of_getElem? hx))
  obtain ⟨o1,o2,o3⟩:=ho.run (upto (ni ls) j) x (List.mem_of_getElem? hx)
  have bV:(ls.map iv)[j]? = some (ptr x.a):=by rw [List.getElem?_map,hx];rfl
  obtain ⟨A,L1,B,pL,rfl⟩:=hL.at hx
  have zQ:ni ls j=[.f x.i]:=by unfold ni;rw [hx]
  have jo:=CE p qs _ C hC x.i x.q x.a _ L1 pL o1 o2
  rw [show (R.run (upto (ni ls) j)).ev (.f x.i)=R.run (upto (ni ls) (j+1)) by rw [dO,zQ];rfl] at jo
  refine gs ?_
  refine gc jo ?_
  rintro _ _ ⟨C',rfl,bA,rfl⟩
  cases dN:(R.run (upto (ni ls) (j+1))).off with
  | true =>
   refine gz ?_
   rw [jr dN (by omega:j+1<=ls.length),dN]
   exact fin ⟨C',rfl,bA,rfl⟩ aa
  | false =>
   refine gn ?_
   exact ⟨(j+1,C'),⟨by omega,bA,fun _=>dN⟩,by simp only;omega,aq,_,aa⟩
 ·obtain rfl:j=ls.length:=by omega
  rw [jt oZ]
  refine gz ?_
  exact fin ⟨C,rfl,hC,rfl⟩ aa
theorem Oq (M:Chunk)(hM:Kd m ls (n - 292) M)(k:Nat)(hk:k<ls.length):Ct 324 [ptr m,.int .i64 k] [M] fun u Bs=>u = .tuple #[.agg #[.int .u64 0,.int .u64 0],.bool false]/\Bs=[M]:=by
 have _:=hn
 have _:=iK
 obtain ⟨ad,c,Cv,g,ou,rfl⟩:=hM
 have bV:(List.replicate ls.length (Value.pointer none))[k]? = some (.pointer none):=by simp [hk]
 refine st Tryz.func324 fun w0 => ?_
 refine gs ?_
 refine ga ?_;intro b4
 refine ge ?_
 refine gc (j5 m ad ls.length c _ _) ?_
 rintro _ _ ⟨rfl,rfl⟩
 refine gz ?_
 exact fin ⟨rfl,rfl⟩ aa
end
end Go.Proofs.YtcfioaeamfappaaGreatDoor
namespace Go.Sl
theorem pP {α:Type}(n:Nat)(x:α)(f:α->List Value):(List.replicate n (f x)).flatten=(List.replicate n x).flatMap f:=by
 induction n with
 | zero=>rfl
 | succ n ih=>simp [List.replicate_succ,ih]
end Go.Sl
namespace Go.Proofs.YtcfioaeamfappaaGreatDoor
open Go.Sl
set_option maxRecDepth 10000
set_option maxHeartbeats 4000000
theorem It (p:Nat)(qs:List Nat)(R:Rk)(C:Chunk)(hC:br p qs R C)(i q n a:Nat)(l:eR)(L:Chunk)(hL:Oa a q l L)(hq:qs[i]? = some q)(hn:R.size i=n)(h:324<=n/\n<=8192):Ct 143 [ptr a] [C,L] fun u Bs=>u = .int .i64 ((n - 292:Nat):Int)/\Bs=[C,L]:=by
 obtain ⟨ad,c,D,z1,z2,z3,hD,rfl⟩:=hL
 refine st Tryz.func143 fun w0 => ?_
 refine gs ?_
 refine gc (cM p qs R C hC i q hq) ?_
 rintro _ _ ⟨rfl,rfl⟩
 rw [hn]
 refine gz ?_
 exact fin ⟨congrArg _ oZ,rfl⟩ aa
section
variable (p:Nat)(qs:List Nat)(n:Nat)(ls:List (Option Lv))(mk:Nat->eR)(hn:324<=n/\n<=8192)(iK:1<=ls.length/\ls.length<=5)
include hn iK
theorem YC (R:Rk)(C L:Chunk)(hC:br p qs R C)(hL:iw mk 0 ls L)(ho:dI qs R n ls)(hx:∃x,some x∈ls)(O:Chunk)(ad:Option Addr)(c:Nat)(hO:Rd O 1 (.slice ad ls.length c) ls.length (ls.map iv)) :
  Ct 98 [.slice ad ls.length c] [C,L,O] fun u Bs=>∃m M,u = .tuple #[ptr m,.int .i64 0]/\J7 m ls (List.replicate ls.length none) (n - 292) M/\Bs=[M,C,L,O]:=by
 refine stM Tryz.func98 fun w0 => ?_
 refine ga ?_;intro b2
 refine ga ?_;intro b3
 refine gm ?_;intro g9 C9 hC9
 refine ga ?_;intro m
 refine ga ?_;intro b4
 refine gd [0,4,8,12,16,20,25,28,32,39] ?_
 refine gp ?_;intro ad2 c2 Cv ou
 refine ge ?_
 refine ga ?_;intro bt
 obtain ⟨CY,vc⟩:∃f:Nat->Int,f=fun i=>if (ls.take i).any (·.isSome) then ((n - 292:Nat):Int) else -1:=⟨_,rfl⟩
 have YD:CY 0 = -1:=by rw [vc];simp
 refine gfr (u7 bt m ls oZ _ _ Cv ou (-1)) (fun i Ls=>Ls=[[(bt,av [ptr m] 179)],[(m,zN (.slice ad2 ls.length c2) (.slice (some ⟨g9,0,none⟩) ls.length ls.length) (CY i))],[(b4,av [ptr m] 179)],C9,[(b3,av [.int .i64 0] 48)],[(b2,av [.pointer none] 179)],C,L,O]) (fun _=>False) ?_ ?_ ?_ ?_ ?_
 ·show _=_
  rw [show (u6 ls).s0=0 from rfl,YD]
 ·rintro i i' Ls ⟨hi,rfl⟩ rfl
  obtain ⟨jg,he⟩:=List.getElem?_eq_some_iff.1 hi
  have:CY (i+1)=CY i:=by rw [vc];simp only;rw [List.take_succ_eq_append_getElem jg,List.any_append,he];simp
  rw [this]
 ·rintro rc l r i vs i' bg ⟨x,uW,rfl,rfl⟩ rfl
  refine ⟨_,.two (Nat.le_of_ble_eq_true rfl) (Nat.le_of_ble_eq_true rfl), ?_⟩
  obtain ⟨o1,o2,o3⟩:=ho x (List.mem_of_getElem? uW)
  obtain ⟨A,L1,B,pL,rfl⟩:=hL.at uW
  obtain ⟨jg,he⟩:=List.getElem?_eq_some_iff.1 uW
  have Gi:CY (i+1)=((n - 292:Nat):Int):=by rw [vc];simp only;rw [List.take_succ_eq_append_getElem jg,List.any_append,he];simp
  have LK:=It p qs R C hC x.i x.q n x.a (mk (0+i)) L1 pL o1 o3 hn
  refine gas ?_
  refine gs ?_
  refine gd [0,4,8,12,16,20,24,32,36,40,44,29,48,52] ?_
  rcases (show CY i = -1\/CY i=((n - 292:Nat):Int) by rw [vc];simp only;split <;> simp) with h0 | h0
  ·rw [h0]
   refine gd [0,4,9,12,16,23] ?_
   refine gc LK ?_
   rintro _ _ ⟨rfl,rfl⟩
   refine go ?_
   exact WE.next (L':=[[(bt,av [ptr m] 179)],[(m,zN (.slice ad2 ls.length c2) (.slice (some ⟨g9,0,none⟩) ls.length ls.length) ((n - 292:Nat):Int))],[(b4,av [ptr m] 179)],C9,[(b3,av [.int .i64 0] 48)],[(b2,av [.pointer none] 179)],C,A++(L1++B),O]) aa (by rw [Gi])
  ·rw [h0]
   refine gc LK ?_
   rintro _ _ ⟨rfl,rfl⟩
   refine gd [0,4,9,12,16,23] ?_
   refine gc LK ?_
   rintro _ _ ⟨rfl,rfl⟩
   refine go ?_
   exact WE.next (L':=[[(bt,av [ptr m] 179)],[(m,zN (.slice ad2 ls.length c2) (.slice (some ⟨g9,0,none⟩) ls.length ls.length) ((n - 292:Nat):Int))],[(b4,av [ptr m] 179)],C9,[(b3,av [.int .i64 0] 48)],[(b2,av [.pointer none] 179)],C,A++(L1++B),O]) aa (by rw [Gi])
 ·rintro r i bg AZ rfl
  obtain rfl:i=ls.length:=AZ
  have YE:CY ls.length=((n - 292:Nat):Int):=by
   rw [vc];simp only;rw [List.take_length,if_pos]
   obtain ⟨x,hx⟩:=hx
   exact List.any_eq_true.2 ⟨_,hx,rfl⟩
  rw [YE]
  have gM:C9=[(g9,av ((List.replicate ls.length none).flatMap mC) 419)]:=by
   rcases hC9.2.2 with ⟨h,_⟩ | ⟨g,c0,r,hv,rfl,_,_,hlen⟩
   ·cases h
   ·cases hv
    have h3:=hC9.1
    obtain rfl:r=[]:=List.eq_nil_of_length_eq_zero oZ
    rw [List.append_nil,<-pP];rfl
  refine gm1 ?_
  subst gM
  exact fin ⟨m,_,rfl,⟨ad2,c2,Cv,g9,ou,by simp,rfl⟩,rfl⟩ aa
 ·rintro r bg h;exact h.elim
end
set_option maxHeartbeats 2000000
theorem YF (p:Nat)(qs:List Nat)(n:Nat)(ls:List (Option Lv))(mk:Nat->eR)(hn:324<=n/\n<=8192)(iK:3<=ls.length/\ls.length<=5)(R:Rk)(C L:Chunk)(hC:br p qs R C)(hL:iw mk 0 ls L)(ho:dI qs R n ls)(hx:ls.countP (·.isNone)<=1)(O:Chunk)(ad:Option Addr)(c:Nat)(hO:Rd O 1 (.slice ad ls.length c) ls.length (ls.map iv)) :
  Ct 96 [.slice ad ls.length c] [C,L,O] fun u Bs=>∃m M,u = .tuple #[ptr m,.int .i64 0]/\Kd m ls (n - 292) M/\Bs=[M,C,L,O]:=by
 obtain ⟨g0,off,rfl⟩:=hO.addr oZ
 obtain ⟨CY,vc⟩:∃f:Nat->Int,f=fun i=>if (ls.take i).any (·.isSome) then ((n - 292:Nat):Int) else -1:=⟨_,rfl⟩
 have YD:CY 0 = -1:=by rw [vc];simp
 have adk:∀i,CY i = -1\/CY i=((n - 292:Nat):Int):=fun i=>by rw [vc];simp only;split <;> simp
 refine st Tryz.func96 fun w0 => ?_
 refine gm ?_;intro g9
 refine ga ?_;intro m
 refine gl [2,3,4,21,22] (fun ((i,t5,_):Nat×Nat×Value×Chunk×Int)=>[(23,.int .i64 i),(5,.int .i64 t5)]) (fun (i,_,v,Cv,z)=>[[(m,tq v (.slice (some ⟨g9,0,none⟩) ls.length ls.length) z)],Cv]) (fun (i,t5,v,Cv,z)=>i<=ls.length/\z=CY i/\t5=(ls.take i).countP (·.isNone)/\az Cv 108 1 v i ((ls.take i).map iv)) (fun (i,_)=>ls.length - i) (0,0,.slice none 0 0,[], -1) ⟨by omega,YD.symm,rfl,az.nil _ _⟩ ?_
 rintro ⟨i,t5,v,Cv,z⟩ ⟨hi,hz,ht5,ou⟩
 obtain ⟨ad2,c2,rfl⟩:=ou.slice
 have qE:=List.countP_le_length (p:=fun x:Option Lv=>x.isNone) (l:=ls.take i)
 rw [List.length_take] at qE
 refine gi ?_ ?_ <;> intro bh
 ·obtain ⟨ox,uW⟩:=eB (l:=ls) (i:=i) oZ
  obtain ⟨jg,he⟩:=List.getElem?_eq_some_iff.1 uW
  have bV:(ls.map iv)[i]? = some (iv ox):=by rw [List.getElem?_map,uW];rfl
  have CZ:ls.take (i+1)=ls.take i++[ox]:=by rw [List.take_succ_eq_append_getElem jg,he]
  rcases ox with _ | x
  ·have Gi:CY (i+1)=CY i:=by rw [vc];simp only;rw [CZ,List.any_append];simp
   refine gm ?_;intro b58
   refine gp ?_;intro fJ c3 C3 ka
   refine gn ?_
   exact ⟨(i+1,t5+1,_,C3,z),⟨by omega,by rw [Gi,hz],by rw [CZ,List.countP_append,ht5];rfl,by rw [CZ,List.map_append];exact ka⟩,by simp only;omega,aq,_,aa⟩
  ·obtain ⟨o1,o2,o3⟩:=ho x (List.mem_of_getElem? uW)
   obtain ⟨A,L1,B,pL,rfl⟩:=hL.at uW
   have Gi:CY (i+1)=((n - 292:Nat):Int):=by rw [vc];simp only;rw [CZ,List.any_append];simp
   have LK:=It p qs R C hC x.i x.q n x.a _ L1 pL o1 o3 hn
   refine gs ?_
   rcases adk i with h0 | h0
   ·rw [h0] at hz
    subst hz
    refine gd [0,4,8,12,16,20,24,32,36,40,44,29,48,52,56] ?_
    refine gc LK ?_
    rintro _ _ ⟨rfl,rfl⟩
    refine gm ?_;intro b58
    refine gp ?_;intro fJ c3 C3 ka
    refine gn ?_
    exact ⟨(i+1,t5,_,C3,_),⟨by omega,Gi.symm,by rw [CZ,List.countP_append,ht5];rfl,by rw [CZ,List.map_append];exact ka⟩,by simp only;omega,aq,_,aa⟩
   ·rw [h0] at hz
    subst hz
    refine gd [0,4,8,12,16,20,24,32,36,40,44,29,48,52,56] ?_
    refine gc LK ?_
    rintro _ _ ⟨rfl,rfl⟩
    refine gc LK ?_
    rintro _ _ ⟨rfl,rfl⟩
    refine gm ?_;intro b58
    refine gp ?_;intro fJ c3 C3 ka
    refine gn ?_
    exact ⟨(i+1,t5,_,C3,_),⟨by omega,Gi.symm,by rw [CZ,List.countP_append,ht5];rfl,by rw [CZ,List.map_append];exact ka⟩,by simp only;omega,aq,_,aa⟩
 ·obtain rfl:i=ls.length:=by omega
  rw [List.take_length] at ht5 ou
  have YE:CY ls.length=((n - 292:Nat):Int):=by
   rw [vc];simp only;rw [List.take_length,if_pos]
   obtain ⟨x,hx⟩:∃x,some x∈ls:=by
    refine Classical.byContradiction fun eP => ?_
    have:ls.countP (·.isNone)=ls.length:=List.countP_eq_length.2 fun o qG=>by
     rcases o with _ | x
     ·rfl
     ·exact absurd ⟨x,qG⟩ eP
    omega
   exact List.any_eq_true.2 ⟨_,hx,rfl⟩
  rw [YE] at hz
  subst hz
  refine gz ?_
  refine fin ⟨m,_,rfl,⟨ad2,c2,Cv,g9,ou,rfl⟩,rfl⟩ aa
section
variable (p:Nat)(qs:List Nat)(m n:Nat)(ls:List (Option Lv))(mk:Nat->eR)(lk:List (Option (Nat×Nat)))(hn:324<=n/\n<=8192)(iK:ls.length<=5)
include hn iK
theorem Ot (R:Rk)(C M L:Chunk)(hC:br p qs R C)(hM:J7 m ls lk (n - 292) M)(hL:iw mk 0 ls L)(ho:dI qs R n ls)(eP:∃x,some x∈ls) :
  Ct 346 [ptr m] [C,M,L] fun u Bs=>∃C',u = .int .i64 (if (R.run (upto (ni ls) ls.length)).off then 5 else 0)/\br p qs (R.run (upto (ni ls) ls.length)) C'/\Bs=[C',M,L]:=by
 have _:=hn
 obtain ⟨ad,c,Cv,g,ou,gM,rfl⟩:=hM
 refine stM Tryz.func346 fun w0 => ?_
 refine gs ?_
 refine ga ?_;intro b2
 refine ga ?_;intro b3
 refine ge ?_
 refine ga ?_;intro bt
 refine gfr (u7 bt m ls oZ _ _ Cv ou ((n - 292:Nat):Int)) (fun i Ls=>∃C e,i<=ls.length/\br p qs (R.run (upto (ni ls) i)) C/\(R.run (upto (ni ls) i)).off=(R.off)/\(e=4/\(∀j x,j<i->ls[j]? ≠ some (some x))\/e=0/\R.off=false)/\Ls=[[(bt,av [ptr m] 179)],[(b3,av [.int .i64 e] 48)],[(b2,av [.int .i64 0] 48)],C,[(m,zN (.slice ad ls.length c) (.slice (some ⟨g,0,none⟩) ls.length ls.length) ((n - 292:Nat):Int))],[(g,av (lk.flatMap mC) 419)],L]) (fun Ls=>∃C,br p qs R C/\R.off=true/\Ls=[[(b2,av [.int .i64 5] 48)],C,[(m,zN (.slice ad ls.length c) (.slice (some ⟨g,0,none⟩) ls.length ls.length) ((n - 292:Nat):Int))],[(g,av (lk.flatMap mC) 419)],L]) ?_ ?_ ?_ ?_ ?_
 ·exact ⟨C,4,by simp [u6],hC,rfl,.inl ⟨rfl,fun j x hj=>absurd hj (by simp [u6])⟩,rfl⟩
 ·rintro s s' Ls ⟨hs,rfl⟩ ⟨C,e,h1,h2,h3,h4,rfl⟩
  have hu:upto (ni ls) (s+1)=upto (ni ls) s:=by rw [upto,show ni ls s=[] by unfold ni;rw [hs],List.append_nil]
  obtain ⟨LR,_⟩:=List.getElem?_eq_some_iff.1 hs
  refine ⟨C,e,by omega,by rw [hu];exact h2,by rw [hu];exact h3,h4.imp_left fun ⟨h5,h6⟩=>⟨h5,fun j x hj => ?_⟩,rfl⟩
  rcases (show j<s\/j=s by omega) with c | rfl
  ·exact h6 j x c
  ·rw [hs];simp
 ·rintro rc l r s vs s' bg ⟨x,hx,rfl,rfl⟩ ⟨C,e,h1,h2,h3,h4,rfl⟩
  refine ⟨_,.two (Nat.le_of_ble_eq_true rfl) (Nat.le_of_ble_eq_true rfl), ?_⟩
  obtain ⟨o1,o2,o3⟩:=ho.run (upto (ni ls) s) x (List.mem_of_getElem? hx)
  obtain ⟨A,L1,B,pL,rfl⟩:=hL.at hx
  obtain ⟨LR,_⟩:=List.getElem?_eq_some_iff.1 hx
  have zQ:ni ls s=[.f x.i]:=by unfold ni;rw [hx]
  have jo:=CE p qs _ C h2 x.i x.q x.a (mk (0+s)) L1 pL o1 o2
  rw [show (R.run (upto (ni ls) s)).ev (.f x.i)=R.run (upto (ni ls) (s+1)) by rw [dO,zQ];rfl] at jo
  have jt:(R.run (upto (ni ls) (s+1))).off=R.off:=by
   rw [dO,zQ,<-h3];show ((R.run (upto (ni ls) s)).ev (.f x.i)).off=_
   simp only [Rk.ev];split <;> rfl
  rw [jt] at jo
  refine gas ?_
  refine gs ?_
  refine gc jo ?_
  rintro _ _ ⟨C',rfl,bA,rfl⟩
  cases RH:R.off with
  | true =>
   rw [Rk.jQ RH] at bA
   refine go ?_
   exact WE.stop (L':=[[(b2,av [.int .i64 5] 48)],C',[(m,zN (.slice ad ls.length c) (.slice (some ⟨g,0,none⟩) ls.length ls.length) ((n - 292:Nat):Int))],[(g,av (lk.flatMap mC) 419)],A++(L1++B)]) aa ⟨C',bA,rfl,rfl⟩
  | false =>
   refine go ?_
   exact WE.next (L':=[[(bt,av [ptr m] 179)],[(b3,av [.int .i64 0] 48)],[(b2,av [.int .i64 0] 48)],C',[(m,zN (.slice ad ls.length c) (.slice (some ⟨g,0,none⟩) ls.length ls.length) ((n - 292:Nat):Int))],[(g,av (lk.flatMap mC) 419)],A++(L1++B)]) aa ⟨C',0,by omega,bA,by rw [jt,RH],.inr ⟨rfl,rfl⟩,rfl⟩
 ·rintro r s bg AZ ⟨C,e,h1,h2,h3,h4,rfl⟩
  obtain rfl:s=ls.length:=AZ
  obtain ⟨rfl,RH⟩:e=0/\R.off=false:=by
   rcases h4 with ⟨_,h5⟩ | h4
   ·obtain ⟨x,hx⟩:=eP
    obtain ⟨j,hj⟩:=List.mem_iff_getElem?.1 hx
    obtain ⟨zb,_⟩:=List.getElem?_eq_some_iff.1 hj
    exact absurd hj (h5 j x zb)
   ·exact h4
  refine gm1 ?_
  exact fin ⟨C,by rw [h3,RH];rfl,h2,rfl⟩ aa
 ·rintro r bg ⟨C,h1,h2,rfl⟩
  refine gm1 ?_
  exact fin ⟨C,by rw [Rk.jQ h2,h2];rfl,by rw [Rk.jQ h2];exact h1,rfl⟩ aa
end
section
variable (T:TypeId)(fr:Nat×Nat)(p:Nat)(qs:List Nat)(m n:Nat)(ls:List (Option Lv))(mk:Nat->eR)(lk:List (Option (Nat×Nat)))(hn:324<=n/\n<=8192)(iK:ls.length<=5)
include hn iK
theorem To (R:Rk)(C M L:Chunk)(hC:br p qs R C)(hM:J7 m ls lk (n - 292) M)(hL:iw mk 0 ls L)(ho:dI qs R n ls)(bW:R.off=false)
  (at_:Nat) (b:List UInt8) (k kind:Nat) (s:Fs) (hk:b.length=k) (hb:1<=k/\k<=1024) (hf:at_+aD k+292<=n) (Ff:kind=1\/kind=2) (Cj:sM kind s b=true)
  (hx:∃x,some x∈ls) (hh:∀x,some x∈ls->R.rn x.i (274+at_) (aD k)=jD b) :
  Ct 349 [ptr m,.int .i64 at_,.int .i64 k,.int .i64 kind,s.agg] [gK T fr,C,M,L] fun u Bs=>∃ad O,u = .tuple #[.slice ad k k,.int .i64 0]/\Rd O 1 (.slice ad k k) k (ak b)/\Bs=[O,gK T fr,C,M,L]:=by
 obtain ⟨ad,c,Cv,g,ou,gM,rfl⟩:=hM
 have ek:1<=aD k/\aD k<=8/\k<=aD k*128:=by unfold aD;omega
 have zI:Ct 357 [ptr m,.int .i64 at_,.int .i64 k,.int .i64 kind,s.agg,.bool false] [gK T fr,C,[(m,zN (.slice ad ls.length c) (.slice (some ⟨g,0,none⟩) ls.length ls.length) ((n - 292:Nat):Int))],Cv,L] fun u Bs=>∃g2 c2,k<=c2/\u = .tuple #[.slice (some ⟨g2,0,none⟩) k c2,.slice none 0 0,.int .i64 0]/\Bs=[[(g2,av (ak (jD b)) 5)],gK T fr,C,[(m,zN (.slice ad ls.length c) (.slice (some ⟨g,0,none⟩) ls.length ls.length) ((n - 292:Nat):Int))],Cv,L]:=by
  refine stM Tryz.func357 fun w0 => ?_
  refine ga ?_;intro b6
  refine ga ?_;intro b7
  refine ga ?_;intro b8
  refine ga ?_;intro b9
  refine ga ?_;intro wV
  refine ga ?_;intro b11
  refine ga ?_;intro RC
  refine ga ?_;intro b13
  refine ga ?_;intro b14
  refine ge ?_
  refine ga ?_;intro bt
  obtain ⟨L0,hL0⟩:∃L0:List Chunk,L0=[[(bt,av [ptr m] 179)],[(b14,av [.int .i64 0] 48)],[(b13,av [.slice none 0 0] 111)],[(RC,av [.slice none 0 0] 28)],[(b11,av [.bool false] 4)],[(wV,av [.int .u64 s.a,.int .u64 s.b,.int .u64 s.c,.int .u64 s.d] 83)],[(b9,av [.int .i64 kind] 3)],[(b8,av [.int .i64 k] 3)],[(b7,av [.int .i64 at_] 3)],[(b6,av [ptr m] 179)],gK T fr,C,[(m,zN (.slice ad ls.length c) (.slice (some ⟨g,0,none⟩) ls.length ls.length) ((n - 292:Nat):Int))],L]:=⟨_,rfl⟩
  refine gfr (u7 bt m ls oZ _ _ Cv ou ((n - 292:Nat):Int)) (fun i Ls=>(∀j,j<i->ls[j]? = some none)/\Ls=L0) (fun Ls=>∃g2 c2,k<=c2/\Ls=[[(g2,av (ak (jD b)) 5)],[(b14,av [.int .i64 0] 48)],[(b13,av [.slice none 0 0] 111)],[(RC,av [.slice (some ⟨g2,0,none⟩) k c2] 28)],gK T fr,C,[(m,zN (.slice ad ls.length c) (.slice (some ⟨g,0,none⟩) ls.length ls.length) ((n - 292:Nat):Int))],L]) ?_ ?_ ?_ ?_ ?_
  ·exact ⟨fun j hj=>absurd hj (by simp [u6]),hL0.symm⟩
  ·rintro i i' Ls ⟨hi,rfl⟩ ⟨h1,rfl⟩
   refine ⟨fun j hj => ?_,rfl⟩
   rcases (show j<i\/j=i by omega) with c | rfl
   ·exact h1 j c
   ·exact hi
  ·rintro rc l r i vs i' bg ⟨x,uW,rfl,rfl⟩ ⟨h1,rfl⟩
   refine ⟨_,.two (Nat.le_of_ble_eq_true rfl) (Nat.le_of_ble_eq_true rfl), ?_⟩
   subst hL0
   obtain ⟨o1,o2,o3⟩:=ho x (List.mem_of_getElem? uW)
   have hsx:=hh x (List.mem_of_getElem? uW)
   obtain ⟨A,L1,B,pL,rfl⟩:=hL.at uW
   have oM:=u5 p qs R C hC x.i x.q n x.a (mk (0+i)) L1 pL o1 o2 o3 hn at_ (aD k) oZ
   rw [hsx] at oM
   refine gas ?_
   refine gs ?_
   refine qC [[(b6,av [ptr m] 179)],[(b7,av [.int .i64 at_] 3)],[(b8,av [.int .i64 k] 3)]] [0,4,8,12,17,23,26,30,34,38,42] ?_
   refine gc (pK m k hb) ?_
   rintro _ _ ⟨rfl,rfl⟩
   refine gc oM ?_
   rintro _ _ (⟨dN,rfl,rfl⟩ | ⟨-,g2,rfl,rfl⟩)
   ·rw [bW] at dN;cases dN
   have hRb:Rd [(g2,av (ak (jD b)) 5)] 1 (.slice (some ⟨g2,0,none⟩) k (aD k*128 - 0)) k (ak b):=by
    have:=s8 (g:=g2) (T:=5) (m:=k) [] (ak b) (List.replicate (aD k*128 - k) (.int .u8 0)) (by rw [ai,hk]) (aK b) oZ (aD k*128 - 0)
    rw [List.nil_append] at this
    rw [jD,aE,hk]
    simpa [ak] using this
   refine gd [0,4,8,12,16,23,26,30] ?_
   refine gv ?_
   refine gc (zz T fr _ _ b k hk hRb oZ kind s) ?_
   rintro _ _ ⟨rfl,rfl⟩
   rw [Cj]
   refine gv ?_
   refine gd [0,4,9,13,19] ?_
   refine go ?_
   exact WE.stop (L':=[[(g2,av (ak (jD b)) 5)],[(b14,av [.int .i64 0] 48)],[(b13,av [.slice none 0 0] 111)],[(RC,av [.slice (some ⟨g2,0,none⟩) k (aD k*128 - 0)] 28)],gK T fr,C,[(m,zN (.slice ad ls.length c) (.slice (some ⟨g,0,none⟩) ls.length ls.length) ((n - 292:Nat):Int))],A++(L1++B)]) aa ⟨g2,_,by omega,rfl⟩
  ·rintro r i bg AZ ⟨h1,rfl⟩
   exfalso
   obtain ⟨x,hx⟩:=hx
   obtain ⟨j,hj⟩:=List.mem_iff_getElem?.1 hx
   obtain ⟨zb,_⟩:=List.getElem?_eq_some_iff.1 hj
   have AZ:i=ls.length:=AZ
   rw [h1 j oZ] at hj;cases hj
  ·rintro r bg ⟨g2,c2,hc2,rfl⟩
   refine gm1 ?_
   exact fin ⟨g2,c2,hc2,rfl,rfl⟩ aa
 refine st Tryz.func349 fun w0 => ?_
 refine gs ?_
 refine ga ?_;intro b9
 refine ge ?_
 refine ga ?_;intro wV
 refine ge ?_
 refine gc (pK m k hb) ?_
 rintro _ _ ⟨rfl,rfl⟩
 rcases Ff with rfl | rfl
 all_goals
  refine gc zI ?_
  rintro _ _ ⟨g2,c2,hc2,rfl,rfl⟩
  have hRb:Rd [(g2,av (ak (jD b)) 5)] 1 (.slice (some ⟨g2,0,none⟩) k c2) k (ak b):=by
   have:=s8 (g:=g2) (T:=5) (m:=k) [] (ak b) (List.replicate (aD k*128 - k) (.int .u8 0)) (by rw [ai,hk]) (aK b) oZ c2
   rw [List.nil_append] at this
   rw [jD,aE,hk]
   simpa [ak] using this
  refine ge ?_
  refine gl [0,1,2,3,13,14] (fun _:Nat=>[(15,.int .i64 0),(10,.int .i64 0)]) (fun _=>[]) (fun _=>True) (fun _=>0) 0 trivial ?_
  intro _ _
  have xP:k - 0=k:=by omega
  have nZ:((ak b).drop (0*1)).take ((k - 0)*1)=ak b:=by rw [Nat.zero_mul,List.drop_zero,Nat.mul_one,Nat.sub_zero,List.take_of_length_le (by rw [ai];omega)]
  refine gw ?_;intro fJ zx
  refine gz ?_
  exact fin ⟨fJ,_,rfl,zx,rfl⟩ aa
theorem Ou (M:Chunk)(hM:J7 m ls lk (n - 292) M)(k:Nat)(hk:k<ls.length):Ct 347 [ptr m,.int .i64 k] [M] fun u Bs=>(∃a b:Nat,u = .tuple #[.agg #[.int .u64 a,.int .u64 b],.bool ((lk.getD k none).isSome)]/\∀q,lk.getD k none=some q->q=(a,b))/\Bs=[M]:=by
 have _:=hn
 have _:=iK
 obtain ⟨ad,c,Cv,g,ou,gM,rfl⟩:=hM
 obtain ⟨x,hx⟩:=eB (l:=lk) (i:=k) oZ
 have hs:=ar J6 lk k _ hx
 have hgd:lk.getD k none=x:=by simp [List.getD,hx]
 rw [hgd]
 refine st Tryz.func347 fun w0 => ?_
 refine gs ?_
 refine ga ?_;intro b4
 refine ge ?_
 rcases x with _ | ⟨a,b⟩
 ·have xe:=hs 2 _ rfl
  have hsS:Sub (k*3) [.int .u64 0,.int .u64 0] (lk.flatMap mC):=fun j u hu=>hs j u (by rcases j with _ | _ | j <;> simp at hu ⊢ <;> exact hu)
  refine qC [[(m,zN (.slice ad ls.length c) (.slice (some ⟨g,0,none⟩) ls.length ls.length) ((n - 292:Nat):Int))],[(g,av (lk.flatMap mC) 419)]] [0,4,8,12,16,20,24,28,32,36,40,44,48,52,56,60,65,68] ?_
  refine gz ?_
  exact fin ⟨⟨0,0,rfl,fun q hq=>by cases hq⟩,rfl⟩ aa
 ·have xe:=hs 2 _ rfl
  have hsS:Sub (k*3) [.int .u64 a,.int .u64 b] (lk.flatMap mC):=fun j u hu=>hs j u (by rcases j with _ | _ | j <;> simp at hu ⊢ <;> exact hu)
  refine qC [[(m,zN (.slice ad ls.length c) (.slice (some ⟨g,0,none⟩) ls.length ls.length) ((n - 292:Nat):Int))],[(g,av (lk.flatMap mC) 419)]] [0,4,8,12,16,20,24,28,32,36,40,44,48,52,56,60,65,68] ?_
  refine gz ?_
  exact fin ⟨⟨a,b,rfl,fun q hq=>by cases hq;rfl⟩,rfl⟩ aa
end
end Go.Proofs.YtcfioaeamfappaaGreatDoor
namespace Go.Sl
abbrev Gj (l:List Ub):List Value:=l.flatMap Ub.lay
theorem Ub.aj (u:Ub):u.lay.length=12:=rfl
theorem Ub.bC (u:Ub):∀x∈u.lay,x.oneCell'=true:=fun x hx=>by
 simp only [Ub.lay,List.mem_cons,List.not_mem_nil,or_false] at hx
 rcases hx with rfl | rfl | rfl | rfl | rfl | rfl | rfl | rfl | rfl | rfl | rfl | rfl <;> rfl
def Ub.JI (u v:Ub):Bool:=((u.pool:Int)==v.pool)&&(((u.txg:Int)==v.txg)&&(((u.note:Int)==v.note)&&u.root.JI v.root))
theorem Ub.Iu (u v:Ub):u.JI v=true↔u=v:=by
 obtain ⟨p,t,n,⟨a1,a2,a3,a4,a5,a6,a7,a8,a9⟩⟩:=u
 obtain ⟨p',t',n',⟨b1,b2,b3,b4,b5,b6,b7,b8,b9⟩⟩:=v
 simp [Ub.JI,Pt.JI,beq_iff_eq,Int.ofNat_inj]
theorem eG {α:Type}{lay:α->List Value}{s:Nat}(hs:∀a,(lay a).length=s):∀l:List α,(l.flatMap lay).length=l.length*s
 | []=>by simp
 | a :: l=>by rw [List.flatMap_cons,List.length_append,hs,eG hs l,List.length_cons,Nat.succ_mul];omega
theorem zR {α:Type}{lay:α->List Value}{s:Nat}(hs:∀a,(lay a).length=s)(r:List Value)(a:α):∀(l:List α) (j:Nat),j<l.length->ins (j*s) (lay a) (l.flatMap lay++r)=(l.set j a).flatMap lay++r:=by
 intro l j hj
 have h1:=eG hs l
 have h3:l=l.take j++l[j] :: l.drop (j+1):=by rw [<-List.drop_eq_getElem_cons,List.take_append_drop]
 have h4:=eG hs (l.take j)
 rw [List.length_take,Nat.min_eq_left oZ] at h4
 have h5:(j+1)*s<=l.length*s:=Nat.mul_le_mul_right _ oZ
 rw [Nat.succ_mul] at h5
 rw [qU _ _ _ (by rw [List.length_append,hs,h1];omega),hs,List.set_eq_take_append_cons_drop,if_pos hj]
 conv=>lhs;rw [h3]
 simp only [List.flatMap_append,List.flatMap_cons,List.append_assoc]
 rw [List.take_left' h4,List.drop_append,List.drop_of_length_le oZ,List.nil_append,h4,show j*s+s - j*s=s by omega,List.drop_left' (hs _)]
def Srt (l:List Ub)(i:Nat):Prop:=∀(p q:Nat) (u v:Ub),p<q->q<i->l[p]? = some u->l[q]? = some v->v.txg<=u.txg
structure We (l:List Ub)(j i:Nat):Prop where
 a:∀(p q:Nat) (u v:Ub),p<q->q<=i->q≠j->p≠j->l[p]? = some u->l[q]? = some v->v.txg<=u.txg
 b:∀(q:Nat) (u v:Ub),j<q->q<=i->l[j]? = some u->l[q]? = some v->v.txg<=u.txg
theorem We.start {l:List Ub}{i:Nat}(h:Srt l i):We l i i:=⟨fun p q u v h1 h2 h3 _=>h p q u v h1 oZ,fun q u v h1 h2=>by omega⟩
theorem Wf (l:List Ub){j:Nat}{a b:Ub}(hj:0<j)(hl:j<l.length)(p:Nat):((l.set j a).set (j - 1) b)[p]? = if p=j - 1 then some b else if p=j then some a else l[p]?:=by
 rw [List.getElem?_set,List.getElem?_set]
 by_cases h1:j - 1=p
 ·rw [if_pos h1,if_pos (show p=j - 1 from h1.symm),if_pos (by rw [List.length_set];omega)]
 ·rw [if_neg h1,if_neg (show ¬p=j - 1 from fun e=>h1 e.symm)]
  by_cases h2:j=p
  ·rw [if_pos h2,if_pos (show p=j from h2.symm),if_pos oZ]
  ·rw [if_neg h2,if_neg (show ¬p=j from fun e=>h2 e.symm)]
theorem We.step {l:List Ub}{j i:Nat}{a b:Ub}(h:We l j i)(hj:0<j)(hi:j<=i)(hl:i<l.length)(ha:l[j - 1]? = some a)(hb:l[j]? = some b)(bh:a.txg<b.txg):We ((l.set j a).set (j - 1) b) (j - 1) i:=by
 have hs:=Wf l (a:=a) (b:=b) hj oZ
 constructor
 ·intro p q u v h1 h2 h3 h4 hu hv
  rw [hs,if_neg h4] at hu
  rw [hs,if_neg h3] at hv
  by_cases c1:p=j
  ·rw [if_pos c1] at hu;cases hu
   rw [if_neg oZ] at hv
   exact h.a (j - 1) q a v oZ h2 oZ oZ ha hv
  ·rw [if_neg c1] at hu
   by_cases c2:q=j
   ·rw [if_pos c2] at hv;cases hv
    exact h.a p (j - 1) u a oZ oZ oZ c1 hu ha
   ·rw [if_neg c2] at hv
    exact h.a p q u v h1 h2 c2 c1 hu hv
 ·intro q u v h1 h2 hu hv
  rw [hs,if_pos rfl] at hu;cases hu
  rw [hs,if_neg oZ] at hv
  by_cases c2:q=j
  ·rw [if_pos c2] at hv;cases hv;omega
  ·rw [if_neg c2] at hv
   exact h.b q b v oZ h2 hb hv
theorem We.done {l:List Ub}{j i:Nat}(h:We l j i)(hd:j=0\/∀a b,l[j - 1]? = some a->l[j]? = some b->b.txg<=a.txg)(hj:j<=i)(hl:i<l.length):Srt l (i+1):=by
 intro p q u v h1 h2 hu hv
 by_cases c1:q=j
 ·subst c1
  rcases hd with h0 | hd
  ·omega
  ·obtain ⟨a,ha⟩:∃a,l[q - 1]? = some a:=⟨_,List.getElem?_eq_getElem oZ⟩
   have e1:=hd a v ha hv
   by_cases c2:p=q - 1
   ·subst c2;rw [ha] at hu;cases hu;exact e1
   ·have:=h.a p (q - 1) u a oZ oZ oZ oZ hu ha
    omega
 ·by_cases c2:p=j
  ·subst c2;exact h.b q u v h1 oZ hu hv
  ·exact h.a p q u v h1 oZ c1 c2 hu hv
theorem YG (l:List Ub){j:Nat}{a b:Ub}(hj:0<j)(hl:j<l.length)(ha:l[j - 1]? = some a)(hb:l[j]? = some b)(u:Ub):u∈(l.set j a).set (j - 1) b↔u∈l:=by
 have hs:=Wf l (a:=a) (b:=b) hj hl
 simp only [List.mem_iff_getElem?]
 constructor
 ·rintro ⟨p,hp⟩
  rw [hs] at hp
  split at hp
  ·cases hp;exact ⟨j,hb⟩
  ·split at hp
   ·cases hp;exact ⟨j - 1,ha⟩
   ·exact ⟨p,hp⟩
 ·rintro ⟨p,hp⟩
  by_cases c1:p=j - 1
  ·subst c1;rw [ha] at hp;cases hp;exact ⟨j,by rw [hs,if_neg oZ,if_pos rfl]⟩
  ·by_cases c2:p=j
   ·subst c2;rw [hb] at hp;cases hp;exact ⟨p - 1,by rw [hs,if_pos rfl]⟩
   ·exact ⟨p,by rw [hs,if_neg c1,if_neg c2];exact hp⟩
end Go.Sl
namespace Go.Proofs.YtcfioaeamfappaaGreatDoor
open Go.Sl
set_option maxRecDepth 10000
set_option maxHeartbeats 4000000
theorem Tq (O:Chunk)(v:Value)(l:List Ub)(n:Nat)(hn:l.length=n)(u:Ub)(hO:Rd O 12 v n (Gj l)):Ct 153 [v,u.agg] [O] fun w Bs=>w = .bool (decide (u∈l))/\Bs=[O]:=by
 subst hn
 have FY:=hO.2.2.1
 simp only [maxLen] at FY
 obtain ⟨ad,c,rfl⟩:=hO.slice
 refine st Tryz.func153 fun w0 => ?_
 refine ga ?_;intro b3
 refine ge ?_
 refine ga ?_;intro b4
 refine gl [0,3,6,7] (fun i:Nat=>[(8,.int .i64 i)]) (fun _=>[]) (fun i=>i<=l.length/\u∉l.take i) (fun i=>l.length - i) 0 ⟨by omega,by simp⟩ ?_
 rintro i ⟨hi,hm⟩
 refine gi ?_ ?_ <;> intro bh
 ·obtain ⟨x,hx⟩:=eB (show i<l.length by omega)
  have hs:=ar Ub.aj l i _ hx
  obtain ⟨g,off,rfl⟩:=hO.addr oZ
  refine gi ?_ ?_ <;> intro he
  ·have he:u.JI x=true:=he
   rw [Ub.Iu] at he
   refine gz ?_
   exact fin ⟨congrArg _ (by rw [decide_eq_true (p:=(0:Int)<=i) oZ,decide_eq_true (p:=u∈l) (he ▸ List.mem_of_getElem? hx)]),rfl⟩ aa
  ·have he:u.JI x=false:=he
   have eP:u≠x:=fun h=>by rw [(Ub.Iu u x).2 h] at he;cases he
   refine gn ?_
   refine ⟨i+1,⟨by omega, ?_⟩,by omega,aq,_,aa⟩
   obtain ⟨jg,rfl⟩:=List.getElem?_eq_some_iff.1 hx
   rw [List.take_succ_eq_append_getElem jg,List.mem_append,List.mem_singleton,not_or]
   exact ⟨hm,eP⟩
 ·obtain rfl:i=l.length:=by omega
  rw [List.take_length] at hm
  refine gz ?_
  exact fin ⟨congrArg _ (by rw [decide_eq_false hm];rfl),rfl⟩ aa
theorem Ts (a b:Ub):Ct 155 [a.agg,b.agg] [] fun w Bs=>w = .int .i64 (if b.txg<a.txg then -1 else if a.txg<b.txg then 1 else 0)/\Bs=[]:=by
 refine st Tryz.func155 fun w0 => ?_
 refine ga ?_;intro b2
 refine ga ?_;intro b3
 refine ge ?_
 refine ge ?_
 refine ge ?_
 refine gi ?_ ?_ <;> intro h1
 ·refine gz ?_
  exact fin ⟨by rw [if_pos oZ],rfl⟩ aa
 ·refine gi ?_ ?_ <;> intro h2
  ·refine gz ?_
   exact fin ⟨by rw [if_neg oZ,if_pos oZ],rfl⟩ aa
  ·refine gz ?_
   exact fin ⟨by rw [if_neg oZ,if_neg oZ],rfl⟩ aa
theorem Tt (g n c:Nat)(l:List Ub)(r:List Value)(hn:l.length=n)(hc:n<=1000):Ct 254 [.slice (some ⟨g,0,none⟩) n c,.int .i64 0,.int .i64 n,.func (.func 155) #[] #[]] [[(g,av (Gj l++r) 117)]] fun _ Bs=>∃l',(∀u,u∈l'↔u∈l)/\l'.length=n/\Srt l' n/\Bs=[[(g,av (Gj l'++r) 117)]]:=by
 refine st Tryz.func254 fun w0 => ?_
 refine gl [0,1,2,3] (fun ((i,_):Nat×List Ub)=>[(8,.int .i64 i)]) (fun (_,l)=>[[(g,av (Gj l++r) 117)]]) (fun (i,l')=>1<=i/\(i<=n\/i=1)/\(∀u,u∈l'↔u∈l)/\l'.length=n/\Srt l' i) (fun (i,_)=>n+1 - i) (1,l) ⟨by omega,.inr rfl,fun _=>Iff.rfl,hn,fun p q u v h1 h2=>by omega⟩ ?_
 rintro ⟨i,l1⟩ ⟨h1,h2,hm,s7,hs⟩
 refine gi ?_ ?_ <;> intro bh
 ·refine gl [0,1,2,3,8] (fun ((j,_):Nat×List Ub)=>[(9,.int .i64 j)]) (fun (_,l)=>[[(g,av (Gj l++r) 117)]]) (fun (j,l')=>j<=i/\(∀u,u∈l'↔u∈l)/\l'.length=n/\We l' j i) (fun (j,_)=>j) (i,l1) ⟨Nat.le_refl _,hm,s7,.start hs⟩ ?_
  rintro ⟨j,l2⟩ ⟨hj,LI,jc,hb⟩
  have iK:(Gj l2++r).length=n*12+r.length:=by rw [List.length_append,eG Ub.aj,jc]
  refine gd [0,4,8,12,16,20,24,28,32,36,40,44,48,52,59,62,66] ?_
  refine gg ?_ ?_ <;> intro hj0
  ·obtain ⟨a,ha⟩:=eB (l:=l2) (i:=j - 1) oZ
   obtain ⟨b,YH⟩:=eB (l:=l2) (i:=j) oZ
   have hsa:Sub ((j - 1)*12) a.lay (Gj l2++r):=fun k u hu=>by
    have:=ar Ub.aj l2 (j - 1) _ ha k u hu
    rw [List.getElem?_append_left (List.getElem?_eq_some_iff.1 this).1];exact this
   have N7:Sub (j*12) b.lay (Gj l2++r):=fun k u hu=>by
    have:=ar Ub.aj l2 j _ YH k u hu
    rw [List.getElem?_append_left (List.getElem?_eq_some_iff.1 this).1];exact this
   refine gc (Ts b a) ?_
   rintro _ _ ⟨rfl,rfl⟩
   have FY:l2.length<=1000:=by omega
   by_cases bh:a.txg<b.txg
   ·rw [if_pos bh]
    have hla:=Ub.aj a
    have LU:=Ub.aj b
    have bo:(ins (j*12) a.lay (Gj l2++r)).length=n*12+r.length:=by rw [zR Ub.aj r a l2 j oZ,List.length_append,eG Ub.aj,List.length_set,jc]
    refine gd [0,4,10,14,18,20,24,28,32,36,40,44,48,52,56,63,66,71] ?_
    refine gn ?_
    rw [zR Ub.aj r a l2 j oZ,zR Ub.aj r b _ (j - 1) (by rw [List.length_set];omega)]
    exact ⟨(j - 1,(l2.set j a).set (j - 1) b),⟨by omega,fun u=>(YG l2 oZ oZ ha YH u).trans (LI u),by simp [jc],hb.step oZ hj oZ ha YH bh⟩,by simp only;omega,aq,_,aa⟩
   ·have hd:=hb.done (.inr fun a' b' h3 h4=>by rw [ha] at h3;rw [YH] at h4;cases h3;cases h4;omega) hj oZ
    rw [if_neg bh]
    obtain ⟨z,hz,hz0⟩:∃z:Int,(if b.txg<a.txg then 1 else 0)=z/\0<=z:=⟨_,rfl,by split <;> omega⟩
    rw [hz]
    refine gn ?_
    exact ⟨(i+1,l2),⟨by omega,.inl oZ,LI,jc,hd⟩,by simp only;omega,aq,_,aa⟩
  ·have hd:=hb.done (.inl oZ) hj oZ
   refine gn ?_
   exact ⟨(i+1,l2),⟨by omega,.inl oZ,LI,jc,hd⟩,by simp only;omega,aq,_,aa⟩
 ·refine gz ?_
  exact fin ⟨l1,hm,s7,fun p q u v h3 h4=>hs p q u v h3 oZ,rfl⟩ aa
end Go.Proofs.YtcfioaeamfappaaGreatDoor
namespace Go.Sl
theorem ve {α:Type}[DecidableEq α]:∀ {l m:List α},l.Nodup->(∀x∈l,x∈m)->l.length<=m.length
 | [],_,_,_=>Nat.zero_le _
 | a :: l,m,hn,hs=>by
  rw [List.nodup_cons] at hn
  have h1:a∈m:=hs a (List.mem_cons_self ..)
  have h2:=ve (l:=l) (m:=m.erase a) hn.2 fun x hx=>(List.mem_erase_of_ne fun e=>hn.1 (by rw [<-e];exact hx)).2 (hs x (List.mem_cons_of_mem _ hx))
  rw [List.length_erase_of_mem h1] at h2
  have:=List.length_pos_of_mem h1
  rw [List.length_cons];omega
def iL (R:Rk)(n i:Nat)(ring:Nat->Nat->Option Ub):Prop:=∀k j,k<4->j<8->match ring k j with
 | none=>fQ (R.now i (fA n k+1+j)) gR=false
 | some u=>R.now i (fA n k+1+j)=whole (kx u)/\zC u=0/\u.Ok
def yg (ring:Nat->Nat->Option Ub)(pool k j:Nat)(u:Ub):Prop:=∃k' j',(k'<k/\j'<8\/k'=k/\j'<j)/\ring k' j'=some u/\u.pool=pool
theorem Gk {ring:Nat->Nat->Option Ub}{pool k:Nat}{u:Ub}:yg ring pool k 8 u↔yg ring pool (k+1) 0 u:=by
 constructor
 ·rintro ⟨k',j',h,h2⟩;exact ⟨k',j',by omega,h2⟩
 ·rintro ⟨k',j',h,h2⟩;exact ⟨k',j',by omega,h2⟩
theorem ju {ring:Nat->Nat->Option Ub}{pool k j:Nat}{u:Ub}:yg ring pool k (j+1) u↔yg ring pool k j u\/(ring k j=some u/\u.pool=pool):=by
 constructor
 ·rintro ⟨k',j',h,h2⟩
  by_cases c:k'=k/\j'=j
  ·obtain ⟨rfl,rfl⟩:=c;exact .inr h2
  ·exact .inl ⟨k',j',by omega,h2⟩
 ·rintro (⟨k',j',h,h2⟩ | h2)
  ·exact ⟨k',j',by omega,h2⟩
  ·exact ⟨k,j,by omega,h2⟩
end Go.Sl
namespace Go.Proofs.YtcfioaeamfappaaGreatDoor
open Go.Sl
set_option maxRecDepth 10000
set_option maxHeartbeats 4000000
theorem Ov (v:Value)(D:Chunk)(us:List Ub)(hD:az D 117 12 v us.length (Gj us))(hl:us.length<=19):Ct 154 [v,.func (.func 155) #[] #[]] [D] fun _ Bs=>∃Wg D',(∀u,u∈Wg↔u∈us)/\Wg.length=us.length/\Srt Wg us.length/\az D' 117 12 v us.length (Gj Wg)/\Bs=[D']:=by
 rcases hD.2.2 with ⟨rfl,h0,rfl⟩ | ⟨g,c,r,rfl,rfl,hc,lS,hlen⟩
 ·rw [h0]
  have hz:Ct 254 [.slice none 0 0,.int .i64 0,.int .i64 0,.func (.func 155) #[] #[]] [] fun _ Bs=>Bs=[]:=by
   refine st Tryz.func254 fun w0 => ?_
   refine gl [0,1,2,3] (fun _:Nat=>[(8,.int .i64 1)]) (fun _=>[]) (fun _=>True) (fun _=>0) 0 trivial ?_
   intro _ _
   refine gz ?_
   exact fin rfl aa
  obtain rfl:=List.eq_nil_of_length_eq_zero h0
  refine st Tryz.func154 fun w0 => ?_
  refine ge ?_
  refine gl [0,1,2,6] (fun _:Nat=>[(7,.int .i64 0),(8,.int .i64 20)]) (fun _=>[]) (fun _=>True) (fun _=>0) 0 trivial ?_
  intro _ _
  refine gc hz ?_
  rintro _ _ rfl
  refine gl [0,1,2] (fun _:Nat=>[(6,.int .i64 20)]) (fun _=>[]) (fun _=>True) (fun _=>0) 0 trivial ?_
  intro _ _
  refine gz ?_
  exact fin ⟨[],[],fun _=>Iff.rfl,rfl,fun p q u v h1 h2=>absurd h2 oZ,az.nil _ _,rfl⟩ aa
 ·have h1:=Tt g us.length c us r rfl oZ
  refine st Tryz.func154 fun w0 => ?_
  refine ge ?_
  refine gl [0,1,2,6] (fun _:Nat=>[(7,.int .i64 0),(8,.int .i64 20)]) (fun _=>[]) (fun _=>True) (fun _=>0) 0 trivial ?_
  intro _ _
  refine gc h1 ?_
  rintro _ _ ⟨Wg,hm,lT,hs,rfl⟩
  refine gl [0,1,2] (fun _:Nat=>[(6,.int .i64 20)]) (fun _=>[]) (fun _=>True) (fun _=>0) 0 trivial ?_
  intro _ _
  refine gz ?_
  refine fin ⟨Wg,_,hm,lT,hs,⟨by rw [eG Ub.aj,lT],fun x hx => ?_,.inr ⟨g,c,r,rfl,rfl,hc,lS, ?_⟩⟩,rfl⟩ aa
  ·obtain ⟨u,_,hu⟩:=List.mem_flatMap.1 hx;exact u.bC x hu
  ·rw [eG Ub.aj] at hlen ⊢;rw [lT];exact hlen
theorem Da (T:TypeId)(fr:Nat×Nat)(p:Nat)(qs:List Nat)(R:Rk)(C:Chunk)(hC:br p qs R C)(i q n a:Nat)(l:eR)(L:Chunk)(hL:Oa a q l L)(hq:qs[i]? = some q)(hl:R.live i)(ho:R.off=false)(hn:R.size i=n)(h:324<=n/\n<=8192)
  (ring:Nat->Nat->Option Ub) (hr:iL R n i ring) (U:List Ub) (hU:U.length<=19) (Ow:∀k j u,ring k j=some u->u∈U):Ct 106 [ptr a] [gK T fr,C,L] fun v Bs =>
  ∃us D,az D 117 12 v us.length (Gj us)/\(∀u,u∈us↔∃k j,k<4/\j<8/\ring k j=some u/\u.pool=l.pool)/\Srt us us.length/\Bs=[D,gK T fr,C,L]:=by
 obtain ⟨ad,c,D0,z1,z2,z3,E7,rfl⟩:=hL
 refine st Tryz.func106 fun w0 => ?_
 refine gs ?_
 refine gc (pJ p qs R C hC i q n hq hn h) ?_
 rintro _ _ ⟨rfl,rfl⟩
 refine gl [0,15] (fun ((k,_,v,_):Nat×List Ub×Value×Chunk)=>[(16,.int .i64 k),(3,v)]) (fun (_,_,_,D)=>[D]) (fun (k,us,v,D)=>k<=4/\us.Nodup/\(∀u,u∈us↔yg ring l.pool k 0 u)/\az D 117 12 v us.length (Gj us)) (fun (k,_)=>4 - k) (0,[],.slice none 0 0,[]) ⟨by omega,by simp,fun u=>⟨(fun hu=>by cases hu),(fun ⟨k',j',h1,_⟩=>by omega)⟩,az.nil _ _⟩ ?_
 rintro ⟨k,us,v,D⟩ ⟨hk,ek,hm,hD⟩
 refine gi ?_ ?_ <;> intro bh
 ·have LM:k<4:=by omega
  have Fa:=zL n LM
  have mj:=zK (k:=k) h.1
  refine gl [0,15,5,16] (fun ((j,_,v,_):Nat×List Ub×Value×Chunk)=>[(19,.int .u64 j),(3,v)]) (fun (_,_,_,D)=>[D]) (fun (j,us,v,D)=>j<=8/\us.Nodup/\(∀u,u∈us↔yg ring l.pool k j u)/\az D 117 12 v us.length (Gj us)) (fun (j,_)=>8 - j) (0,us,v,D) ⟨by omega,ek,hm,hD⟩ ?_
  rintro ⟨j,us,v,D⟩ ⟨hj,ek,hm,hD⟩
  refine gi ?_ ?_ <;> intro pD
  ·have hj8:j<8:=by omega
   have zj:us.length<=19:=Nat.le_trans (ve ek fun u hu=>by obtain ⟨k',j',_,h2,_⟩:=(hm u).1 hu;exact Ow _ _ _ h2) hU
   have hrk:=hr k j LM hj8
   obtain ⟨lU,fM⟩:=kF hC.ok (i:=i) (a:=fA n k+1+j) oZ
   refine qC [[(a,V7 q l (.slice ad l.aJ.length c) z1 z2 z3)]] [0,4,8,12,16,20,25,31,34,38,42,46,50] ?_
   refine ge ?_
   rw [Nat.mod_eq_of_lt hj8]
   refine gc (ng p qs R C hC i q (fA n k+1+j) 1 hq hl oZ) ?_
   rintro _ _ (⟨dN,rfl,rfl⟩ | ⟨-,g,rfl,rfl⟩)
   ·rw [ho] at dN;cases dN
   rw [lU]
   have hg:Rd [(g,av (ak (R.now i (fA n k+1+j))) 5)] 1 (.slice (some ⟨g,0,none⟩) 128 128) 128 (ak (R.now i (fA n k+1+j))):=aw (by rw [ai,fM]) (aK _) oZ _
   cases LH:ring k j with
   | none =>
    rw [LH] at hrk
    refine gc (Ci T fr _ _ 128 _ fM oZ hg hrk) ?_
    rintro _ _ ⟨rfl,rfl⟩
    refine ga ?_;intro b9
    refine gd [0,4,8,12,16,20,24,28,32,36,40,44,48,52,56,63,66,70] ?_
    refine gn ?_
    exact ⟨(j+1,us,v,D),⟨by omega,ek,fun u=>(hm u).trans (by rw [ju,LH];simp),hD⟩,by simp only;omega,aq,_,aa⟩
   | some u =>
    rw [LH] at hrk
    obtain ⟨hr1,hr2,hr3⟩:=hrk
    rw [hr1] at hg ⊢
    refine gc (F5 T fr _ _ 128 u hr2 hr3 oZ hg) ?_
    rintro _ _ ⟨rfl,rfl⟩
    refine ga ?_;intro b9
    refine gd [0,4,8,12,16,20,24,28,32,36,40,44,48,52,56,63,66,70] ?_
    by_cases hp:u.pool=l.pool
    ·refine gc (Tq D v us us.length rfl u hD.rd) ?_
     rintro _ _ ⟨rfl,rfl⟩
     by_cases jC:u∈us
     ·rw [decide_eq_true jC]
      refine gn ?_
      exact ⟨(j+1,us,v,D),⟨by omega,ek,fun u'=>⟨fun h'=>ju.2 (.inl ((hm u').1 h')),fun h'=>by
       rcases ju.1 h' with h' | ⟨h1,h2⟩
       ·exact (hm u').2 h'
       ·rw [LH] at h1;cases h1;exact jC⟩,hD⟩,by simp only;omega,aq,_,aa⟩
     ·rw [decide_eq_false jC]
      refine gm ?_;intro wV
      have V6:Rd [(wV,av u.lay 117)] 12 (.slice (some ⟨wV,0,none⟩) 1 1) 1 u.lay:=aw (Ub.aj u) u.bC oZ _
      refine gp ?_;intro fJ c3 C3 ka
      refine gn ?_
      refine ⟨(j+1,us++[u],_,C3),⟨by omega, ?_,fun u' => ?_, ?_⟩,by simp only;omega,aq,_,aa⟩
      ·rw [List.nodup_append];exact ⟨ek,by simp,fun x hx y hy e=>jC (by rw [List.mem_singleton.1 hy] at e;rw [<-e];exact hx)⟩
      ·rw [List.mem_append,hm,ju,LH,List.mem_singleton]
       constructor
       ·rintro (h' | rfl)
        ·exact .inl h'
        ·exact .inr ⟨rfl,hp⟩
       ·rintro (h' | ⟨h1,h2⟩)
        ·exact .inl h'
        ·cases h1;exact .inr rfl
      ·rw [List.length_append];simpa [Gj] using ka
    ·refine gn ?_
     exact ⟨(j+1,us,v,D),⟨by omega,ek,fun u'=>(hm u').trans (by
      rw [ju,LH]
      constructor
      ·exact .inl
      ·rintro (h' | ⟨h1,h2⟩)
       ·exact h'
       ·cases h1;exact absurd h2 hp),hD⟩,by simp only;omega,aq,_,aa⟩
  ·obtain rfl:j=8:=by omega
   refine gn ?_
   exact ⟨(k+1,us,v,D),⟨by omega,ek,fun u=>(hm u).trans Gk,hD⟩,by simp only;omega,aq,_,aa⟩
 ·obtain rfl:k=4:=by omega
  have zj:us.length<=19:=Nat.le_trans (ve ek fun u hu=>by obtain ⟨k',j',_,h2,_⟩:=(hm u).1 hu;exact Ow _ _ _ h2) hU
  refine gc (Ov v D us hD zj) ?_
  rintro _ _ ⟨Wg,D',hm',lT,LR,eo,rfl⟩
  rw [<-lT] at LR eo
  refine gz ?_
  exact fin ⟨Wg,D',eo,fun u=>(hm' u).trans ((hm u).trans ⟨fun ⟨k',j',h1,h2,h3⟩=>⟨k',j',by omega,by omega,h2,h3⟩,fun ⟨k',j',h1,h2,h3,h4⟩=>⟨k',j',.inl ⟨h1,h2⟩,h3,h4⟩⟩),LR,rfl⟩ aa
end Go.Proofs.YtcfioaeamfappaaGreatDoor
