namespace Go.Proofs.YtclkcmidhhfdmaaGreatDoor
theorem ud {α:Type}{P:List α->Prop}(h0:P [])(hs:∀l a,P l->P (l++[a]))(l:List α):P l:=by
 have h:∀r:List α,P r.reverse:=by
  intro r
  induction r with
  | nil=>simpa using h0
  | cons a r ih=>rw[List.reverse_cons];exact hs _ _ ih
 have:=h l.reverse
 rwa [List.reverse_reverse]at this
def be:Nat->Nat->List UInt8
 | 0,_=>[]
 | b+1,n=>be b (n/256)++[UInt8.ofNat (n%256)]
def rq (l:List UInt8):Nat:=l.foldl (fun a c=>256*a+c.toNat) 0
theorem dr:∀(b n:Nat),(be b n).length=b
 | 0,_=>rfl
 | b+1,n=>by simp[be,dr b]
theorem qG (l:List UInt8)(c:UInt8):rq (l++[c])=256*rq l+c.toNat:=by simp[rq]
theorem ue:∀(b n:Nat),n<256 ^ b->rq (be b n)=n
 | 0,n,h=>by simp at h;simp[be,rq,h]
 | b+1,n,h=>by
  rw[be,qG,ue b (n/256) (by rw[Nat.div_lt_iff_lt_mul (by omega)];rw[Nat.pow_succ]at h;exact h)]
  simp
  omega
def xf (l:List UInt8)(k:Nat):Nat:=256*(l.getD (2*k) 0).toNat+(l.getD (2*k+1) 0).toNat
theorem wG (l:List UInt8)(k:Nat):xf l k<65536:=by
 unfold xf;have:=(l.getD (2*k) 0).toNat_lt;have:=(l.getD (2*k+1) 0).toNat_lt;omega
def vp (l:List UInt8)(k:Nat):Fin 65536:=⟨xf l k,wG l k⟩
def gQ (l:List UInt8)(k:Nat):List (Fin 65536):=(List.range k).map (vp l)
theorem uf (l:List UInt8)(k:Nat):gQ l (k+1)=gQ l k++[vp l k]:=by simp[gQ,List.range_succ]
theorem rr (l:List UInt8)(k:Nat):(gQ l k).length=k:=by simp[gQ]
def oP (l:List (Fin 65536)):Nat:=(l.map (·.val)).sum
theorem qH (l:List (Fin 65536))(x:Fin 65536):oP (l++[x])=oP l+x.val:=by simp[oP]
theorem x7 (l:List (Fin 65536)):oP l<=65535*l.length:=by
 refine ud (P:=fun l=>oP l<=65535*l.length) ?_ ?_ l
 ·simp[oP]
 intro l x ih;rw[qH,List.length_append,List.length_singleton];have:=x.isLt;omega
def xE (l:List UInt8):Nat:=oP (gQ l ((l.length+1)/2))
def fy (n:Nat):Nat:=if n=0 then 0 else(n-1)%65535+1
def rt (l:List UInt8):Nat:=65535-fy (xE l)
theorem ug (n:Nat)(h:n<=65535):fy n=n:=by unfold fy;split <;> omega
theorem oQ (n q:Nat)(h:0<n):fy (n+65535*q)=fy n:=by
 unfold fy;rw[if_neg (by omega),if_neg (by omega),show n+65535*q-1=(n-1)+65535*q by omega,Nat.add_mul_mod_self_left]
theorem vq (n:Nat)(h:65535<n):fy (n%65536+n/65536)=fy n:=by
 have e:n=(n%65536+n/65536)+65535*(n/65536):=by omega
 conv=>rhs;rw[e]
 rw[oQ _ _ (by omega)]
structure Tm where
 had:Bool
 trip:Int
 dev:Int
 timing:Bool
 goal:Int
 since:Int
 backs:Int
def me:Tm:=⟨false,0,0,false,0,0,0⟩
def cW (since now:Int):Int:=if now<=since then 1 else if now-since<1000 then now-since else 1000
def Tm.sample (m:Tm)(r:Int):Tm :=
 if m.had then { m with trip:=m.trip+(r-m.trip/8),dev:=m.dev+(max (r-m.trip/8) (-(r-m.trip/8))-m.dev/4) }
 else { m with had:=true,trip:=8*r,dev:=2*r }
def Tm.sent (m:Tm)(now n:Int):Tm:=if m.timing then m else { m with timing:=true,goal:=n,since:=now }
def Tm.retr (m:Tm):Tm:={ m with timing:=false }
def Tm.acked (m:Tm)(now una:Int):Tm :=
 if m.timing=true/\m.goal<=una then Tm.sample { m with timing:=false,backs:=0 } (cW m.since now)else m
def Tm.backoff (m:Tm):Tm:={ m with backs:=min (m.backs+1) 8 }
def Tm.base (m:Tm):Int:=if m.had then min (max (m.trip/8+max m.dev 1) 4) 240 else 12
def Tm.value (m:Tm):Int:=min (m.base*2 ^ m.backs.toNat) 240
def Tm.Ok (m:Tm):Prop:=0<=m.trip/\m.trip<=8000/\0<=m.dev/\m.dev<=4003/\0<=m.backs/\m.backs<=8
theorem ru:me.Ok:=by unfold Tm.Ok me;decide
theorem jQ (s n:Int):1<=cW s n/\cW s n<=1000:=by unfold cW;split <;> (try split) <;> omega
theorem Tm.sample_ok {m:Tm}(h:m.Ok){r:Int}(h1:1<=r)(h2:r<=1000):(m.sample r).Ok:=by
 obtain⟨a,b,c,d,e,f⟩:=h;unfold Tm.sample Tm.Ok;split
 ·refine⟨?_,?_,?_,?_,e,f⟩ <;> dsimp only <;> omega
 refine⟨?_,?_,?_,?_,e,f⟩ <;> dsimp only <;> omega
theorem Tm.sent_ok {m:Tm}(h:m.Ok)(now n:Int):(m.sent now n).Ok:=by unfold Tm.sent;split;exact h;exact h
theorem Tm.acked_ok {m:Tm}(h:m.Ok)(now una:Int):(m.acked now una).Ok:=by
 unfold Tm.acked;split
 ·obtain⟨e1,e2⟩:=jQ m.since now;refine Tm.sample_ok ?_ e1 e2;obtain⟨a,b,c,d,e,f⟩:=h;exact⟨a,b,c,d,by dsimp only;omega,by dsimp only;omega⟩
 exact h
theorem Tm.backoff_ok {m:Tm}(h:m.Ok):m.backoff.Ok:=by
 obtain⟨a,b,c,d,e,f⟩:=h;exact⟨a,b,c,d,by unfold Tm.backoff;dsimp only;omega,by unfold Tm.backoff;dsimp only;omega⟩
theorem Tm.base_bd (m:Tm):4<=m.base/\m.base<=240:=by unfold Tm.base;split <;> omega
end Go.Proofs.YtclkcmidhhfdmaaGreatDoor
