import Derived.Test.YtbgehdndimlgkaaGreatQ19
set_option maxHeartbeats 16000000
set_option linter.unusedSimpArgs false
set_option linter.unusedVariables false
namespace Go.Proofs.YtbgehdndimlgkaaGreat
open Go Go.RowKit Go.Av
set_option maxRecDepth 100000
section
variable {P:Program} {sz n i n0 m:Nat} {env env0:Env} {h h0:aO} {dfs:bX} {K:AK} {l rest:List Oper} {T ty:TypeId} {x:Operand} {pos:String} {aft:Array Edge} {gd:Option (Nat × Bool)} {d:Option Tmp}
theorem cD9 (hh:Drw P l sz K dfs i n0 env0 h0 m (⟨d,.sliceToArrayPointer T x,ty,pos,aft,gd⟩::rest) n env h):Drw P l sz K dfs i n0 env0 h0 m (⟨d,.sliceToArrayPointer T x,ty,pos,aft,gd⟩::rest) n env h:=hh
end
noncomputable def kdL (ch b:List UInt8):List UInt8:=sum 330#64 (ch++b)
attribute [local irreducible] Still Adds AWL AW Drw bS bY AC AWR cQ Frz Go.Av.Src cM Out InK ItK AsK RdK fC eZ ACT ACA fJ bK3 kdL
attribute [local simp] bU bQ bM
theorem eC5 (b:List UInt8) (m h:Nat) (hm:b.length=m) (hb:m≤100000000) (hh:min m 10=h) (ch:List UInt8) (hch:ch.length=32) (e':Int) (he:e'≠0) (hri:AC Tryz.prog 120 [.sl 1 h (u8c (b.take h))] (.tup [.c (iv 0),.c (.v (.slice none 0 0)),.c (iv e')]) [] 0):AC Tryz.prog 61 [.sl 1 m (u8c b),.agg (u8c ch)] (.tup [.c (.agg (ecs en0 0 0)),.c (.agg (u8c root0)),.c (iv 0),.c (bv false)]) [] 0:=by
 have hX:(if 10<(m:Int) then 10 else (m:Int)).toNat-0=h:=by split<;>omega
 have hY:List.take (h*1) (List.drop (0*1) (u8c b))=u8c (b.take h):=by simp
 rw [← hY,← hX] at hri
 dsimp only [ecs,en0,lk0,hd0,jF,rq0,Vl.nul] at *
 refine jT aB (sz:=91) Tryz.func61 rfl rM ?_
 repeat' (first|(refine aC ?_;intro K hK hX)|refine bV2 ?_|(refine aF hK hX ?_;clear hK hX K)|fail)
 exact xW
theorem eC6 (b:List UInt8) (m h:Nat) (hm:b.length=m) (hb:m≤100000000) (hh:min m 10=h) (ch:List UInt8) (hch:ch.length=32) (n:Int) (hn64:aV n) (rb:List UInt8) (q:Nat) (hrb:rb.length=q) (j:Nat) (hj:h-q=j) (hqh:q≤h) (hri:AC Tryz.prog 120 [.sl 1 h (u8c (b.take h))] (.tup [.c (iv n),.c (.sl 1 q (u8c rb)),.c (iv 0)]) [] 0) (h1:n<0):AC Tryz.prog 61 [.sl 1 m (u8c b),.agg (u8c ch)] (.tup [.c (.agg (ecs en0 0 0)),.c (.agg (u8c root0)),.c (iv 0),.c (bv false)]) [] 0:=by
 have hX:(if 10<(m:Int) then 10 else (m:Int)).toNat-0=h:=by split<;>omega
 have hY:List.take (h*1) (List.drop (0*1) (u8c b))=u8c (b.take h):=by simp
 rw [← hY,← hX] at hri
 dsimp only [ecs,en0,lk0,hd0,jF,rq0,Vl.nul] at *
 refine jT aB (sz:=91) Tryz.func61 rfl rM ?_
 repeat' (first|(refine aC ?_;intro K hK hX)|refine bV2 ?_|(refine aF hK hX ?_;clear hK hX K)|fail)
 exact xW
theorem eC7 (b:List UInt8) (m h:Nat) (hm:b.length=m) (hb:m≤100000000) (hh:min m 10=h) (ch:List UInt8) (hch:ch.length=32) (n:Int) (hn64:aV n) (rb:List UInt8) (q:Nat) (hrb:rb.length=q) (j:Nat) (hj:h-q=j) (hqh:q≤h) (hri:AC Tryz.prog 120 [.sl 1 h (u8c (b.take h))] (.tup [.c (iv n),.c (.sl 1 q (u8c rb)),.c (iv 0)]) [] 0) (h1:0≤n) (h2:(m:Int)<(h:Int)-q+n+32):AC Tryz.prog 61 [.sl 1 m (u8c b),.agg (u8c ch)] (.tup [.c (.agg (ecs en0 0 0)),.c (.agg (u8c root0)),.c (iv 0),.c (bv false)]) [] 0:=by
 have hX:(if 10<(m:Int) then 10 else (m:Int)).toNat-0=h:=by split<;>omega
 have hY:List.take (h*1) (List.drop (0*1) (u8c b))=u8c (b.take h):=by simp
 rw [← hY,← hX] at hri
 dsimp only [ecs,en0,lk0,hd0,jF,rq0,Vl.nul] at *
 refine jT aB (sz:=91) Tryz.func61 rfl rM ?_
 repeat' (first|(refine aC ?_;intro K hK hX)|refine bV2 ?_|(refine aF hK hX ?_;clear hK hX K)|fail)
 exact xW
theorem eC8 (b:List UInt8) (m h:Nat) (hm:b.length=m) (hb:m≤100000000) (hh:min m 10=h) (ch:List UInt8) (hch:ch.length=32) (n:Int) (hn64:aV n) (rb:List UInt8) (q:Nat) (hrb:rb.length=q) (j:Nat) (hj:h-q=j) (hqh:q≤h) (hri:AC Tryz.prog 120 [.sl 1 h (u8c (b.take h))] (.tup [.c (iv n),.c (.sl 1 q (u8c rb)),.c (iv 0)]) [] 0) (nn:Nat) (hnn:n=nn) (h2:j+nn+32≤m) (e2:Int) (he2:e2≠0) (hre:AC Tryz.prog 77 [.sl 1 nn (u8c ((b.drop j).take nn))] (.tup [.c (.agg (ecs en0 0 0)),.c (.v (.slice none 0 0)),.c (iv e2)]) [] 0)  : AC Tryz.prog 61 [.sl 1 m (u8c b),.agg (u8c ch)] (.tup [.c (.agg (ecs en0 0 0)),.c (.agg (u8c root0)),.c (iv 0),.c (bv false)]) [] 0:=by
 have hX:(if 10<(m:Int) then 10 else (m:Int)).toNat-0=h:=by split<;>omega
 have hY:List.take (h*1) (List.drop (0*1) (u8c b))=u8c (b.take h):=by simp
 rw [← hY,← hX] at hri
 have hS:((((if 10<(m:Int) then 10 else (m:Int)).toNat-0:Nat):Int)-(q:Int)+n).toNat-((if 10<(m:Int) then 10 else (m:Int)).toNat-0-q)=nn:=by rw [hX];omega
 have hZ:List.take (nn*1) (List.drop (((if 10<(m:Int) then 10 else (m:Int)).toNat-0-q)*1) (u8c b))=u8c ((b.drop j).take nn):=by rw [hX,hj];simp
 rw [← hZ,← hS] at hre
 dsimp only [ecs,en0,lk0,hd0,jF,rq0,Vl.nul] at *
 refine jT aB (sz:=91) Tryz.func61 rfl rM ?_
 repeat' (first|(refine aC ?_;intro K hK hX)|refine dA6 ?_|(refine aF hK hX ?_;clear hK hX K)|fail)
 exact xW
theorem eC9 (b:List UInt8) (m h:Nat) (hm:b.length=m) (hb:m≤100000000) (hh:min m 10=h) (ch:List UInt8) (hch:ch.length=32) (n:Int) (hn64:aV n) (rb:List UInt8) (q:Nat) (hrb:rb.length=q) (j:Nat) (hj:h-q=j) (hqh:q≤h) (hri:AC Tryz.prog 120 [.sl 1 h (u8c (b.take h))] (.tup [.c (iv n),.c (.sl 1 q (u8c rb)),.c (iv 0)]) [] 0) (nn:Nat) (hnn:n=nn) (h2:j+nn+32≤m) (cs:List CV) (hcs:cs.length=65) (p:Nat) (hp:0<p) (rc:List CV) (hre:AC Tryz.prog 77 [.sl 1 nn (u8c ((b.drop j).take nn))] (.tup [.c (.agg cs),.c (.sl 1 p rc),.c (iv 0)]) [] 0)  : AC Tryz.prog 61 [.sl 1 m (u8c b),.agg (u8c ch)] (.tup [.c (.agg (ecs en0 0 0)),.c (.agg (u8c root0)),.c (iv 0),.c (bv false)]) [] 0:=by
 have hX:(if 10<(m:Int) then 10 else (m:Int)).toNat-0=h:=by split<;>omega
 have hY:List.take (h*1) (List.drop (0*1) (u8c b))=u8c (b.take h):=by simp
 rw [← hY,← hX] at hri
 have hS:((((if 10<(m:Int) then 10 else (m:Int)).toNat-0:Nat):Int)-(q:Int)+n).toNat-((if 10<(m:Int) then 10 else (m:Int)).toNat-0-q)=nn:=by rw [hX];omega
 have hZ:List.take (nn*1) (List.drop (((if 10<(m:Int) then 10 else (m:Int)).toNat-0-q)*1) (u8c b))=u8c ((b.drop j).take nn):=by rw [hX,hj];simp
 rw [← hZ,← hS] at hre
 dsimp only [ecs,en0,lk0,hd0,jF,rq0,Vl.nul] at *
 refine jT aB (sz:=91) Tryz.func61 rfl rM ?_
 repeat' (first|(refine aC ?_;intro K hK hX)|refine dA6 ?_|(refine aF hK hX ?_;clear hK hX K)|fail)
 exact xW
theorem eD0 (b:List UInt8) (m h:Nat) (hm:b.length=m) (hb:m≤100000000) (hh:min m 10=h) (ch:List UInt8) (hch:ch.length=32) (n:Int) (hn64:aV n) (rb:List UInt8) (q:Nat) (hrb:rb.length=q) (j:Nat) (hj:h-q=j) (hqh:q≤h) (hri:AC Tryz.prog 120 [.sl 1 h (u8c (b.take h))] (.tup [.c (iv n),.c (.sl 1 q (u8c rb)),.c (iv 0)]) [] 0) (nn:Nat) (hnn:n=nn) (h2:j+nn+32≤m) (cs:List CV) (hcs:cs.length=65) (rc:List CV) (hre:AC Tryz.prog 77 [.sl 1 nn (u8c ((b.drop j).take nn))] (.tup [.c (.agg cs),.c (.sl 1 0 rc),.c (iv 0)]) [] 0) (d:List UInt8) (hd:d.length=32) (hky:AC Tryz.prog 78 [wv 330#64,.agg (u8c ch),.sl 1 nn (u8c ((b.drop j).take nn))] (.c (.agg (u8c d))) [] 0) (hne:¬d=(b.drop (j+nn)).take 32):AC Tryz.prog 61 [.sl 1 m (u8c b),.agg (u8c ch)] (.tup [.c (.agg (ecs en0 0 0)),.c (.agg (u8c root0)),.c (iv 0),.c (bv false)]) [] 0:=by
 have hX:(if 10<(m:Int) then 10 else (m:Int)).toNat-0=h:=by split<;>omega
 have hY:List.take (h*1) (List.drop (0*1) (u8c b))=u8c (b.take h):=by simp
 rw [← hY,← hX] at hri
 have hS:((((if 10<(m:Int) then 10 else (m:Int)).toNat-0:Nat):Int)-(q:Int)+n).toNat-((if 10<(m:Int) then 10 else (m:Int)).toNat-0-q)=nn:=by rw [hX];omega
 have hZ:List.take (nn*1) (List.drop (((if 10<(m:Int) then 10 else (m:Int)).toNat-0-q)*1) (u8c b))=u8c ((b.drop j).take nn):=by rw [hX,hj];simp
 rw [← hZ,← hS] at hre
 rw [← hZ,← hS] at hky
 have hcl:(u8c ch).length=32:=by rw [aL,hch]
 have hwl:((b.drop (j+nn)).take 32).length=32:=by rw [List.length_take,List.length_drop];omega
 have hdl:(u8c d).length=32:=by rw [aL,hd]
 have hW:List.take 32 (List.drop 0 (List.take (((((((if 10<(m:Int) then 10 else (m:Int)).toNat-0:Nat):Int)-(q:Int)+n+32).toNat-((((if 10<(m:Int) then 10 else (m:Int)).toNat-0:Nat):Int)-(q:Int)+n).toNat))*1) (List.drop (((((if 10<(m:Int) then 10 else (m:Int)).toNat-0:Nat):Int)-(q:Int)+n).toNat*1) (u8c b))))=u8c ((b.drop (j+nn)).take 32):=by
  rw [hX,show ((h:Int)-(q:Int)+n+32).toNat-((h:Int)-(q:Int)+n).toNat=32 from by omega,show ((h:Int)-(q:Int)+n).toNat=j+nn from by omega]
  simp only [List.drop_zero,Nat.mul_one,bU,bQ]
  rw [List.take_take,Nat.min_self]
 have hul:(u8c ((b.drop (j+nn)).take 32)).length=32:=by rw [aL];exact hwl
 dsimp only [ecs,en0,lk0,hd0,jF,rq0,Vl.nul] at *
 refine jT aB (sz:=91) Tryz.func61 rfl rM ?_
 repeat' (first|(refine aC ?_;intro K hK hX)|refine bI [0,1,3,4,5,6,7,8,9,10,11,12,13,14,15,16,17] ?_|((with_reducible refine aY ?_);refine yA ?_;refine bJ (aX (T:=49) aB rfl rfl rfl) rfl ?_)|((with_reducible refine cD9 ?_);refine xD ?_;refine aK (dI6 aB rfl rfl rfl aA aA) ?_)|(refine cD ?_;first|refine c0 hri ?_|refine c0 hre ?_|refine c0 hky ?_)|((first|((with_reducible refine cA ?_);refine xA ?_)|((with_reducible refine eK ?_);refine xD ?_));(first|((with_reducible refine bT ?_);(first|refine aK (cJ8 aB aZ rfl rfl rfl rfl rfl rfl rfl rfl rfl hd hwl (show (!decide (d=(b.drop (j+nn)).take 32))=true from by rw [decide_eq_false hne];first|done|rfl)) ?_))))|refine fL ?_|refine stA ?_|refine stD ?_|(refine aF hK hX ?_;clear hK hX K)|fail)
 exact xW
theorem eD1 (b:List UInt8) (m h:Nat) (hm:b.length=m) (hb:m≤100000000) (hh:min m 10=h) (ch:List UInt8) (hch:ch.length=32) (n:Int) (hn64:aV n) (rb:List UInt8) (q:Nat) (hrb:rb.length=q) (j:Nat) (hj:h-q=j) (hqh:q≤h) (hri:AC Tryz.prog 120 [.sl 1 h (u8c (b.take h))] (.tup [.c (iv n),.c (.sl 1 q (u8c rb)),.c (iv 0)]) [] 0) (nn:Nat) (hnn:n=nn) (h2:j+nn+32≤m) (cs:List CV) (hcs:cs.length=65) (rc:List CV) (hre:AC Tryz.prog 77 [.sl 1 nn (u8c ((b.drop j).take nn))] (.tup [.c (.agg cs),.c (.sl 1 0 rc),.c (iv 0)]) [] 0) (d:List UInt8) (hd:d.length=32) (hky:AC Tryz.prog 78 [wv 330#64,.agg (u8c ch),.sl 1 nn (u8c ((b.drop j).take nn))] (.c (.agg (u8c d))) [] 0) (k:Nat) (hk:j+nn+32=k) (heq:d=(b.drop (j+nn)).take 32):AC Tryz.prog 61 [.sl 1 m (u8c b),.agg (u8c ch)] (.tup [.c (.agg cs),.c (.agg (u8c d)),.c (iv k),.c (bv true)]) [] 0:=by
 have hX:(if 10<(m:Int) then 10 else (m:Int)).toNat-0=h:=by split<;>omega
 have hY:List.take (h*1) (List.drop (0*1) (u8c b))=u8c (b.take h):=by simp
 rw [← hY,← hX] at hri
 have hS:((((if 10<(m:Int) then 10 else (m:Int)).toNat-0:Nat):Int)-(q:Int)+n).toNat-((if 10<(m:Int) then 10 else (m:Int)).toNat-0-q)=nn:=by rw [hX];omega
 have hZ:List.take (nn*1) (List.drop (((if 10<(m:Int) then 10 else (m:Int)).toNat-0-q)*1) (u8c b))=u8c ((b.drop j).take nn):=by rw [hX,hj];simp
 rw [← hZ,← hS] at hre
 rw [← hZ,← hS] at hky
 have hcl:(u8c ch).length=32:=by rw [aL,hch]
 have hwl:((b.drop (j+nn)).take 32).length=32:=by rw [List.length_take,List.length_drop];omega
 have hdl:(u8c d).length=32:=by rw [aL,hd]
 have hW:List.take 32 (List.drop 0 (List.take (((((((if 10<(m:Int) then 10 else (m:Int)).toNat-0:Nat):Int)-(q:Int)+n+32).toNat-((((if 10<(m:Int) then 10 else (m:Int)).toNat-0:Nat):Int)-(q:Int)+n).toNat))*1) (List.drop (((((if 10<(m:Int) then 10 else (m:Int)).toNat-0:Nat):Int)-(q:Int)+n).toNat*1) (u8c b))))=u8c ((b.drop (j+nn)).take 32):=by
  rw [hX,show ((h:Int)-(q:Int)+n+32).toNat-((h:Int)-(q:Int)+n).toNat=32 from by omega,show ((h:Int)-(q:Int)+n).toNat=j+nn from by omega]
  simp only [List.drop_zero,Nat.mul_one,bU,bQ]
  rw [List.take_take,Nat.min_self]
 have hul:(u8c ((b.drop (j+nn)).take 32)).length=32:=by rw [aL];exact hwl
 refine jT aB (sz:=91) Tryz.func61 rfl rM ?_
 repeat' (first|(refine aC ?_;intro K hK hX)|refine aI [0,1,3,4,5,6,7,8,9,10,11,12,13,14,15,16,17] ?_|((with_reducible refine bC (i:=16) ?_);refine aW [0,1,3,4,5,6,7,8,9,10,11,12,13,14,15,16,17] rfl rfl ?_;refine dE [] ?_)|((with_reducible refine bC ?_);refine aW [0,1,3,4,5,6,7,8,9,10,11,12,13,14,15,16,17] rfl rfl ?_;refine dA [] ?_)|((with_reducible refine aY ?_);refine yA ?_;refine bJ (aX (T:=49) aB rfl rfl rfl) rfl ?_)|((with_reducible refine cD9 ?_);refine xD ?_;refine aK (dI6 aB rfl rfl rfl aA aA) ?_)|(refine fA ?_;first|refine c0 hri ?_|refine c0 hre ?_|refine c0 hky ?_)|((first|((with_reducible refine cA ?_);refine xA ?_)|((with_reducible refine eK ?_);refine xD ?_)|((with_reducible refine lQ ?_);refine xE ?_));(first|((with_reducible refine bT ?_);(first|refine aK (cJ8 aB aZ rfl rfl rfl rfl rfl rfl rfl rfl rfl hd hwl (show (!decide (d=(b.drop (j+nn)).take 32))=false from by rw [decide_eq_true heq];first|done|rfl)) ?_))))|refine gL ?_|refine stA ?_|refine stD ?_|refine stE ?_|(refine aF hK hX ?_;clear hK hX K)|fail)
 exact xW
end Go.Proofs.YtbgehdndimlgkaaGreat
