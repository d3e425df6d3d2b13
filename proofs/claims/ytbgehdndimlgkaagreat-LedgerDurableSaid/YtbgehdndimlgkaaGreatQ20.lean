/-
  Lemmas for laws of the ledger; no statement of a law.
-/
import Derived.Test.YtbgehdndimlgkaaGreatQ19
set_option maxHeartbeats 16000000
set_option linter.unusedSimpArgs false
set_option linter.unusedVariables false
namespace Go.Proofs.YtbgehdndimlgkaaGreat
open Go Go.RowKit Go.Av
set_option maxRecDepth 100000
section
variable {P:Program} {sz n i n0 m:Nat} {env env0:Env} {h h0:aO} {dfs:bZ} {K:AK} {l rest:List Oper} {T ty:TypeId} {x:Operand} {pos:String} {aft:Array Edge} {gd:Option (Nat × Bool)} {d:Option Tmp}
theorem cG5 (hh:Drw P l sz K dfs i n0 env0 h0 m (⟨d,.sliceToArrayPointer T x,ty,pos,aft,gd⟩::rest) n env h):Drw P l sz K dfs i n0 env0 h0 m (⟨d,.sliceToArrayPointer T x,ty,pos,aft,gd⟩::rest) n env h:=hh
end
noncomputable def kdL (ch b:List UInt8):List UInt8:=sum 330#64 (ch++b)
attribute [local irreducible] Still Adds AWL AW Drw bT bW AC AWR cL Frz Go.Av.Src dC Out InK ItK AsK RdK eI eE ACT ACA eL aL6 kdL
attribute [local simp] bQ bL bD
theorem eG4 (b:List UInt8) (m h:Nat) (hm:b.length=m) (hb:m≤100000000) (hh:min m 10=h) (ch:List UInt8) (hch:ch.length=32) (e':Int) (he:e'≠0) (hri:AC Tryz.prog 120 [.sl 1 h (u8c (b.take h))] (.tup [.c (iv 0),.c (.v (.slice none 0 0)),.c (iv e')]) [] 0):AC Tryz.prog 61 [.sl 1 m (u8c b),.agg (u8c ch)] (.tup [.c (.agg (ecs en0 0 0)),.c (.agg (u8c root0)),.c (iv 0),.c (bv false)]) [] 0:=by
 have hX:(if 10<(m:Int) then 10 else (m:Int)).toNat-0=h:=by split<;>omega
 have hY:List.take (h*1) (List.drop (0*1) (u8c b))=u8c (b.take h):=by simp
 rw [← hY,← hX] at hri
 dsimp only [ecs,en0,lk0,hd0,iI,rq0,Vl.nul] at *
 refine kD aB (sz:=91) Tryz.func61 rfl rX ?_
 repeat' (first|(refine aC ?_;intro K hK hX)|refine bX3 ?_|(refine aH hK hX ?_;clear hK hX K)|fail)
 exact xZ
theorem eG5 (b:List UInt8) (m h:Nat) (hm:b.length=m) (hb:m≤100000000) (hh:min m 10=h) (ch:List UInt8) (hch:ch.length=32) (n:Int) (hn64:aQ n) (rb:List UInt8) (q:Nat) (hrb:rb.length=q) (j:Nat) (hj:h-q=j) (hqh:q≤h) (hri:AC Tryz.prog 120 [.sl 1 h (u8c (b.take h))] (.tup [.c (iv n),.c (.sl 1 q (u8c rb)),.c (iv 0)]) [] 0) (h1:n<0):AC Tryz.prog 61 [.sl 1 m (u8c b),.agg (u8c ch)] (.tup [.c (.agg (ecs en0 0 0)),.c (.agg (u8c root0)),.c (iv 0),.c (bv false)]) [] 0:=by
 have hX:(if 10<(m:Int) then 10 else (m:Int)).toNat-0=h:=by split<;>omega
 have hY:List.take (h*1) (List.drop (0*1) (u8c b))=u8c (b.take h):=by simp
 rw [← hY,← hX] at hri
 dsimp only [ecs,en0,lk0,hd0,iI,rq0,Vl.nul] at *
 refine kD aB (sz:=91) Tryz.func61 rfl rX ?_
 repeat' (first|(refine aC ?_;intro K hK hX)|refine bX3 ?_|(refine aH hK hX ?_;clear hK hX K)|fail)
 exact xZ
theorem eG6 (b:List UInt8) (m h:Nat) (hm:b.length=m) (hb:m≤100000000) (hh:min m 10=h) (ch:List UInt8) (hch:ch.length=32) (n:Int) (hn64:aQ n) (rb:List UInt8) (q:Nat) (hrb:rb.length=q) (j:Nat) (hj:h-q=j) (hqh:q≤h) (hri:AC Tryz.prog 120 [.sl 1 h (u8c (b.take h))] (.tup [.c (iv n),.c (.sl 1 q (u8c rb)),.c (iv 0)]) [] 0) (h1:0≤n) (h2:(m:Int)<(h:Int)-q+n+32):AC Tryz.prog 61 [.sl 1 m (u8c b),.agg (u8c ch)] (.tup [.c (.agg (ecs en0 0 0)),.c (.agg (u8c root0)),.c (iv 0),.c (bv false)]) [] 0:=by
 have hX:(if 10<(m:Int) then 10 else (m:Int)).toNat-0=h:=by split<;>omega
 have hY:List.take (h*1) (List.drop (0*1) (u8c b))=u8c (b.take h):=by simp
 rw [← hY,← hX] at hri
 dsimp only [ecs,en0,lk0,hd0,iI,rq0,Vl.nul] at *
 refine kD aB (sz:=91) Tryz.func61 rfl rX ?_
 repeat' (first|(refine aC ?_;intro K hK hX)|refine bX3 ?_|(refine aH hK hX ?_;clear hK hX K)|fail)
 exact xZ
theorem eG7 (b:List UInt8) (m h:Nat) (hm:b.length=m) (hb:m≤100000000) (hh:min m 10=h) (ch:List UInt8) (hch:ch.length=32) (n:Int) (hn64:aQ n) (rb:List UInt8) (q:Nat) (hrb:rb.length=q) (j:Nat) (hj:h-q=j) (hqh:q≤h) (hri:AC Tryz.prog 120 [.sl 1 h (u8c (b.take h))] (.tup [.c (iv n),.c (.sl 1 q (u8c rb)),.c (iv 0)]) [] 0) (nn:Nat) (hnn:n=nn) (h2:j+nn+32≤m) (e2:Int) (he2:e2≠0) (hre:AC Tryz.prog 77 [.sl 1 nn (u8c ((b.drop j).take nn))] (.tup [.c (.agg (ecs en0 0 0)),.c (.v (.slice none 0 0)),.c (iv e2)]) [] 0)  : AC Tryz.prog 61 [.sl 1 m (u8c b),.agg (u8c ch)] (.tup [.c (.agg (ecs en0 0 0)),.c (.agg (u8c root0)),.c (iv 0),.c (bv false)]) [] 0:=by
 have hX:(if 10<(m:Int) then 10 else (m:Int)).toNat-0=h:=by split<;>omega
 have hY:List.take (h*1) (List.drop (0*1) (u8c b))=u8c (b.take h):=by simp
 rw [← hY,← hX] at hri
 have hS:((((if 10<(m:Int) then 10 else (m:Int)).toNat-0:Nat):Int)-(q:Int)+n).toNat-((if 10<(m:Int) then 10 else (m:Int)).toNat-0-q)=nn:=by rw [hX];omega
 have hZ:List.take (nn*1) (List.drop (((if 10<(m:Int) then 10 else (m:Int)).toNat-0-q)*1) (u8c b))=u8c ((b.drop j).take nn):=by rw [hX,hj];simp
 rw [← hZ,← hS] at hre
 dsimp only [ecs,en0,lk0,hd0,iI,rq0,Vl.nul] at *
 refine kD aB (sz:=91) Tryz.func61 rfl rX ?_
 repeat' (first|(refine aC ?_;intro K hK hX)|refine dF0 ?_|(refine aH hK hX ?_;clear hK hX K)|fail)
 exact xZ
theorem eG8 (b:List UInt8) (m h:Nat) (hm:b.length=m) (hb:m≤100000000) (hh:min m 10=h) (ch:List UInt8) (hch:ch.length=32) (n:Int) (hn64:aQ n) (rb:List UInt8) (q:Nat) (hrb:rb.length=q) (j:Nat) (hj:h-q=j) (hqh:q≤h) (hri:AC Tryz.prog 120 [.sl 1 h (u8c (b.take h))] (.tup [.c (iv n),.c (.sl 1 q (u8c rb)),.c (iv 0)]) [] 0) (nn:Nat) (hnn:n=nn) (h2:j+nn+32≤m) (cs:List CV) (hcs:cs.length=65) (p:Nat) (hp:0<p) (rc:List CV) (hre:AC Tryz.prog 77 [.sl 1 nn (u8c ((b.drop j).take nn))] (.tup [.c (.agg cs),.c (.sl 1 p rc),.c (iv 0)]) [] 0)  : AC Tryz.prog 61 [.sl 1 m (u8c b),.agg (u8c ch)] (.tup [.c (.agg (ecs en0 0 0)),.c (.agg (u8c root0)),.c (iv 0),.c (bv false)]) [] 0:=by
 have hX:(if 10<(m:Int) then 10 else (m:Int)).toNat-0=h:=by split<;>omega
 have hY:List.take (h*1) (List.drop (0*1) (u8c b))=u8c (b.take h):=by simp
 rw [← hY,← hX] at hri
 have hS:((((if 10<(m:Int) then 10 else (m:Int)).toNat-0:Nat):Int)-(q:Int)+n).toNat-((if 10<(m:Int) then 10 else (m:Int)).toNat-0-q)=nn:=by rw [hX];omega
 have hZ:List.take (nn*1) (List.drop (((if 10<(m:Int) then 10 else (m:Int)).toNat-0-q)*1) (u8c b))=u8c ((b.drop j).take nn):=by rw [hX,hj];simp
 rw [← hZ,← hS] at hre
 dsimp only [ecs,en0,lk0,hd0,iI,rq0,Vl.nul] at *
 refine kD aB (sz:=91) Tryz.func61 rfl rX ?_
 repeat' (first|(refine aC ?_;intro K hK hX)|refine dF0 ?_|(refine aH hK hX ?_;clear hK hX K)|fail)
 exact xZ
theorem eG9 (b:List UInt8) (m h:Nat) (hm:b.length=m) (hb:m≤100000000) (hh:min m 10=h) (ch:List UInt8) (hch:ch.length=32) (n:Int) (hn64:aQ n) (rb:List UInt8) (q:Nat) (hrb:rb.length=q) (j:Nat) (hj:h-q=j) (hqh:q≤h) (hri:AC Tryz.prog 120 [.sl 1 h (u8c (b.take h))] (.tup [.c (iv n),.c (.sl 1 q (u8c rb)),.c (iv 0)]) [] 0) (nn:Nat) (hnn:n=nn) (h2:j+nn+32≤m) (cs:List CV) (hcs:cs.length=65) (rc:List CV) (hre:AC Tryz.prog 77 [.sl 1 nn (u8c ((b.drop j).take nn))] (.tup [.c (.agg cs),.c (.sl 1 0 rc),.c (iv 0)]) [] 0) (d:List UInt8) (hd:d.length=32) (hky:AC Tryz.prog 78 [wv 330#64,.agg (u8c ch),.sl 1 nn (u8c ((b.drop j).take nn))] (.c (.agg (u8c d))) [] 0) (hne:¬d=(b.drop (j+nn)).take 32):AC Tryz.prog 61 [.sl 1 m (u8c b),.agg (u8c ch)] (.tup [.c (.agg (ecs en0 0 0)),.c (.agg (u8c root0)),.c (iv 0),.c (bv false)]) [] 0:=by
 have hX:(if 10<(m:Int) then 10 else (m:Int)).toNat-0=h:=by split<;>omega
 have hY:List.take (h*1) (List.drop (0*1) (u8c b))=u8c (b.take h):=by simp
 rw [← hY,← hX] at hri
 have hS:((((if 10<(m:Int) then 10 else (m:Int)).toNat-0:Nat):Int)-(q:Int)+n).toNat-((if 10<(m:Int) then 10 else (m:Int)).toNat-0-q)=nn:=by rw [hX];omega
 have hZ:List.take (nn*1) (List.drop (((if 10<(m:Int) then 10 else (m:Int)).toNat-0-q)*1) (u8c b))=u8c ((b.drop j).take nn):=by rw [hX,hj];simp
 rw [← hZ,← hS] at hre
 rw [← hZ,← hS] at hky
 have hcl:(u8c ch).length=32:=by rw [aG,hch]
 have hwl:((b.drop (j+nn)).take 32).length=32:=by rw [List.length_take,List.length_drop];omega
 have hdl:(u8c d).length=32:=by rw [aG,hd]
 have hW:List.take 32 (List.drop 0 (List.take (((((((if 10<(m:Int) then 10 else (m:Int)).toNat-0:Nat):Int)-(q:Int)+n+32).toNat-((((if 10<(m:Int) then 10 else (m:Int)).toNat-0:Nat):Int)-(q:Int)+n).toNat))*1) (List.drop (((((if 10<(m:Int) then 10 else (m:Int)).toNat-0:Nat):Int)-(q:Int)+n).toNat*1) (u8c b))))=u8c ((b.drop (j+nn)).take 32):=by
  rw [hX,show ((h:Int)-(q:Int)+n+32).toNat-((h:Int)-(q:Int)+n).toNat=32 from by omega,show ((h:Int)-(q:Int)+n).toNat=j+nn from by omega]
  simp only [List.drop_zero,Nat.mul_one,bQ,bL]
  rw [List.take_take,Nat.min_self]
 have hul:(u8c ((b.drop (j+nn)).take 32)).length=32:=by rw [aG];exact hwl
 dsimp only [ecs,en0,lk0,hd0,iI,rq0,Vl.nul] at *
 refine kD aB (sz:=91) Tryz.func61 rfl rX ?_
 repeat' (first|(refine aC ?_;intro K hK hX)|refine bU [0,1,3,4,5,6,7,8,9,10,11,12,13,14,15,16,17] ?_|((with_reducible refine aX ?_);refine yA ?_;refine bH (aU (T:=49) aB rfl rfl rfl) rfl ?_)|((with_reducible refine cG5 ?_);refine xD ?_;refine aJ (dN0 aB rfl rfl rfl aA aA) ?_)|(refine dB ?_;first|refine c0 hri ?_|refine c0 hre ?_|refine c0 hky ?_)|((first|((with_reducible refine bP ?_);refine xA ?_)|((with_reducible refine dX ?_);refine xD ?_));(first|((with_reducible refine bS ?_);(first|refine aJ (cM9 aB aW rfl rfl rfl rfl rfl rfl rfl rfl rfl hd hwl (show (!decide (d=(b.drop (j+nn)).take 32))=true from by rw [decide_eq_false hne];first|done|rfl)) ?_))))|refine jN ?_|refine stA ?_|refine stD ?_|(refine aH hK hX ?_;clear hK hX K)|fail)
 exact xZ
theorem eH0 (b:List UInt8) (m h:Nat) (hm:b.length=m) (hb:m≤100000000) (hh:min m 10=h) (ch:List UInt8) (hch:ch.length=32) (n:Int) (hn64:aQ n) (rb:List UInt8) (q:Nat) (hrb:rb.length=q) (j:Nat) (hj:h-q=j) (hqh:q≤h) (hri:AC Tryz.prog 120 [.sl 1 h (u8c (b.take h))] (.tup [.c (iv n),.c (.sl 1 q (u8c rb)),.c (iv 0)]) [] 0) (nn:Nat) (hnn:n=nn) (h2:j+nn+32≤m) (cs:List CV) (hcs:cs.length=65) (rc:List CV) (hre:AC Tryz.prog 77 [.sl 1 nn (u8c ((b.drop j).take nn))] (.tup [.c (.agg cs),.c (.sl 1 0 rc),.c (iv 0)]) [] 0) (d:List UInt8) (hd:d.length=32) (hky:AC Tryz.prog 78 [wv 330#64,.agg (u8c ch),.sl 1 nn (u8c ((b.drop j).take nn))] (.c (.agg (u8c d))) [] 0) (k:Nat) (hk:j+nn+32=k) (heq:d=(b.drop (j+nn)).take 32):AC Tryz.prog 61 [.sl 1 m (u8c b),.agg (u8c ch)] (.tup [.c (.agg cs),.c (.agg (u8c d)),.c (iv k),.c (bv true)]) [] 0:=by
 have hX:(if 10<(m:Int) then 10 else (m:Int)).toNat-0=h:=by split<;>omega
 have hY:List.take (h*1) (List.drop (0*1) (u8c b))=u8c (b.take h):=by simp
 rw [← hY,← hX] at hri
 have hS:((((if 10<(m:Int) then 10 else (m:Int)).toNat-0:Nat):Int)-(q:Int)+n).toNat-((if 10<(m:Int) then 10 else (m:Int)).toNat-0-q)=nn:=by rw [hX];omega
 have hZ:List.take (nn*1) (List.drop (((if 10<(m:Int) then 10 else (m:Int)).toNat-0-q)*1) (u8c b))=u8c ((b.drop j).take nn):=by rw [hX,hj];simp
 rw [← hZ,← hS] at hre
 rw [← hZ,← hS] at hky
 have hcl:(u8c ch).length=32:=by rw [aG,hch]
 have hwl:((b.drop (j+nn)).take 32).length=32:=by rw [List.length_take,List.length_drop];omega
 have hdl:(u8c d).length=32:=by rw [aG,hd]
 have hW:List.take 32 (List.drop 0 (List.take (((((((if 10<(m:Int) then 10 else (m:Int)).toNat-0:Nat):Int)-(q:Int)+n+32).toNat-((((if 10<(m:Int) then 10 else (m:Int)).toNat-0:Nat):Int)-(q:Int)+n).toNat))*1) (List.drop (((((if 10<(m:Int) then 10 else (m:Int)).toNat-0:Nat):Int)-(q:Int)+n).toNat*1) (u8c b))))=u8c ((b.drop (j+nn)).take 32):=by
  rw [hX,show ((h:Int)-(q:Int)+n+32).toNat-((h:Int)-(q:Int)+n).toNat=32 from by omega,show ((h:Int)-(q:Int)+n).toNat=j+nn from by omega]
  simp only [List.drop_zero,Nat.mul_one,bQ,bL]
  rw [List.take_take,Nat.min_self]
 have hul:(u8c ((b.drop (j+nn)).take 32)).length=32:=by rw [aG];exact hwl
 refine kD aB (sz:=91) Tryz.func61 rfl rX ?_
 repeat' (first|(refine aC ?_;intro K hK hX)|refine aL [0,1,3,4,5,6,7,8,9,10,11,12,13,14,15,16,17] ?_|((with_reducible refine bC (i:=16) ?_);refine bA [0,1,3,4,5,6,7,8,9,10,11,12,13,14,15,16,17] rfl rfl ?_;refine dK [] ?_)|((with_reducible refine bC ?_);refine bA [0,1,3,4,5,6,7,8,9,10,11,12,13,14,15,16,17] rfl rfl ?_;refine dF [] ?_)|((with_reducible refine aX ?_);refine yA ?_;refine bH (aU (T:=49) aB rfl rfl rfl) rfl ?_)|((with_reducible refine cG5 ?_);refine xD ?_;refine aJ (dN0 aB rfl rfl rfl aA aA) ?_)|(refine eV ?_;first|refine c0 hri ?_|refine c0 hre ?_|refine c0 hky ?_)|((first|((with_reducible refine bP ?_);refine xA ?_)|((with_reducible refine dX ?_);refine xD ?_)|((with_reducible refine mA ?_);refine xE ?_));(first|((with_reducible refine bS ?_);(first|refine aJ (cM9 aB aW rfl rfl rfl rfl rfl rfl rfl rfl rfl hd hwl (show (!decide (d=(b.drop (j+nn)).take 32))=false from by rw [decide_eq_true heq];first|done|rfl)) ?_))))|refine gL ?_|refine stA ?_|refine stD ?_|refine stE ?_|(refine aH hK hX ?_;clear hK hX K)|fail)
 exact xZ
end Go.Proofs.YtbgehdndimlgkaaGreat
