/- Lemmas for laws of the ledger. -/
import Derived.Test.YtbgehdndimlgkaaGreatV19
set_option linter.all false
set_option maxHeartbeats 16000000
namespace Go.Proofs.YtbgehdndimlgkaaGreat
open Go Go.RowKit Go.Av
set_option maxRecDepth 100000
section
variable {P:Di} {sz n i n0 m:Nat} {env env0:Env} {h h0:aL} {dfs:bM} {K:AK} {l rest:Dc} {T ty:Dh} {x:Operand} {pos:String} {aft:Df} {gd:Da} {d:Dg}
theorem bU2 (hh:Drw P l sz K dfs i n0 env0 h0 m (⟨d,.sliceToArrayPointer T x,ty,pos,aft,gd⟩::rest) n env h):Drw P l sz K dfs i n0 env0 h0 m (⟨d,.sliceToArrayPointer T x,ty,pos,aft,gd⟩::rest) n env h:=hh
end
noncomputable def kdL (ch b:CZ):CZ:=sum 330#64 (ch++b)
attribute [local irreducible] Still Adds AWL AW Drw bN bP AC AWR cM Frz Go.Av.Src dB Out InK ItK AsK RdK eA dZ ACT ACA eL bC3 kdL
attribute [local simp] bL bK bZ
section
variable (b:CZ) (m h:Nat) (hm:b.length=m) (hb:m<=100000000) (hh:min m 10=h) (ch:CZ) (hch:ch.length=32)
include b m h hm hb hh ch hch
theorem dQ8 (e':Int) (he:e'≠0) (hri:qC' 120 [.sl 1 h (u8c (b.take h))] (.tup [.c (iv 0),.c (.v (.slice none 0 0)),.c (iv e')]) [] 0):qC' 61 [.sl 1 m (u8c b),.agg (u8c ch)] (.tup [.c (.agg (ecs en0 0 0)),.c (.agg (u8c root0)),.c (iv 0),.c (bv false)]) [] 0:=by
 have hX:(if 10<(m:Int) then 10 else (m:Int)).toNat-0=h:=by split<;>omega
 have hY:List.take (h*1) (List.drop (0*1) (u8c b))=u8c (b.take h):=by simp
 rw [<- hY,<- hX] at hri
 dsimp only [ecs,en0,lk0,hd0,mE,rq0,Vl.nul] at *
 refine jD aB (sz:=91) Tryz.func61 rfl vO ?_
 repeat' (first|(refine aC ?_;intro K hK hX)|refine bM3 ?_|(refine aH hK hX ?_;clear hK hX K)|fail)
 exact vQ
theorem dQ9 (n:Int) (hn64:aS n) (rb:CZ) (q:Nat) (hrb:rb.length=q) (j:Nat) (hj:h-q=j) (hqh:q<=h) (hri:qC' 120 [.sl 1 h (u8c (b.take h))] (.tup [.c (iv n),.c (.sl 1 q (u8c rb)),.c (iv 0)]) [] 0) (h1:n<0):qC' 61 [.sl 1 m (u8c b),.agg (u8c ch)] (.tup [.c (.agg (ecs en0 0 0)),.c (.agg (u8c root0)),.c (iv 0),.c (bv false)]) [] 0:=by
 have hX:(if 10<(m:Int) then 10 else (m:Int)).toNat-0=h:=by split<;>omega
 have hY:List.take (h*1) (List.drop (0*1) (u8c b))=u8c (b.take h):=by simp
 rw [<- hY,<- hX] at hri
 dsimp only [ecs,en0,lk0,hd0,mE,rq0,Vl.nul] at *
 refine jD aB (sz:=91) Tryz.func61 rfl vO ?_
 repeat' (first|(refine aC ?_;intro K hK hX)|refine bM3 ?_|(refine aH hK hX ?_;clear hK hX K)|fail)
 exact vQ
theorem dR0 (n:Int) (hn64:aS n) (rb:CZ) (q:Nat) (hrb:rb.length=q) (j:Nat) (hj:h-q=j) (hqh:q<=h) (hri:qC' 120 [.sl 1 h (u8c (b.take h))] (.tup [.c (iv n),.c (.sl 1 q (u8c rb)),.c (iv 0)]) [] 0) (h1:0<=n) (h2:(m:Int)<(h:Int)-q+n+32):qC' 61 [.sl 1 m (u8c b),.agg (u8c ch)] (.tup [.c (.agg (ecs en0 0 0)),.c (.agg (u8c root0)),.c (iv 0),.c (bv false)]) [] 0:=by
 have hX:(if 10<(m:Int) then 10 else (m:Int)).toNat-0=h:=by split<;>omega
 have hY:List.take (h*1) (List.drop (0*1) (u8c b))=u8c (b.take h):=by simp
 rw [<- hY,<- hX] at hri
 dsimp only [ecs,en0,lk0,hd0,mE,rq0,Vl.nul] at *
 refine jD aB (sz:=91) Tryz.func61 rfl vO ?_
 repeat' (first|(refine aC ?_;intro K hK hX)|refine bM3 ?_|(refine aH hK hX ?_;clear hK hX K)|fail)
 exact vQ
theorem dR1 (n:Int) (hn64:aS n) (rb:CZ) (q:Nat) (hrb:rb.length=q) (j:Nat) (hj:h-q=j) (hqh:q<=h) (hri:qC' 120 [.sl 1 h (u8c (b.take h))] (.tup [.c (iv n),.c (.sl 1 q (u8c rb)),.c (iv 0)]) [] 0) (nn:Nat) (hnn:n=nn) (h2:j+nn+32<=m) (e2:Int) (he2:e2≠0) (hre:qC' 77 [.sl 1 nn (u8c ((b.drop j).take nn))] (.tup [.c (.agg (ecs en0 0 0)),.c (.v (.slice none 0 0)),.c (iv e2)]) [] 0)  : qC' 61 [.sl 1 m (u8c b),.agg (u8c ch)] (.tup [.c (.agg (ecs en0 0 0)),.c (.agg (u8c root0)),.c (iv 0),.c (bv false)]) [] 0:=by
 have hX:(if 10<(m:Int) then 10 else (m:Int)).toNat-0=h:=by split<;>omega
 have hY:List.take (h*1) (List.drop (0*1) (u8c b))=u8c (b.take h):=by simp
 rw [<- hY,<- hX] at hri
 have hS:((((if 10<(m:Int) then 10 else (m:Int)).toNat-0:Nat):Int)-(q:Int)+n).toNat-((if 10<(m:Int) then 10 else (m:Int)).toNat-0-q)=nn:=by rw [hX];omega
 have hZ:List.take (nn*1) (List.drop (((if 10<(m:Int) then 10 else (m:Int)).toNat-0-q)*1) (u8c b))=u8c ((b.drop j).take nn):=by rw [hX,hj];simp
 rw [<- hZ,<- hS] at hre
 dsimp only [ecs,en0,lk0,hd0,mE,rq0,Vl.nul] at *
 refine jD aB (sz:=91) Tryz.func61 rfl vO ?_
 repeat' (first|(refine aC ?_;intro K hK hX)|refine cR5 ?_|(refine aH hK hX ?_;clear hK hX K)|fail)
 exact vQ
theorem dR2 (n:Int) (hn64:aS n) (rb:CZ) (q:Nat) (hrb:rb.length=q) (j:Nat) (hj:h-q=j) (hqh:q<=h) (hri:qC' 120 [.sl 1 h (u8c (b.take h))] (.tup [.c (iv n),.c (.sl 1 q (u8c rb)),.c (iv 0)]) [] 0) (nn:Nat) (hnn:n=nn) (h2:j+nn+32<=m) (cs:Dp) (hcs:cs.length=65) (p:Nat) (hp:0<p) (rc:Dp) (hre:qC' 77 [.sl 1 nn (u8c ((b.drop j).take nn))] (.tup [.c (.agg cs),.c (.sl 1 p rc),.c (iv 0)]) [] 0)  : qC' 61 [.sl 1 m (u8c b),.agg (u8c ch)] (.tup [.c (.agg (ecs en0 0 0)),.c (.agg (u8c root0)),.c (iv 0),.c (bv false)]) [] 0:=by
 have hX:(if 10<(m:Int) then 10 else (m:Int)).toNat-0=h:=by split<;>omega
 have hY:List.take (h*1) (List.drop (0*1) (u8c b))=u8c (b.take h):=by simp
 rw [<- hY,<- hX] at hri
 have hS:((((if 10<(m:Int) then 10 else (m:Int)).toNat-0:Nat):Int)-(q:Int)+n).toNat-((if 10<(m:Int) then 10 else (m:Int)).toNat-0-q)=nn:=by rw [hX];omega
 have hZ:List.take (nn*1) (List.drop (((if 10<(m:Int) then 10 else (m:Int)).toNat-0-q)*1) (u8c b))=u8c ((b.drop j).take nn):=by rw [hX,hj];simp
 rw [<- hZ,<- hS] at hre
 dsimp only [ecs,en0,lk0,hd0,mE,rq0,Vl.nul] at *
 refine jD aB (sz:=91) Tryz.func61 rfl vO ?_
 repeat' (first|(refine aC ?_;intro K hK hX)|refine cR5 ?_|(refine aH hK hX ?_;clear hK hX K)|fail)
 exact vQ
theorem dR3 (n:Int) (hn64:aS n) (rb:CZ) (q:Nat) (hrb:rb.length=q) (j:Nat) (hj:h-q=j) (hqh:q<=h) (hri:qC' 120 [.sl 1 h (u8c (b.take h))] (.tup [.c (iv n),.c (.sl 1 q (u8c rb)),.c (iv 0)]) [] 0) (nn:Nat) (hnn:n=nn) (h2:j+nn+32<=m) (cs:Dp) (hcs:cs.length=65) (rc:Dp) (hre:qC' 77 [.sl 1 nn (u8c ((b.drop j).take nn))] (.tup [.c (.agg cs),.c (.sl 1 0 rc),.c (iv 0)]) [] 0) (d:CZ) (hd:d.length=32) (hky:qC' 78 [wv 330#64,.agg (u8c ch),.sl 1 nn (u8c ((b.drop j).take nn))] (.c (.agg (u8c d))) [] 0) (hne:¬d=(b.drop (j+nn)).take 32):qC' 61 [.sl 1 m (u8c b),.agg (u8c ch)] (.tup [.c (.agg (ecs en0 0 0)),.c (.agg (u8c root0)),.c (iv 0),.c (bv false)]) [] 0:=by
 have hX:(if 10<(m:Int) then 10 else (m:Int)).toNat-0=h:=by split<;>omega
 have hY:List.take (h*1) (List.drop (0*1) (u8c b))=u8c (b.take h):=by simp
 rw [<- hY,<- hX] at hri
 have hS:((((if 10<(m:Int) then 10 else (m:Int)).toNat-0:Nat):Int)-(q:Int)+n).toNat-((if 10<(m:Int) then 10 else (m:Int)).toNat-0-q)=nn:=by rw [hX];omega
 have hZ:List.take (nn*1) (List.drop (((if 10<(m:Int) then 10 else (m:Int)).toNat-0-q)*1) (u8c b))=u8c ((b.drop j).take nn):=by rw [hX,hj];simp
 rw [<- hZ,<- hS] at hre
 rw [<- hZ,<- hS] at hky
 have hcl:(u8c ch).length=32:=by rw [aI,hch]
 have hwl:((b.drop (j+nn)).take 32).length=32:=by rw [A1,AG];omega
 have hdl:(u8c d).length=32:=by rw [aI,hd]
 have hW:List.take 32 (List.drop 0 (List.take (((((((if 10<(m:Int) then 10 else (m:Int)).toNat-0:Nat):Int)-(q:Int)+n+32).toNat-((((if 10<(m:Int) then 10 else (m:Int)).toNat-0:Nat):Int)-(q:Int)+n).toNat))*1) (List.drop (((((if 10<(m:Int) then 10 else (m:Int)).toNat-0:Nat):Int)-(q:Int)+n).toNat*1) (u8c b))))=u8c ((b.drop (j+nn)).take 32):=by
  rw [hX,show ((h:Int)-(q:Int)+n+32).toNat-((h:Int)-(q:Int)+n).toNat=32 from by omega,show ((h:Int)-(q:Int)+n).toNat=j+nn from by omega]
  simp only [Bg,A4,bL,bK]
  rw [Ck,Nat.min_self]
 have hul:(u8c ((b.drop (j+nn)).take 32)).length=32:=by rw [aI];exact hwl
 dsimp only [ecs,en0,lk0,hd0,mE,rq0,Vl.nul] at *
 refine jD aB (sz:=91) Tryz.func61 rfl vO ?_
 repeat' (first|(refine aC ?_;intro K hK hX)|refine bS [0,1,3,4,5,6,7,8,9,10,11,12,13,14,15,16,17] ?_|((with_reducible refine bA ?_);refine yA ?_;refine bG (aW (T:=49) aB rfl rfl rfl) rfl ?_)|((with_reducible refine bU2 ?_);refine xD ?_;refine aG (cY2 aB rfl rfl rfl aA aA) ?_)|(refine dJ ?_;first|refine c0 hri ?_|refine c0 hre ?_|refine c0 hky ?_)|((first|((with_reducible refine cG ?_);refine xA ?_)|((with_reducible refine eD ?_);refine xD ?_));(first|((with_reducible refine bU ?_);(first|refine aG (bZ5 aB aT rfl rfl rfl rfl rfl rfl rfl rfl rfl hd hwl (show (!decide (d=(b.drop (j+nn)).take 32))=true from by rw [Be hne];first|done|rfl)) ?_))))|refine jL ?_|refine stA ?_|refine stD ?_|(refine aH hK hX ?_;clear hK hX K)|fail)
 exact vQ
theorem dR4 (n:Int) (hn64:aS n) (rb:CZ) (q:Nat) (hrb:rb.length=q) (j:Nat) (hj:h-q=j) (hqh:q<=h) (hri:qC' 120 [.sl 1 h (u8c (b.take h))] (.tup [.c (iv n),.c (.sl 1 q (u8c rb)),.c (iv 0)]) [] 0) (nn:Nat) (hnn:n=nn) (h2:j+nn+32<=m) (cs:Dp) (hcs:cs.length=65) (rc:Dp) (hre:qC' 77 [.sl 1 nn (u8c ((b.drop j).take nn))] (.tup [.c (.agg cs),.c (.sl 1 0 rc),.c (iv 0)]) [] 0) (d:CZ) (hd:d.length=32) (hky:qC' 78 [wv 330#64,.agg (u8c ch),.sl 1 nn (u8c ((b.drop j).take nn))] (.c (.agg (u8c d))) [] 0) (k:Nat) (hk:j+nn+32=k) (heq:d=(b.drop (j+nn)).take 32):qC' 61 [.sl 1 m (u8c b),.agg (u8c ch)] (.tup [.c (.agg cs),.c (.agg (u8c d)),.c (iv k),.c (bv true)]) [] 0:=by
 have hX:(if 10<(m:Int) then 10 else (m:Int)).toNat-0=h:=by split<;>omega
 have hY:List.take (h*1) (List.drop (0*1) (u8c b))=u8c (b.take h):=by simp
 rw [<- hY,<- hX] at hri
 have hS:((((if 10<(m:Int) then 10 else (m:Int)).toNat-0:Nat):Int)-(q:Int)+n).toNat-((if 10<(m:Int) then 10 else (m:Int)).toNat-0-q)=nn:=by rw [hX];omega
 have hZ:List.take (nn*1) (List.drop (((if 10<(m:Int) then 10 else (m:Int)).toNat-0-q)*1) (u8c b))=u8c ((b.drop j).take nn):=by rw [hX,hj];simp
 rw [<- hZ,<- hS] at hre
 rw [<- hZ,<- hS] at hky
 have hcl:(u8c ch).length=32:=by rw [aI,hch]
 have hwl:((b.drop (j+nn)).take 32).length=32:=by rw [A1,AG];omega
 have hdl:(u8c d).length=32:=by rw [aI,hd]
 have hW:List.take 32 (List.drop 0 (List.take (((((((if 10<(m:Int) then 10 else (m:Int)).toNat-0:Nat):Int)-(q:Int)+n+32).toNat-((((if 10<(m:Int) then 10 else (m:Int)).toNat-0:Nat):Int)-(q:Int)+n).toNat))*1) (List.drop (((((if 10<(m:Int) then 10 else (m:Int)).toNat-0:Nat):Int)-(q:Int)+n).toNat*1) (u8c b))))=u8c ((b.drop (j+nn)).take 32):=by
  rw [hX,show ((h:Int)-(q:Int)+n+32).toNat-((h:Int)-(q:Int)+n).toNat=32 from by omega,show ((h:Int)-(q:Int)+n).toNat=j+nn from by omega]
  simp only [Bg,A4,bL,bK]
  rw [Ck,Nat.min_self]
 have hul:(u8c ((b.drop (j+nn)).take 32)).length=32:=by rw [aI];exact hwl
 refine jD aB (sz:=91) Tryz.func61 rfl vO ?_
 repeat' (first|(refine aC ?_;intro K hK hX)|refine aM [0,1,3,4,5,6,7,8,9,10,11,12,13,14,15,16,17] ?_|((with_reducible refine bC (i:=16) ?_);refine aY [0,1,3,4,5,6,7,8,9,10,11,12,13,14,15,16,17] rfl rfl ?_;refine dI [] ?_)|((with_reducible refine bC ?_);refine aY [0,1,3,4,5,6,7,8,9,10,11,12,13,14,15,16,17] rfl rfl ?_;refine dG [] ?_)|((with_reducible refine bA ?_);refine yA ?_;refine bG (aW (T:=49) aB rfl rfl rfl) rfl ?_)|((with_reducible refine bU2 ?_);refine xD ?_;refine aG (cY2 aB rfl rfl rfl aA aA) ?_)|(refine eW ?_;first|refine c0 hri ?_|refine c0 hre ?_|refine c0 hky ?_)|((first|((with_reducible refine cG ?_);refine xA ?_)|((with_reducible refine eD ?_);refine xD ?_)|((with_reducible refine kW ?_);refine xE ?_));(first|((with_reducible refine bU ?_);(first|refine aG (bZ5 aB aT rfl rfl rfl rfl rfl rfl rfl rfl rfl hd hwl (show (!decide (d=(b.drop (j+nn)).take 32))=false from by rw [AU heq];first|done|rfl)) ?_))))|refine gH ?_|refine stA ?_|refine stD ?_|refine stE ?_|(refine aH hK hX ?_;clear hK hX K)|fail)
 exact vQ
end
end Go.Proofs.YtbgehdndimlgkaaGreat
