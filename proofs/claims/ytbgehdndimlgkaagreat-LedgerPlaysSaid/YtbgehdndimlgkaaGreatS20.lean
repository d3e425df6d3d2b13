/- Lemmas for laws of the ledger. -/
import Derived.Test.YtbgehdndimlgkaaGreatS19
set_option linter.all false
set_option maxHeartbeats 16000000
namespace Go.Proofs.YtbgehdndimlgkaaGreat
open Go Go.RowKit Go.Av
set_option maxRecDepth 100000
section
variable {P:Dv} {sz n i n0 m:Nat} {env env0:Env} {h h0:aO} {dfs:cD} {K:AK} {l rest:Dp} {T ty:Du} {x:Operand} {pos:String} {aft:Ds} {gd:Dn} {d:Dt}
theorem cM9 (hh:Drw P l sz K dfs i n0 env0 h0 m (⟨d,.sliceToArrayPointer T x,ty,pos,aft,gd⟩::rest) n env h):Drw P l sz K dfs i n0 env0 h0 m (⟨d,.sliceToArrayPointer T x,ty,pos,aft,gd⟩::rest) n env h:=hh
end
noncomputable def kdL (ch b:Dm):Dm:=sum 330#64 (ch++b)
attribute [local irreducible] Still Adds AWL AW Drw bX bY AC AWR cU Frz Go.Av.Src cQ Out InK ItK AsK RdK eP eI ACT ACA eW aS3 kdL
attribute [local simp] bS bR bI
section
variable (b:Dm) (m h:Nat) (hm:b.length=m) (hb:m<=100000000) (hh:min m 10=h) (ch:Dm) (hch:ch.length=32)
include b m h hm hb hh ch hch
theorem eR7 (e':Int) (he:e'≠0) (hri:qC' 120 [.sl 1 h (u8c (b.take h))] (.tup [.c (iv 0),.c (.v (.slice none 0 0)),.c (iv e')]) [] 0):qC' 61 [.sl 1 m (u8c b),.agg (u8c ch)] (.tup [.c (.agg (ecs en0 0 0)),.c (.agg (u8c root0)),.c (iv 0),.c (bv false)]) [] 0:=by
 have hX:(if 10<(m:Int) then 10 else (m:Int)).toNat-0=h:=by split<;>omega
 have hY:List.take (h*1) (List.drop (0*1) (u8c b))=u8c (b.take h):=by simp
 rw [<- hY,<- hX] at hri
 dsimp only [ecs,en0,lk0,hd0,iE,rq0,Vl.nul] at *
 refine fA aB (sz:=91) Tryz.func61 rfl tA ?_
 repeat' (first|(refine aC ?_;intro K hK hX)|refine cD9 ?_|(refine aG hK hX ?_;clear hK hX K)|fail)
 exact aA6
theorem eR8 (n:Int) (hn64:aT n) (rb:Dm) (q:Nat) (hrb:rb.length=q) (j:Nat) (hj:h-q=j) (hqh:q<=h) (hri:qC' 120 [.sl 1 h (u8c (b.take h))] (.tup [.c (iv n),.c (.sl 1 q (u8c rb)),.c (iv 0)]) [] 0) (h1:n<0):qC' 61 [.sl 1 m (u8c b),.agg (u8c ch)] (.tup [.c (.agg (ecs en0 0 0)),.c (.agg (u8c root0)),.c (iv 0),.c (bv false)]) [] 0:=by
 have hX:(if 10<(m:Int) then 10 else (m:Int)).toNat-0=h:=by split<;>omega
 have hY:List.take (h*1) (List.drop (0*1) (u8c b))=u8c (b.take h):=by simp
 rw [<- hY,<- hX] at hri
 dsimp only [ecs,en0,lk0,hd0,iE,rq0,Vl.nul] at *
 refine fA aB (sz:=91) Tryz.func61 rfl tA ?_
 repeat' (first|(refine aC ?_;intro K hK hX)|refine cD9 ?_|(refine aG hK hX ?_;clear hK hX K)|fail)
 exact aA6
theorem eR9 (n:Int) (hn64:aT n) (rb:Dm) (q:Nat) (hrb:rb.length=q) (j:Nat) (hj:h-q=j) (hqh:q<=h) (hri:qC' 120 [.sl 1 h (u8c (b.take h))] (.tup [.c (iv n),.c (.sl 1 q (u8c rb)),.c (iv 0)]) [] 0) (h1:0<=n) (h2:(m:Int)<(h:Int)-q+n+32):qC' 61 [.sl 1 m (u8c b),.agg (u8c ch)] (.tup [.c (.agg (ecs en0 0 0)),.c (.agg (u8c root0)),.c (iv 0),.c (bv false)]) [] 0:=by
 have hX:(if 10<(m:Int) then 10 else (m:Int)).toNat-0=h:=by split<;>omega
 have hY:List.take (h*1) (List.drop (0*1) (u8c b))=u8c (b.take h):=by simp
 rw [<- hY,<- hX] at hri
 dsimp only [ecs,en0,lk0,hd0,iE,rq0,Vl.nul] at *
 refine fA aB (sz:=91) Tryz.func61 rfl tA ?_
 repeat' (first|(refine aC ?_;intro K hK hX)|refine cD9 ?_|(refine aG hK hX ?_;clear hK hX K)|fail)
 exact aA6
theorem eS0 (n:Int) (hn64:aT n) (rb:Dm) (q:Nat) (hrb:rb.length=q) (j:Nat) (hj:h-q=j) (hqh:q<=h) (hri:qC' 120 [.sl 1 h (u8c (b.take h))] (.tup [.c (iv n),.c (.sl 1 q (u8c rb)),.c (iv 0)]) [] 0) (nn:Nat) (hnn:n=nn) (h2:j+nn+32<=m) (e2:Int) (he2:e2≠0) (hre:qC' 77 [.sl 1 nn (u8c ((b.drop j).take nn))] (.tup [.c (.agg (ecs en0 0 0)),.c (.v (.slice none 0 0)),.c (iv e2)]) [] 0)  : qC' 61 [.sl 1 m (u8c b),.agg (u8c ch)] (.tup [.c (.agg (ecs en0 0 0)),.c (.agg (u8c root0)),.c (iv 0),.c (bv false)]) [] 0:=by
 have hX:(if 10<(m:Int) then 10 else (m:Int)).toNat-0=h:=by split<;>omega
 have hY:List.take (h*1) (List.drop (0*1) (u8c b))=u8c (b.take h):=by simp
 rw [<- hY,<- hX] at hri
 have hS:((((if 10<(m:Int) then 10 else (m:Int)).toNat-0:Nat):Int)-(q:Int)+n).toNat-((if 10<(m:Int) then 10 else (m:Int)).toNat-0-q)=nn:=by rw [hX];omega
 have hZ:List.take (nn*1) (List.drop (((if 10<(m:Int) then 10 else (m:Int)).toNat-0-q)*1) (u8c b))=u8c ((b.drop j).take nn):=by rw [hX,hj];simp
 rw [<- hZ,<- hS] at hre
 dsimp only [ecs,en0,lk0,hd0,iE,rq0,Vl.nul] at *
 refine fA aB (sz:=91) Tryz.func61 rfl tA ?_
 repeat' (first|(refine aC ?_;intro K hK hX)|refine dM4 ?_|(refine aG hK hX ?_;clear hK hX K)|fail)
 exact aA6
theorem eS1 (n:Int) (hn64:aT n) (rb:Dm) (q:Nat) (hrb:rb.length=q) (j:Nat) (hj:h-q=j) (hqh:q<=h) (hri:qC' 120 [.sl 1 h (u8c (b.take h))] (.tup [.c (iv n),.c (.sl 1 q (u8c rb)),.c (iv 0)]) [] 0) (nn:Nat) (hnn:n=nn) (h2:j+nn+32<=m) (cs:D1) (hcs:cs.length=65) (p:Nat) (hp:0<p) (rc:D1) (hre:qC' 77 [.sl 1 nn (u8c ((b.drop j).take nn))] (.tup [.c (.agg cs),.c (.sl 1 p rc),.c (iv 0)]) [] 0)  : qC' 61 [.sl 1 m (u8c b),.agg (u8c ch)] (.tup [.c (.agg (ecs en0 0 0)),.c (.agg (u8c root0)),.c (iv 0),.c (bv false)]) [] 0:=by
 have hX:(if 10<(m:Int) then 10 else (m:Int)).toNat-0=h:=by split<;>omega
 have hY:List.take (h*1) (List.drop (0*1) (u8c b))=u8c (b.take h):=by simp
 rw [<- hY,<- hX] at hri
 have hS:((((if 10<(m:Int) then 10 else (m:Int)).toNat-0:Nat):Int)-(q:Int)+n).toNat-((if 10<(m:Int) then 10 else (m:Int)).toNat-0-q)=nn:=by rw [hX];omega
 have hZ:List.take (nn*1) (List.drop (((if 10<(m:Int) then 10 else (m:Int)).toNat-0-q)*1) (u8c b))=u8c ((b.drop j).take nn):=by rw [hX,hj];simp
 rw [<- hZ,<- hS] at hre
 dsimp only [ecs,en0,lk0,hd0,iE,rq0,Vl.nul] at *
 refine fA aB (sz:=91) Tryz.func61 rfl tA ?_
 repeat' (first|(refine aC ?_;intro K hK hX)|refine dM4 ?_|(refine aG hK hX ?_;clear hK hX K)|fail)
 exact aA6
theorem eS2 (n:Int) (hn64:aT n) (rb:Dm) (q:Nat) (hrb:rb.length=q) (j:Nat) (hj:h-q=j) (hqh:q<=h) (hri:qC' 120 [.sl 1 h (u8c (b.take h))] (.tup [.c (iv n),.c (.sl 1 q (u8c rb)),.c (iv 0)]) [] 0) (nn:Nat) (hnn:n=nn) (h2:j+nn+32<=m) (cs:D1) (hcs:cs.length=65) (rc:D1) (hre:qC' 77 [.sl 1 nn (u8c ((b.drop j).take nn))] (.tup [.c (.agg cs),.c (.sl 1 0 rc),.c (iv 0)]) [] 0) (d:Dm) (hd:d.length=32) (hky:qC' 78 [wv 330#64,.agg (u8c ch),.sl 1 nn (u8c ((b.drop j).take nn))] (.c (.agg (u8c d))) [] 0) (hne:¬d=(b.drop (j+nn)).take 32):qC' 61 [.sl 1 m (u8c b),.agg (u8c ch)] (.tup [.c (.agg (ecs en0 0 0)),.c (.agg (u8c root0)),.c (iv 0),.c (bv false)]) [] 0:=by
 have hX:(if 10<(m:Int) then 10 else (m:Int)).toNat-0=h:=by split<;>omega
 have hY:List.take (h*1) (List.drop (0*1) (u8c b))=u8c (b.take h):=by simp
 rw [<- hY,<- hX] at hri
 have hS:((((if 10<(m:Int) then 10 else (m:Int)).toNat-0:Nat):Int)-(q:Int)+n).toNat-((if 10<(m:Int) then 10 else (m:Int)).toNat-0-q)=nn:=by rw [hX];omega
 have hZ:List.take (nn*1) (List.drop (((if 10<(m:Int) then 10 else (m:Int)).toNat-0-q)*1) (u8c b))=u8c ((b.drop j).take nn):=by rw [hX,hj];simp
 rw [<- hZ,<- hS] at hre
 rw [<- hZ,<- hS] at hky
 have hcl:(u8c ch).length=32:=by rw [aH,hch]
 have hwl:((b.drop (j+nn)).take 32).length=32:=by rw [As,A0];omega
 have hdl:(u8c d).length=32:=by rw [aH,hd]
 have hW:List.take 32 (List.drop 0 (List.take (((((((if 10<(m:Int) then 10 else (m:Int)).toNat-0:Nat):Int)-(q:Int)+n+32).toNat-((((if 10<(m:Int) then 10 else (m:Int)).toNat-0:Nat):Int)-(q:Int)+n).toNat))*1) (List.drop (((((if 10<(m:Int) then 10 else (m:Int)).toNat-0:Nat):Int)-(q:Int)+n).toNat*1) (u8c b))))=u8c ((b.drop (j+nn)).take 32):=by
  rw [hX,show ((h:Int)-(q:Int)+n+32).toNat-((h:Int)-(q:Int)+n).toNat=32 from by omega,show ((h:Int)-(q:Int)+n).toNat=j+nn from by omega]
  simp only [AY,A8,bS,bR]
  rw [C8,Nat.min_self]
 have hul:(u8c ((b.drop (j+nn)).take 32)).length=32:=by rw [aH];exact hwl
 dsimp only [ecs,en0,lk0,hd0,iE,rq0,Vl.nul] at *
 refine fA aB (sz:=91) Tryz.func61 rfl tA ?_
 repeat' (first|(refine aC ?_;intro K hK hX)|refine bE [0,1,3,4,5,6,7,8,9,10,11,12,13,14,15,16,17] ?_|((with_reducible refine aW ?_);refine yA ?_;refine bC (aR (T:=49) aB rfl rfl rfl) rfl ?_)|((with_reducible refine cM9 ?_);refine xD ?_;refine aL (dU7 aB rfl rfl rfl aA aA) ?_)|(refine bZ ?_;first|refine c0 hri ?_|refine c0 hre ?_|refine c0 hky ?_)|((first|((with_reducible refine bP ?_);refine xA ?_)|((with_reducible refine cZ ?_);refine xD ?_));(first|((with_reducible refine bU ?_);(first|refine aL (aR3 aB aV rfl rfl rfl rfl rfl rfl rfl rfl rfl hd hwl (show (!decide (d=(b.drop (j+nn)).take 32))=true from by rw [Bi hne];first|done|rfl)) ?_))))|refine eE ?_|refine stA ?_|refine stD ?_|(refine aG hK hX ?_;clear hK hX K)|fail)
 exact aA6
theorem eS3 (n:Int) (hn64:aT n) (rb:Dm) (q:Nat) (hrb:rb.length=q) (j:Nat) (hj:h-q=j) (hqh:q<=h) (hri:qC' 120 [.sl 1 h (u8c (b.take h))] (.tup [.c (iv n),.c (.sl 1 q (u8c rb)),.c (iv 0)]) [] 0) (nn:Nat) (hnn:n=nn) (h2:j+nn+32<=m) (cs:D1) (hcs:cs.length=65) (rc:D1) (hre:qC' 77 [.sl 1 nn (u8c ((b.drop j).take nn))] (.tup [.c (.agg cs),.c (.sl 1 0 rc),.c (iv 0)]) [] 0) (d:Dm) (hd:d.length=32) (hky:qC' 78 [wv 330#64,.agg (u8c ch),.sl 1 nn (u8c ((b.drop j).take nn))] (.c (.agg (u8c d))) [] 0) (k:Nat) (hk:j+nn+32=k) (heq:d=(b.drop (j+nn)).take 32):qC' 61 [.sl 1 m (u8c b),.agg (u8c ch)] (.tup [.c (.agg cs),.c (.agg (u8c d)),.c (iv k),.c (bv true)]) [] 0:=by
 have hX:(if 10<(m:Int) then 10 else (m:Int)).toNat-0=h:=by split<;>omega
 have hY:List.take (h*1) (List.drop (0*1) (u8c b))=u8c (b.take h):=by simp
 rw [<- hY,<- hX] at hri
 have hS:((((if 10<(m:Int) then 10 else (m:Int)).toNat-0:Nat):Int)-(q:Int)+n).toNat-((if 10<(m:Int) then 10 else (m:Int)).toNat-0-q)=nn:=by rw [hX];omega
 have hZ:List.take (nn*1) (List.drop (((if 10<(m:Int) then 10 else (m:Int)).toNat-0-q)*1) (u8c b))=u8c ((b.drop j).take nn):=by rw [hX,hj];simp
 rw [<- hZ,<- hS] at hre
 rw [<- hZ,<- hS] at hky
 have hcl:(u8c ch).length=32:=by rw [aH,hch]
 have hwl:((b.drop (j+nn)).take 32).length=32:=by rw [As,A0];omega
 have hdl:(u8c d).length=32:=by rw [aH,hd]
 have hW:List.take 32 (List.drop 0 (List.take (((((((if 10<(m:Int) then 10 else (m:Int)).toNat-0:Nat):Int)-(q:Int)+n+32).toNat-((((if 10<(m:Int) then 10 else (m:Int)).toNat-0:Nat):Int)-(q:Int)+n).toNat))*1) (List.drop (((((if 10<(m:Int) then 10 else (m:Int)).toNat-0:Nat):Int)-(q:Int)+n).toNat*1) (u8c b))))=u8c ((b.drop (j+nn)).take 32):=by
  rw [hX,show ((h:Int)-(q:Int)+n+32).toNat-((h:Int)-(q:Int)+n).toNat=32 from by omega,show ((h:Int)-(q:Int)+n).toNat=j+nn from by omega]
  simp only [AY,A8,bS,bR]
  rw [C8,Nat.min_self]
 have hul:(u8c ((b.drop (j+nn)).take 32)).length=32:=by rw [aH];exact hwl
 refine fA aB (sz:=91) Tryz.func61 rfl tA ?_
 repeat' (first|(refine aC ?_;intro K hK hX)|refine aK [0,1,3,4,5,6,7,8,9,10,11,12,13,14,15,16,17] ?_|((with_reducible refine aQ (i:=16) ?_);refine aP [0,1,3,4,5,6,7,8,9,10,11,12,13,14,15,16,17] rfl rfl ?_;refine bW [] ?_)|((with_reducible refine aQ ?_);refine aP [0,1,3,4,5,6,7,8,9,10,11,12,13,14,15,16,17] rfl rfl ?_;refine cJ [] ?_)|((with_reducible refine aW ?_);refine yA ?_;refine bC (aR (T:=49) aB rfl rfl rfl) rfl ?_)|((with_reducible refine cM9 ?_);refine xD ?_;refine aL (dU7 aB rfl rfl rfl aA aA) ?_)|(refine dM ?_;first|refine c0 hri ?_|refine c0 hre ?_|refine c0 hky ?_)|((first|((with_reducible refine bP ?_);refine xA ?_)|((with_reducible refine cZ ?_);refine xD ?_)|((with_reducible refine iR ?_);refine xE ?_));(first|((with_reducible refine bU ?_);(first|refine aL (aR3 aB aV rfl rfl rfl rfl rfl rfl rfl rfl rfl hd hwl (show (!decide (d=(b.drop (j+nn)).take 32))=false from by rw [AP heq];first|done|rfl)) ?_))))|refine fT ?_|refine stA ?_|refine stD ?_|refine stE ?_|(refine aG hK hX ?_;clear hK hX K)|fail)
 exact aA6
end
end Go.Proofs.YtbgehdndimlgkaaGreat
