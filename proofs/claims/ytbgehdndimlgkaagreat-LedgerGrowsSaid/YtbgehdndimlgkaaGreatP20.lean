/- Lemmas for laws of the ledger. -/
import Derived.Test.YtbgehdndimlgkaaGreatP19
set_option linter.all false
set_option maxHeartbeats 16000000
namespace Go.Proofs.YtbgehdndimlgkaaGreat
open Go Go.RowKit Go.Av
set_option maxRecDepth 100000
section
variable {P:D0} {sz n i n0 m:Nat} {env env0:Env} {h h0:aQ} {dfs:cK} {K:AK} {l rest:Du} {T ty:Dz} {x:Operand} {pos:String} {aft:Dx} {gd:Ds} {d:Dy}
theorem cU1 (hh:Drw P l sz K dfs i n0 env0 h0 m (⟨d,.sliceToArrayPointer T x,ty,pos,aft,gd⟩::rest) n env h):Drw P l sz K dfs i n0 env0 h0 m (⟨d,.sliceToArrayPointer T x,ty,pos,aft,gd⟩::rest) n env h:=hh
end
noncomputable def kdL (ch b:Dr):Dr:=sum 330#64 (ch++b)
attribute [local irreducible] Still Adds AWL AW Drw bY bW AC AWR cR Frz Go.Av.Src cQ Out InK ItK AsK RdK eL eF ACT ACA eT aY1 kdL
attribute [local simp] bV bU bM
section
variable (b:Dr) (m h:Nat) (hm:b.length=m) (hb:m<=100000000) (hh:min m 10=h) (ch:Dr) (hch:ch.length=32)
include b m h hm hb hh ch hch
theorem fA3 (e':Int) (he:e'≠0) (hri:qC' 120 [.sl 1 h (u8c (b.take h))] (.tup [.c (iv 0),.c (.v (.slice none 0 0)),.c (iv e')]) [] 0):qC' 61 [.sl 1 m (u8c b),.agg (u8c ch)] (.tup [.c (.agg (ecs en0 0 0)),.c (.agg (u8c root0)),.c (iv 0),.c (bv false)]) [] 0:=by
 have hX:(if 10<(m:Int) then 10 else (m:Int)).toNat-0=h:=by split<;>omega
 have hY:List.take (h*1) (List.drop (0*1) (u8c b))=u8c (b.take h):=by simp
 rw [<- hY,<- hX] at hri
 dsimp only [ecs,en0,lk0,hd0,iT,rq0,Vl.nul] at *
 refine fK aB (sz:=91) Tryz.func61 rfl uA ?_
 repeat' (first|(refine aC ?_;intro K hK hX)|refine cL0 ?_|(refine aE hK hX ?_;clear hK hX K)|fail)
 exact aE4
theorem fA4 (n:Int) (hn64:aS n) (rb:Dr) (q:Nat) (hrb:rb.length=q) (j:Nat) (hj:h-q=j) (hqh:q<=h) (hri:qC' 120 [.sl 1 h (u8c (b.take h))] (.tup [.c (iv n),.c (.sl 1 q (u8c rb)),.c (iv 0)]) [] 0) (h1:n<0):qC' 61 [.sl 1 m (u8c b),.agg (u8c ch)] (.tup [.c (.agg (ecs en0 0 0)),.c (.agg (u8c root0)),.c (iv 0),.c (bv false)]) [] 0:=by
 have hX:(if 10<(m:Int) then 10 else (m:Int)).toNat-0=h:=by split<;>omega
 have hY:List.take (h*1) (List.drop (0*1) (u8c b))=u8c (b.take h):=by simp
 rw [<- hY,<- hX] at hri
 dsimp only [ecs,en0,lk0,hd0,iT,rq0,Vl.nul] at *
 refine fK aB (sz:=91) Tryz.func61 rfl uA ?_
 repeat' (first|(refine aC ?_;intro K hK hX)|refine cL0 ?_|(refine aE hK hX ?_;clear hK hX K)|fail)
 exact aE4
theorem fA5 (n:Int) (hn64:aS n) (rb:Dr) (q:Nat) (hrb:rb.length=q) (j:Nat) (hj:h-q=j) (hqh:q<=h) (hri:qC' 120 [.sl 1 h (u8c (b.take h))] (.tup [.c (iv n),.c (.sl 1 q (u8c rb)),.c (iv 0)]) [] 0) (h1:0<=n) (h2:(m:Int)<(h:Int)-q+n+32):qC' 61 [.sl 1 m (u8c b),.agg (u8c ch)] (.tup [.c (.agg (ecs en0 0 0)),.c (.agg (u8c root0)),.c (iv 0),.c (bv false)]) [] 0:=by
 have hX:(if 10<(m:Int) then 10 else (m:Int)).toNat-0=h:=by split<;>omega
 have hY:List.take (h*1) (List.drop (0*1) (u8c b))=u8c (b.take h):=by simp
 rw [<- hY,<- hX] at hri
 dsimp only [ecs,en0,lk0,hd0,iT,rq0,Vl.nul] at *
 refine fK aB (sz:=91) Tryz.func61 rfl uA ?_
 repeat' (first|(refine aC ?_;intro K hK hX)|refine cL0 ?_|(refine aE hK hX ?_;clear hK hX K)|fail)
 exact aE4
theorem fA6 (n:Int) (hn64:aS n) (rb:Dr) (q:Nat) (hrb:rb.length=q) (j:Nat) (hj:h-q=j) (hqh:q<=h) (hri:qC' 120 [.sl 1 h (u8c (b.take h))] (.tup [.c (iv n),.c (.sl 1 q (u8c rb)),.c (iv 0)]) [] 0) (nn:Nat) (hnn:n=nn) (h2:j+nn+32<=m) (e2:Int) (he2:e2≠0) (hre:qC' 77 [.sl 1 nn (u8c ((b.drop j).take nn))] (.tup [.c (.agg (ecs en0 0 0)),.c (.v (.slice none 0 0)),.c (iv e2)]) [] 0)  : qC' 61 [.sl 1 m (u8c b),.agg (u8c ch)] (.tup [.c (.agg (ecs en0 0 0)),.c (.agg (u8c root0)),.c (iv 0),.c (bv false)]) [] 0:=by
 have hX:(if 10<(m:Int) then 10 else (m:Int)).toNat-0=h:=by split<;>omega
 have hY:List.take (h*1) (List.drop (0*1) (u8c b))=u8c (b.take h):=by simp
 rw [<- hY,<- hX] at hri
 have hS:((((if 10<(m:Int) then 10 else (m:Int)).toNat-0:Nat):Int)-(q:Int)+n).toNat-((if 10<(m:Int) then 10 else (m:Int)).toNat-0-q)=nn:=by rw [hX];omega
 have hZ:List.take (nn*1) (List.drop (((if 10<(m:Int) then 10 else (m:Int)).toNat-0-q)*1) (u8c b))=u8c ((b.drop j).take nn):=by rw [hX,hj];simp
 rw [<- hZ,<- hS] at hre
 dsimp only [ecs,en0,lk0,hd0,iT,rq0,Vl.nul] at *
 refine fK aB (sz:=91) Tryz.func61 rfl uA ?_
 repeat' (first|(refine aC ?_;intro K hK hX)|refine dU2 ?_|(refine aE hK hX ?_;clear hK hX K)|fail)
 exact aE4
theorem fA7 (n:Int) (hn64:aS n) (rb:Dr) (q:Nat) (hrb:rb.length=q) (j:Nat) (hj:h-q=j) (hqh:q<=h) (hri:qC' 120 [.sl 1 h (u8c (b.take h))] (.tup [.c (iv n),.c (.sl 1 q (u8c rb)),.c (iv 0)]) [] 0) (nn:Nat) (hnn:n=nn) (h2:j+nn+32<=m) (cs:D8) (hcs:cs.length=65) (p:Nat) (hp:0<p) (rc:D8) (hre:qC' 77 [.sl 1 nn (u8c ((b.drop j).take nn))] (.tup [.c (.agg cs),.c (.sl 1 p rc),.c (iv 0)]) [] 0)  : qC' 61 [.sl 1 m (u8c b),.agg (u8c ch)] (.tup [.c (.agg (ecs en0 0 0)),.c (.agg (u8c root0)),.c (iv 0),.c (bv false)]) [] 0:=by
 have hX:(if 10<(m:Int) then 10 else (m:Int)).toNat-0=h:=by split<;>omega
 have hY:List.take (h*1) (List.drop (0*1) (u8c b))=u8c (b.take h):=by simp
 rw [<- hY,<- hX] at hri
 have hS:((((if 10<(m:Int) then 10 else (m:Int)).toNat-0:Nat):Int)-(q:Int)+n).toNat-((if 10<(m:Int) then 10 else (m:Int)).toNat-0-q)=nn:=by rw [hX];omega
 have hZ:List.take (nn*1) (List.drop (((if 10<(m:Int) then 10 else (m:Int)).toNat-0-q)*1) (u8c b))=u8c ((b.drop j).take nn):=by rw [hX,hj];simp
 rw [<- hZ,<- hS] at hre
 dsimp only [ecs,en0,lk0,hd0,iT,rq0,Vl.nul] at *
 refine fK aB (sz:=91) Tryz.func61 rfl uA ?_
 repeat' (first|(refine aC ?_;intro K hK hX)|refine dU2 ?_|(refine aE hK hX ?_;clear hK hX K)|fail)
 exact aE4
theorem fA8 (n:Int) (hn64:aS n) (rb:Dr) (q:Nat) (hrb:rb.length=q) (j:Nat) (hj:h-q=j) (hqh:q<=h) (hri:qC' 120 [.sl 1 h (u8c (b.take h))] (.tup [.c (iv n),.c (.sl 1 q (u8c rb)),.c (iv 0)]) [] 0) (nn:Nat) (hnn:n=nn) (h2:j+nn+32<=m) (cs:D8) (hcs:cs.length=65) (rc:D8) (hre:qC' 77 [.sl 1 nn (u8c ((b.drop j).take nn))] (.tup [.c (.agg cs),.c (.sl 1 0 rc),.c (iv 0)]) [] 0) (d:Dr) (hd:d.length=32) (hky:qC' 78 [wv 330#64,.agg (u8c ch),.sl 1 nn (u8c ((b.drop j).take nn))] (.c (.agg (u8c d))) [] 0) (hne:¬d=(b.drop (j+nn)).take 32):qC' 61 [.sl 1 m (u8c b),.agg (u8c ch)] (.tup [.c (.agg (ecs en0 0 0)),.c (.agg (u8c root0)),.c (iv 0),.c (bv false)]) [] 0:=by
 have hX:(if 10<(m:Int) then 10 else (m:Int)).toNat-0=h:=by split<;>omega
 have hY:List.take (h*1) (List.drop (0*1) (u8c b))=u8c (b.take h):=by simp
 rw [<- hY,<- hX] at hri
 have hS:((((if 10<(m:Int) then 10 else (m:Int)).toNat-0:Nat):Int)-(q:Int)+n).toNat-((if 10<(m:Int) then 10 else (m:Int)).toNat-0-q)=nn:=by rw [hX];omega
 have hZ:List.take (nn*1) (List.drop (((if 10<(m:Int) then 10 else (m:Int)).toNat-0-q)*1) (u8c b))=u8c ((b.drop j).take nn):=by rw [hX,hj];simp
 rw [<- hZ,<- hS] at hre
 rw [<- hZ,<- hS] at hky
 have hcl:(u8c ch).length=32:=by rw [aH,hch]
 have hwl:((b.drop (j+nn)).take 32).length=32:=by rw [Ar,A0];omega
 have hdl:(u8c d).length=32:=by rw [aH,hd]
 have hW:List.take 32 (List.drop 0 (List.take (((((((if 10<(m:Int) then 10 else (m:Int)).toNat-0:Nat):Int)-(q:Int)+n+32).toNat-((((if 10<(m:Int) then 10 else (m:Int)).toNat-0:Nat):Int)-(q:Int)+n).toNat))*1) (List.drop (((((if 10<(m:Int) then 10 else (m:Int)).toNat-0:Nat):Int)-(q:Int)+n).toNat*1) (u8c b))))=u8c ((b.drop (j+nn)).take 32):=by
  rw [hX,show ((h:Int)-(q:Int)+n+32).toNat-((h:Int)-(q:Int)+n).toNat=32 from by omega,show ((h:Int)-(q:Int)+n).toNat=j+nn from by omega]
  simp only [AN,A9,bV,bU]
  rw [C0,Nat.min_self]
 have hul:(u8c ((b.drop (j+nn)).take 32)).length=32:=by rw [aH];exact hwl
 dsimp only [ecs,en0,lk0,hd0,iT,rq0,Vl.nul] at *
 refine fK aB (sz:=91) Tryz.func61 rfl uA ?_
 repeat' (first|(refine aC ?_;intro K hK hX)|refine aY [0,1,3,4,5,6,7,8,9,10,11,12,13,14,15,16,17] ?_|((with_reducible refine aW ?_);refine yA ?_;refine bE (aU (T:=49) aB rfl rfl rfl) rfl ?_)|((with_reducible refine cU1 ?_);refine xD ?_;refine aJ (eC9 aB rfl rfl rfl aA aA) ?_)|(refine bK ?_;first|refine c0 hri ?_|refine c0 hre ?_|refine c0 hky ?_)|((first|((with_reducible refine bL ?_);refine xA ?_)|((with_reducible refine cO ?_);refine xD ?_));(first|((with_reducible refine bQ ?_);(first|refine aJ (xZ aB aO rfl rfl rfl rfl rfl rfl rfl rfl rfl hd hwl (show (!decide (d=(b.drop (j+nn)).take 32))=true from by rw [Bj hne];first|done|rfl)) ?_))))|refine dY ?_|refine stA ?_|refine stD ?_|(refine aE hK hX ?_;clear hK hX K)|fail)
 exact aE4
theorem fA9 (n:Int) (hn64:aS n) (rb:Dr) (q:Nat) (hrb:rb.length=q) (j:Nat) (hj:h-q=j) (hqh:q<=h) (hri:qC' 120 [.sl 1 h (u8c (b.take h))] (.tup [.c (iv n),.c (.sl 1 q (u8c rb)),.c (iv 0)]) [] 0) (nn:Nat) (hnn:n=nn) (h2:j+nn+32<=m) (cs:D8) (hcs:cs.length=65) (rc:D8) (hre:qC' 77 [.sl 1 nn (u8c ((b.drop j).take nn))] (.tup [.c (.agg cs),.c (.sl 1 0 rc),.c (iv 0)]) [] 0) (d:Dr) (hd:d.length=32) (hky:qC' 78 [wv 330#64,.agg (u8c ch),.sl 1 nn (u8c ((b.drop j).take nn))] (.c (.agg (u8c d))) [] 0) (k:Nat) (hk:j+nn+32=k) (heq:d=(b.drop (j+nn)).take 32):qC' 61 [.sl 1 m (u8c b),.agg (u8c ch)] (.tup [.c (.agg cs),.c (.agg (u8c d)),.c (iv k),.c (bv true)]) [] 0:=by
 have hX:(if 10<(m:Int) then 10 else (m:Int)).toNat-0=h:=by split<;>omega
 have hY:List.take (h*1) (List.drop (0*1) (u8c b))=u8c (b.take h):=by simp
 rw [<- hY,<- hX] at hri
 have hS:((((if 10<(m:Int) then 10 else (m:Int)).toNat-0:Nat):Int)-(q:Int)+n).toNat-((if 10<(m:Int) then 10 else (m:Int)).toNat-0-q)=nn:=by rw [hX];omega
 have hZ:List.take (nn*1) (List.drop (((if 10<(m:Int) then 10 else (m:Int)).toNat-0-q)*1) (u8c b))=u8c ((b.drop j).take nn):=by rw [hX,hj];simp
 rw [<- hZ,<- hS] at hre
 rw [<- hZ,<- hS] at hky
 have hcl:(u8c ch).length=32:=by rw [aH,hch]
 have hwl:((b.drop (j+nn)).take 32).length=32:=by rw [Ar,A0];omega
 have hdl:(u8c d).length=32:=by rw [aH,hd]
 have hW:List.take 32 (List.drop 0 (List.take (((((((if 10<(m:Int) then 10 else (m:Int)).toNat-0:Nat):Int)-(q:Int)+n+32).toNat-((((if 10<(m:Int) then 10 else (m:Int)).toNat-0:Nat):Int)-(q:Int)+n).toNat))*1) (List.drop (((((if 10<(m:Int) then 10 else (m:Int)).toNat-0:Nat):Int)-(q:Int)+n).toNat*1) (u8c b))))=u8c ((b.drop (j+nn)).take 32):=by
  rw [hX,show ((h:Int)-(q:Int)+n+32).toNat-((h:Int)-(q:Int)+n).toNat=32 from by omega,show ((h:Int)-(q:Int)+n).toNat=j+nn from by omega]
  simp only [AN,A9,bV,bU]
  rw [C0,Nat.min_self]
 have hul:(u8c ((b.drop (j+nn)).take 32)).length=32:=by rw [aH];exact hwl
 refine fK aB (sz:=91) Tryz.func61 rfl uA ?_
 repeat' (first|(refine aC ?_;intro K hK hX)|refine aL [0,1,3,4,5,6,7,8,9,10,11,12,13,14,15,16,17] ?_|((with_reducible refine aR (i:=16) ?_);refine aP [0,1,3,4,5,6,7,8,9,10,11,12,13,14,15,16,17] rfl rfl ?_;refine bZ [] ?_)|((with_reducible refine aR ?_);refine aP [0,1,3,4,5,6,7,8,9,10,11,12,13,14,15,16,17] rfl rfl ?_;refine cM [] ?_)|((with_reducible refine aW ?_);refine yA ?_;refine bE (aU (T:=49) aB rfl rfl rfl) rfl ?_)|((with_reducible refine cU1 ?_);refine xD ?_;refine aJ (eC9 aB rfl rfl rfl aA aA) ?_)|(refine dP ?_;first|refine c0 hri ?_|refine c0 hre ?_|refine c0 hky ?_)|((first|((with_reducible refine bL ?_);refine xA ?_)|((with_reducible refine cO ?_);refine xD ?_)|((with_reducible refine jG ?_);refine xE ?_));(first|((with_reducible refine bQ ?_);(first|refine aJ (xZ aB aO rfl rfl rfl rfl rfl rfl rfl rfl rfl hd hwl (show (!decide (d=(b.drop (j+nn)).take 32))=false from by rw [AH heq];first|done|rfl)) ?_))))|refine fX ?_|refine stA ?_|refine stD ?_|refine stE ?_|(refine aE hK hX ?_;clear hK hX K)|fail)
 exact aE4
end
end Go.Proofs.YtbgehdndimlgkaaGreat
