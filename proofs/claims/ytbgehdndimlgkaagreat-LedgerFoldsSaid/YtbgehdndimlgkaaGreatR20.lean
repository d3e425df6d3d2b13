/- Lemmas for laws of the ledger. -/
import Derived.Test.YtbgehdndimlgkaaGreatR19
set_option linter.all false
set_option maxHeartbeats 16000000
namespace Go.Proofs.YtbgehdndimlgkaaGreat
open Go Go.RowKit Go.Av
set_option maxRecDepth 100000
section
variable {P:Dl} {sz n i n0 m:Nat} {env env0:Env} {h h0:aO} {dfs:cA} {K:AK} {l rest:De} {T ty:Dj} {x:Operand} {pos:String} {aft:Dh} {gd:Dc} {d:Di}
theorem cD0 (hh:Drw P l sz K dfs i n0 env0 h0 m (⟨d,.sliceToArrayPointer T x,ty,pos,aft,gd⟩::rest) n env h):Drw P l sz K dfs i n0 env0 h0 m (⟨d,.sliceToArrayPointer T x,ty,pos,aft,gd⟩::rest) n env h:=hh
end
noncomputable def kdL (ch b:Db):Db:=sum 330#64 (ch++b)
attribute [local irreducible] Still Adds AWL AW Drw bQ bT AC AWR cO Frz Go.Av.Src dF Out InK ItK AsK RdK eI eG ACT ACA fD bI9 kdL
attribute [local simp] bZ bY cI
section
variable (b:Db) (m h:Nat) (hm:b.length=m) (hb:m<=100000000) (hh:min m 10=h) (ch:Db) (hch:ch.length=32)
include b m h hm hb hh ch hch
theorem eB7 (e':Int) (he:e'≠0) (hri:qC' 120 [.sl 1 h (u8c (b.take h))] (.tup [.c (iv 0),.c (.v (.slice none 0 0)),.c (iv e')]) [] 0):qC' 61 [.sl 1 m (u8c b),.agg (u8c ch)] (.tup [.c (.agg (ecs en0 0 0)),.c (.agg (u8c root0)),.c (iv 0),.c (bv false)]) [] 0:=by
 have hX:(if 10<(m:Int) then 10 else (m:Int)).toNat-0=h:=by split<;>omega
 have hY:List.take (h*1) (List.drop (0*1) (u8c b))=u8c (b.take h):=by simp
 rw [<- hY,<- hX] at hri
 dsimp only [ecs,en0,lk0,hd0,nB,rq0,Vl.nul] at *
 refine jT aB (sz:=91) Tryz.func61 rfl qY ?_
 repeat' (first|(refine aC ?_;intro K hK hX)|refine bT2 ?_|(refine aE hK hX ?_;clear hK hX K)|fail)
 exact xT
theorem eB8 (n:Int) (hn64:aS n) (rb:Db) (q:Nat) (hrb:rb.length=q) (j:Nat) (hj:h-q=j) (hqh:q<=h) (hri:qC' 120 [.sl 1 h (u8c (b.take h))] (.tup [.c (iv n),.c (.sl 1 q (u8c rb)),.c (iv 0)]) [] 0) (h1:n<0):qC' 61 [.sl 1 m (u8c b),.agg (u8c ch)] (.tup [.c (.agg (ecs en0 0 0)),.c (.agg (u8c root0)),.c (iv 0),.c (bv false)]) [] 0:=by
 have hX:(if 10<(m:Int) then 10 else (m:Int)).toNat-0=h:=by split<;>omega
 have hY:List.take (h*1) (List.drop (0*1) (u8c b))=u8c (b.take h):=by simp
 rw [<- hY,<- hX] at hri
 dsimp only [ecs,en0,lk0,hd0,nB,rq0,Vl.nul] at *
 refine jT aB (sz:=91) Tryz.func61 rfl qY ?_
 repeat' (first|(refine aC ?_;intro K hK hX)|refine bT2 ?_|(refine aE hK hX ?_;clear hK hX K)|fail)
 exact xT
theorem eB9 (n:Int) (hn64:aS n) (rb:Db) (q:Nat) (hrb:rb.length=q) (j:Nat) (hj:h-q=j) (hqh:q<=h) (hri:qC' 120 [.sl 1 h (u8c (b.take h))] (.tup [.c (iv n),.c (.sl 1 q (u8c rb)),.c (iv 0)]) [] 0) (h1:0<=n) (h2:(m:Int)<(h:Int)-q+n+32):qC' 61 [.sl 1 m (u8c b),.agg (u8c ch)] (.tup [.c (.agg (ecs en0 0 0)),.c (.agg (u8c root0)),.c (iv 0),.c (bv false)]) [] 0:=by
 have hX:(if 10<(m:Int) then 10 else (m:Int)).toNat-0=h:=by split<;>omega
 have hY:List.take (h*1) (List.drop (0*1) (u8c b))=u8c (b.take h):=by simp
 rw [<- hY,<- hX] at hri
 dsimp only [ecs,en0,lk0,hd0,nB,rq0,Vl.nul] at *
 refine jT aB (sz:=91) Tryz.func61 rfl qY ?_
 repeat' (first|(refine aC ?_;intro K hK hX)|refine bT2 ?_|(refine aE hK hX ?_;clear hK hX K)|fail)
 exact xT
theorem eC0 (n:Int) (hn64:aS n) (rb:Db) (q:Nat) (hrb:rb.length=q) (j:Nat) (hj:h-q=j) (hqh:q<=h) (hri:qC' 120 [.sl 1 h (u8c (b.take h))] (.tup [.c (iv n),.c (.sl 1 q (u8c rb)),.c (iv 0)]) [] 0) (nn:Nat) (hnn:n=nn) (h2:j+nn+32<=m) (e2:Int) (he2:e2≠0) (hre:qC' 77 [.sl 1 nn (u8c ((b.drop j).take nn))] (.tup [.c (.agg (ecs en0 0 0)),.c (.v (.slice none 0 0)),.c (iv e2)]) [] 0)  : qC' 61 [.sl 1 m (u8c b),.agg (u8c ch)] (.tup [.c (.agg (ecs en0 0 0)),.c (.agg (u8c root0)),.c (iv 0),.c (bv false)]) [] 0:=by
 have hX:(if 10<(m:Int) then 10 else (m:Int)).toNat-0=h:=by split<;>omega
 have hY:List.take (h*1) (List.drop (0*1) (u8c b))=u8c (b.take h):=by simp
 rw [<- hY,<- hX] at hri
 have hS:((((if 10<(m:Int) then 10 else (m:Int)).toNat-0:Nat):Int)-(q:Int)+n).toNat-((if 10<(m:Int) then 10 else (m:Int)).toNat-0-q)=nn:=by rw [hX];omega
 have hZ:List.take (nn*1) (List.drop (((if 10<(m:Int) then 10 else (m:Int)).toNat-0-q)*1) (u8c b))=u8c ((b.drop j).take nn):=by rw [hX,hj];simp
 rw [<- hZ,<- hS] at hre
 dsimp only [ecs,en0,lk0,hd0,nB,rq0,Vl.nul] at *
 refine jT aB (sz:=91) Tryz.func61 rfl qY ?_
 repeat' (first|(refine aC ?_;intro K hK hX)|refine cZ8 ?_|(refine aE hK hX ?_;clear hK hX K)|fail)
 exact xT
theorem eC1 (n:Int) (hn64:aS n) (rb:Db) (q:Nat) (hrb:rb.length=q) (j:Nat) (hj:h-q=j) (hqh:q<=h) (hri:qC' 120 [.sl 1 h (u8c (b.take h))] (.tup [.c (iv n),.c (.sl 1 q (u8c rb)),.c (iv 0)]) [] 0) (nn:Nat) (hnn:n=nn) (h2:j+nn+32<=m) (cs:Dr) (hcs:cs.length=65) (p:Nat) (hp:0<p) (rc:Dr) (hre:qC' 77 [.sl 1 nn (u8c ((b.drop j).take nn))] (.tup [.c (.agg cs),.c (.sl 1 p rc),.c (iv 0)]) [] 0)  : qC' 61 [.sl 1 m (u8c b),.agg (u8c ch)] (.tup [.c (.agg (ecs en0 0 0)),.c (.agg (u8c root0)),.c (iv 0),.c (bv false)]) [] 0:=by
 have hX:(if 10<(m:Int) then 10 else (m:Int)).toNat-0=h:=by split<;>omega
 have hY:List.take (h*1) (List.drop (0*1) (u8c b))=u8c (b.take h):=by simp
 rw [<- hY,<- hX] at hri
 have hS:((((if 10<(m:Int) then 10 else (m:Int)).toNat-0:Nat):Int)-(q:Int)+n).toNat-((if 10<(m:Int) then 10 else (m:Int)).toNat-0-q)=nn:=by rw [hX];omega
 have hZ:List.take (nn*1) (List.drop (((if 10<(m:Int) then 10 else (m:Int)).toNat-0-q)*1) (u8c b))=u8c ((b.drop j).take nn):=by rw [hX,hj];simp
 rw [<- hZ,<- hS] at hre
 dsimp only [ecs,en0,lk0,hd0,nB,rq0,Vl.nul] at *
 refine jT aB (sz:=91) Tryz.func61 rfl qY ?_
 repeat' (first|(refine aC ?_;intro K hK hX)|refine cZ8 ?_|(refine aE hK hX ?_;clear hK hX K)|fail)
 exact xT
theorem eC2 (n:Int) (hn64:aS n) (rb:Db) (q:Nat) (hrb:rb.length=q) (j:Nat) (hj:h-q=j) (hqh:q<=h) (hri:qC' 120 [.sl 1 h (u8c (b.take h))] (.tup [.c (iv n),.c (.sl 1 q (u8c rb)),.c (iv 0)]) [] 0) (nn:Nat) (hnn:n=nn) (h2:j+nn+32<=m) (cs:Dr) (hcs:cs.length=65) (rc:Dr) (hre:qC' 77 [.sl 1 nn (u8c ((b.drop j).take nn))] (.tup [.c (.agg cs),.c (.sl 1 0 rc),.c (iv 0)]) [] 0) (d:Db) (hd:d.length=32) (hky:qC' 78 [wv 330#64,.agg (u8c ch),.sl 1 nn (u8c ((b.drop j).take nn))] (.c (.agg (u8c d))) [] 0) (hne:¬d=(b.drop (j+nn)).take 32):qC' 61 [.sl 1 m (u8c b),.agg (u8c ch)] (.tup [.c (.agg (ecs en0 0 0)),.c (.agg (u8c root0)),.c (iv 0),.c (bv false)]) [] 0:=by
 have hX:(if 10<(m:Int) then 10 else (m:Int)).toNat-0=h:=by split<;>omega
 have hY:List.take (h*1) (List.drop (0*1) (u8c b))=u8c (b.take h):=by simp
 rw [<- hY,<- hX] at hri
 have hS:((((if 10<(m:Int) then 10 else (m:Int)).toNat-0:Nat):Int)-(q:Int)+n).toNat-((if 10<(m:Int) then 10 else (m:Int)).toNat-0-q)=nn:=by rw [hX];omega
 have hZ:List.take (nn*1) (List.drop (((if 10<(m:Int) then 10 else (m:Int)).toNat-0-q)*1) (u8c b))=u8c ((b.drop j).take nn):=by rw [hX,hj];simp
 rw [<- hZ,<- hS] at hre
 rw [<- hZ,<- hS] at hky
 have hcl:(u8c ch).length=32:=by rw [aK,hch]
 have hwl:((b.drop (j+nn)).take 32).length=32:=by rw [Ao,A4];omega
 have hdl:(u8c d).length=32:=by rw [aK,hd]
 have hW:List.take 32 (List.drop 0 (List.take (((((((if 10<(m:Int) then 10 else (m:Int)).toNat-0:Nat):Int)-(q:Int)+n+32).toNat-((((if 10<(m:Int) then 10 else (m:Int)).toNat-0:Nat):Int)-(q:Int)+n).toNat))*1) (List.drop (((((if 10<(m:Int) then 10 else (m:Int)).toNat-0:Nat):Int)-(q:Int)+n).toNat*1) (u8c b))))=u8c ((b.drop (j+nn)).take 32):=by
  rw [hX,show ((h:Int)-(q:Int)+n+32).toNat-((h:Int)-(q:Int)+n).toNat=32 from by omega,show ((h:Int)-(q:Int)+n).toNat=j+nn from by omega]
  simp only [Bj,A5,bZ,bY]
  rw [Co,Nat.min_self]
 have hul:(u8c ((b.drop (j+nn)).take 32)).length=32:=by rw [aK];exact hwl
 dsimp only [ecs,en0,lk0,hd0,nB,rq0,Vl.nul] at *
 refine jT aB (sz:=91) Tryz.func61 rfl qY ?_
 repeat' (first|(refine aC ?_;intro K hK hX)|refine bE [0,1,3,4,5,6,7,8,9,10,11,12,13,14,15,16,17] ?_|((with_reducible refine aX ?_);refine yA ?_;refine bL (aW (T:=49) aB rfl rfl rfl) rfl ?_)|((with_reducible refine cD0 ?_);refine xD ?_;refine aI (dI4 aB rfl rfl rfl aA aA) ?_)|(refine dU ?_;first|refine c0 hri ?_|refine c0 hre ?_|refine c0 hky ?_)|((first|((with_reducible refine bU ?_);refine xA ?_)|((with_reducible refine cR ?_);refine xD ?_));(first|((with_reducible refine bR ?_);(first|refine aI (cI8 aB aM rfl rfl rfl rfl rfl rfl rfl rfl rfl hd hwl (show (!decide (d=(b.drop (j+nn)).take 32))=true from by rw [Bg hne];first|done|rfl)) ?_))))|refine fG ?_|refine stA ?_|refine stD ?_|(refine aE hK hX ?_;clear hK hX K)|fail)
 exact xT
theorem eC3 (n:Int) (hn64:aS n) (rb:Db) (q:Nat) (hrb:rb.length=q) (j:Nat) (hj:h-q=j) (hqh:q<=h) (hri:qC' 120 [.sl 1 h (u8c (b.take h))] (.tup [.c (iv n),.c (.sl 1 q (u8c rb)),.c (iv 0)]) [] 0) (nn:Nat) (hnn:n=nn) (h2:j+nn+32<=m) (cs:Dr) (hcs:cs.length=65) (rc:Dr) (hre:qC' 77 [.sl 1 nn (u8c ((b.drop j).take nn))] (.tup [.c (.agg cs),.c (.sl 1 0 rc),.c (iv 0)]) [] 0) (d:Db) (hd:d.length=32) (hky:qC' 78 [wv 330#64,.agg (u8c ch),.sl 1 nn (u8c ((b.drop j).take nn))] (.c (.agg (u8c d))) [] 0) (k:Nat) (hk:j+nn+32=k) (heq:d=(b.drop (j+nn)).take 32):qC' 61 [.sl 1 m (u8c b),.agg (u8c ch)] (.tup [.c (.agg cs),.c (.agg (u8c d)),.c (iv k),.c (bv true)]) [] 0:=by
 have hX:(if 10<(m:Int) then 10 else (m:Int)).toNat-0=h:=by split<;>omega
 have hY:List.take (h*1) (List.drop (0*1) (u8c b))=u8c (b.take h):=by simp
 rw [<- hY,<- hX] at hri
 have hS:((((if 10<(m:Int) then 10 else (m:Int)).toNat-0:Nat):Int)-(q:Int)+n).toNat-((if 10<(m:Int) then 10 else (m:Int)).toNat-0-q)=nn:=by rw [hX];omega
 have hZ:List.take (nn*1) (List.drop (((if 10<(m:Int) then 10 else (m:Int)).toNat-0-q)*1) (u8c b))=u8c ((b.drop j).take nn):=by rw [hX,hj];simp
 rw [<- hZ,<- hS] at hre
 rw [<- hZ,<- hS] at hky
 have hcl:(u8c ch).length=32:=by rw [aK,hch]
 have hwl:((b.drop (j+nn)).take 32).length=32:=by rw [Ao,A4];omega
 have hdl:(u8c d).length=32:=by rw [aK,hd]
 have hW:List.take 32 (List.drop 0 (List.take (((((((if 10<(m:Int) then 10 else (m:Int)).toNat-0:Nat):Int)-(q:Int)+n+32).toNat-((((if 10<(m:Int) then 10 else (m:Int)).toNat-0:Nat):Int)-(q:Int)+n).toNat))*1) (List.drop (((((if 10<(m:Int) then 10 else (m:Int)).toNat-0:Nat):Int)-(q:Int)+n).toNat*1) (u8c b))))=u8c ((b.drop (j+nn)).take 32):=by
  rw [hX,show ((h:Int)-(q:Int)+n+32).toNat-((h:Int)-(q:Int)+n).toNat=32 from by omega,show ((h:Int)-(q:Int)+n).toNat=j+nn from by omega]
  simp only [Bj,A5,bZ,bY]
  rw [Co,Nat.min_self]
 have hul:(u8c ((b.drop (j+nn)).take 32)).length=32:=by rw [aK];exact hwl
 refine jT aB (sz:=91) Tryz.func61 rfl qY ?_
 repeat' (first|(refine aC ?_;intro K hK hX)|refine aJ [0,1,3,4,5,6,7,8,9,10,11,12,13,14,15,16,17] ?_|((with_reducible refine bB (i:=16) ?_);refine aY [0,1,3,4,5,6,7,8,9,10,11,12,13,14,15,16,17] rfl rfl ?_;refine dG [] ?_)|((with_reducible refine bB ?_);refine aY [0,1,3,4,5,6,7,8,9,10,11,12,13,14,15,16,17] rfl rfl ?_;refine dE [] ?_)|((with_reducible refine aX ?_);refine yA ?_;refine bL (aW (T:=49) aB rfl rfl rfl) rfl ?_)|((with_reducible refine cD0 ?_);refine xD ?_;refine aI (dI4 aB rfl rfl rfl aA aA) ?_)|(refine eZ ?_;first|refine c0 hri ?_|refine c0 hre ?_|refine c0 hky ?_)|((first|((with_reducible refine bU ?_);refine xA ?_)|((with_reducible refine cR ?_);refine xD ?_)|((with_reducible refine lU ?_);refine xE ?_));(first|((with_reducible refine bR ?_);(first|refine aI (cI8 aB aM rfl rfl rfl rfl rfl rfl rfl rfl rfl hd hwl (show (!decide (d=(b.drop (j+nn)).take 32))=false from by rw [AT heq];first|done|rfl)) ?_))))|refine gQ ?_|refine stA ?_|refine stD ?_|refine stE ?_|(refine aE hK hX ?_;clear hK hX K)|fail)
 exact xT
end
end Go.Proofs.YtbgehdndimlgkaaGreat
