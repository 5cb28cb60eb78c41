import Derived.Test.YtcelliafjmmldaaGreatTF
import Derived.Test.YtcelliafjmmldaaGreatCV
namespace Go.Ab.M
open Go.Proofs
set_option linter.unusedVariables false
set_option maxRecDepth 100000
structure TOp where
 Code:Int
 A_:Int
 B_:Int
 Exp:Int
 Num:Rat
 deriving DecidableEq,Inhabited
abbrev TOp.D (x:TOp):List D:=[.v (.int .i64 x.Code)]++[.v (.int .i64 x.A_)]++[.v (.int .i64 x.B_)]++[.v (.int .i64 x.Exp)]++Rat.D x.Num
structure Tape where
 Ins:Int
 Ops:List TOp
 aB:List Int
 deriving DecidableEq,Inhabited
abbrev Tape.D (x:Tape):List D:=[.v (.int .i64 x.Ins),.sl (x.Ops.map TOp.D),.sl (x.aB.map (cI .i64))]
def wE (tA:Tape) (i:List Int) (i1:Nat):St:=⟨85,0,[(1,.ptr 10 0 0),(4,dw 100018 i),(38,I tA.Ins),(39,I ((i1:Nat):Int))],[(10,BOX [I tA.Ins,SL TOp.D tA.Ops,SL (cI .i64) tA.aB]),(100018,dO 1 (cI .i64) i)]⟩
def wH (tA:Tape) (i:List Int):St:=⟨85,0,[(1,.ptr 10 0 0),(4,dw 100018 i)],[(10,BOX [I tA.Ins,SL TOp.D tA.Ops,SL (cI .i64) tA.aB]),(100018,dO 1 (cI .i64) i)]⟩
def lC (tA:Tape) (i:List Int) (i1:Nat):Option ((List Int×Nat)⊕(List Int)):=
 bif decide (((i1:Nat):Int)<tA.Ins) then
 bif decide (i.length+1≤2147483648) then
 bif inK .i64 (((i1:Nat):Int)+1) then
 some (.inl (i++[1],i1+1))
 else none
 else none
 else
 some (.inr i)
theorem Pq (tA:Tape):∀σ:List Int×Nat,aP Tryz.prog (nav [1,1,1,0,1,0,0] (ah Tryz.f174)) (fun (σ:List Int×Nat)=>wE tA σ.1 σ.2) (fun (_:List Int)=>(.exit 0)) (fun (y:List Int)=>wH tA y) σ (lC tA σ.1 σ.2)
 | ([],i1)=>aJ 1010 (.br 100000040 (.op 60004 (.ap (cI .i64) [] [1] 1 fun _=>⟨rfl,rfl⟩) (.ps 1000003 [.k [1,4,38,39] [10,1011],.m 1011 100018] (.ret (.inl ([1],i1+1))))) (.ps 1000003 [.k [1,4] [10,100018]] (.ret (.inr [])))) (by kernel_rfl)
 | (i_h::i_t,i1)=>aJ 1010 (.br 100000040 (.op 60004 (.ap (cI .i64) (i_h::i_t) [1] 1 fun _=>⟨rfl,rfl⟩) (.ps 1000003 [.k [1,4,38,39] [10,1011],.m 1011 100018] (.ret (.inl ((i_h::i_t)++[1],i1+1))))) (.ps 1000003 [.k [1,4] [10,100018]] (.ret (.inr (i_h::i_t))))) (by kernel_rfl)
def vZ (tA:Tape) (i:List Int) (i1:Nat):Option (List Int):=aI (fun (σ:List Int×Nat)=>lC tA σ.1 σ.2) FU (i,i1)
theorem Oc (tA:Tape) (i:List Int) (i1:Nat):∀y:List Int,vZ tA i i1=some y→Runs Tryz.prog (.loop (nav [1,1,1,0,1,0,0] (ah Tryz.f174))) (wE tA i i1) ((.exit 0)) ((fun (y:List Int)=>wH tA y) y):=
 bf (head:=fun (σ:List Int×Nat)=>wE tA σ.1 σ.2) (eo:=fun (_:List Int)=>(.exit 0)) (so:=fun (y:List Int)=>wH tA y) (Pq tA) (fun _ h=>by cases h) FU (i,i1)
def XK:ByteArray:=⟨#[]⟩
def zS (a1:List Int) (out:List Int):St:=⟨32,0,[(0,SL (cI .u32) a1),(3,dw 100019 out)],[(100019,dO 1 (cI .u8) out)]⟩
def Au (out:List Int):St:=⟨32,0,[(3,dw 100019 out)],[(100019,dO 1 (cI .u8) out)]⟩
def bY (a1:List Int) (out:List Int):Option ((List Int×List Int)⊕(List Int)):=
 (lF a1).bind fun x0=>
 bif decide (x0>0) then
 (nU a1 10).bind fun x1=>
 bif decide (out.length+1≤2147483648) then
 some (.inl (x1.1,out++[IntKind.wrap .u8 (IntKind.wrap .u32 (48+x1.2.1))]))
 else none
 else
 bif ((out.length:Nat):Int)==0 then
 (nU a1 10).bind fun x1=>
 bif decide (out.length+1≤2147483648) then
 some (.inl (x1.1,out++[IntKind.wrap .u8 (IntKind.wrap .u32 (48+x1.2.1))]))
 else none
 else
 some (.inr out)
theorem Tv:∀σ:List Int×List Int,aP Tryz.prog (nav [1,1,0,0,0] (ah Tryz.f314)) (fun (σ:List Int×List Int)=>zS σ.1 σ.2) (fun (_:List Int)=>(.exit 0)) (fun (y:List Int)=>Au y) σ (bY σ.1 σ.2)
 | (a1,[])=>aJ 1010 (.call [] [] (uH a1) .no fun x0=>.br 20008 (.call [] [] (qc a1 10) .no fun x1=>.op 40006 .wr (.op 40010 (.ap (cI .u8) [] [IntKind.wrap .u8 (IntKind.wrap .u32 (48+x1.2.1))] 1 fun _=>⟨rfl,rfl⟩) (.ps 1000003 [.k [0,3] [1011],.m 1011 100019] (.ret (.inl (x1.1,[IntKind.wrap .u8 (IntKind.wrap .u32 (48+x1.2.1))])))))) (.call [] [] (qc a1 10) .no fun x1=>.op 40006 .wr (.op 40010 (.ap (cI .u8) [] [IntKind.wrap .u8 (IntKind.wrap .u32 (48+x1.2.1))] 1 fun _=>⟨rfl,rfl⟩) (.ps 1000003 [.k [0,3] [1011],.m 1011 100019] (.ret (.inl (x1.1,[IntKind.wrap .u8 (IntKind.wrap .u32 (48+x1.2.1))]))))))) (by kernel_rfl)
 | (a1,fA::fB)=>aJ 1010 (.call [] [] (uH a1) .no fun x0=>.br 20008 (.call [] [] (qc a1 10) .no fun x1=>.op 40006 .wr (.op 40010 (.ap (cI .u8) (fA::fB) [IntKind.wrap .u8 (IntKind.wrap .u32 (48+x1.2.1))] 1 fun _=>⟨rfl,rfl⟩) (.ps 1000003 [.k [0,3] [1011],.m 1011 100019] (.ret (.inl (x1.1,(fA::fB)++[IntKind.wrap .u8 (IntKind.wrap .u32 (48+x1.2.1))])))))) (.op 20010 (.ln (cI .u8) (fA::fB)) (.br 100000014 (.call [] [] (qc a1 10) .no fun x1=>.op 40006 .wr (.op 40010 (.ap (cI .u8) (fA::fB) [IntKind.wrap .u8 (IntKind.wrap .u32 (48+x1.2.1))] 1 fun _=>⟨rfl,rfl⟩) (.ps 1000003 [.k [0,3] [1011],.m 1011 100019] (.ret (.inl (x1.1,(fA::fB)++[IntKind.wrap .u8 (IntKind.wrap .u32 (48+x1.2.1))])))))) (.ps 1000003 [.k [3] [100019]] (.ret (.inr (fA::fB))))))) (by kernel_rfl)
def H9 (a1:List Int) (out:List Int):Option (List Int):=aI (fun (σ:List Int×List Int)=>bY σ.1 σ.2) FU (a1,out)
theorem TL (a1:List Int) (out:List Int):∀y:List Int,H9 a1 out=some y→Runs Tryz.prog (.loop (nav [1,1,0,0,0] (ah Tryz.f314))) (zS a1 out) ((.exit 0)) ((fun (y:List Int)=>Au y) y):=
 bf (head:=fun (σ:List Int×List Int)=>zS σ.1 σ.2) (eo:=fun (_:List Int)=>(.exit 0)) (so:=fun (y:List Int)=>Au y) (Tv) (fun _ h=>by cases h) FU (a1,out)
def jd:St:=⟨28,0,[(0,SL (cI .u8) ([]:List Int)),(2,I 0),(3,I (((([]:List Int).length:Nat):Int)-1))],[]⟩
def jc:St:=⟨28,0,[],[]⟩
def nT:Option (Unit⊕Unit):=
 bif decide (0<(((([]:List Int).length:Nat):Int)-1)) then
 bif decide (0≤((([]:List Int).length:Nat):Int)-1) then
 bif decide ((((([]:List Int).length:Nat):Int)-1).toNat<([]:List Int).length) then
 bif decide (0<([]:List Int).length) then
 bif decide (0<([]:List Int).length) then
 none
 else none
 else none
 else none
 else none
 else
 some (.inr ())
theorem yY:∀σ:Unit,aP Tryz.prog (nav [1,0,0] (ah Tryz.f316)) (fun (σ:Unit)=>jd) (fun (_:Unit)=>(.exit 0)) (fun (y:Unit)=>jc) σ (nT)
 | ()=>aJ 1010 (.br 100000009 (.op 30012 (.el (cI .u8) ([]:List Int) .dn) (.op 30020 (.el (cI .u8) ([]:List Int) (.up 0)) (.op 30024 (.el (cI .u8) ([]:List Int) (.up 0)) .nil))) (.ps 1000003 [.k [] []] (.ret (.inr ())))) (by kernel_rfl)
def qp:Option Unit:=aI (fun (σ:Unit)=>nT) FU ()
theorem zB:∀y:Unit,qp=some y→Runs Tryz.prog (.loop (nav [1,0,0] (ah Tryz.f316))) (jd) ((.exit 0)) ((fun (y:Unit)=>jc) y):=
 bf (head:=fun (σ:Unit)=>jd) (eo:=fun (_:Unit)=>(.exit 0)) (so:=fun (y:Unit)=>jc) (yY) (fun _ h=>by cases h) FU ()
def sO:Option Unit:=
 bif inK .i64 (((([]:List Int).length:Nat):Int)-1) then
 (qp).bind fun x0=>
 some ()
 else none
theorem BN:∀r,sO=some r→aj Tryz.prog 316 0 [SL (cI .u8) ([]:List Int)] [] (.tup []) []:=
 au (enc:=fun r=>.tup []) (aQ:=fun r=>[]) 10 (.op 2 (.ln (cI .u8) ([]:List Int)) (.ps 1000001 [.k [0,2,3] []] (.lp1 0 (zB) fun x0=>.ret ()))) Tryz.func316 (by kernel_rfl) (by kernel_rfl) (by kernel_rfl)
def iD (i:Nat) (j:Int) (s:List Int):St:=⟨28,1,[(0,.msl 0 0 none none),(2,I ((i:Nat):Int)),(3,I j)],[(0,ROW 1 (cI .u8) s 0)]⟩
def iC (o:List Int):St:=⟨28,1,[],[(0,ROW 1 (cI .u8) o 0)]⟩
def dh (i:Nat) (j:Int) (s:List Int):Option ((Nat×Int×List Int)⊕(List Int)):=
 bif decide (((i:Nat):Int)<j) then
 bif decide (0≤j) then
 bif decide (j.toNat<s.length) then
 bif decide (j.toNat<s.length) then
 bif decide (i<s.length) then
 bif decide (i<s.length) then
 bif decide (i<s.length) then
 bif decide (i<s.length) then
 bif decide (0≤j) then
 bif decide (j.toNat<(s.set i (nth s j.toNat)).length) then
 bif decide (j.toNat<(s.set i (nth s j.toNat)).length) then
 bif inK .i64 (((i:Nat):Int)+1) then
 bif inK .i64 (j-1) then
 some (.inl (i+1,j-1,(s.set i (nth s j.toNat)).set j.toNat (nth s i)))
 else none
 else none
 else none
 else none
 else none
 else none
 else none
 else none
 else none
 else none
 else none
 else none
 else
 some (.inr s)
theorem wS:∀σ:Nat×Int×List Int,aP Tryz.prog (nav [1,0,0] (ah Tryz.f316)) (fun (σ:Nat×Int×List Int)=>iD σ.1 σ.2.1 σ.2.2) (fun (_:List Int)=>(.exit 0)) (fun (y:List Int)=>iC y) σ (dh σ.1 σ.2.1 σ.2.2)
 | (i,j,s)=>aJ 1010 (.br 100000009 (.op 30012 (.el (cI .u8) s .dn) (.op 30014 (.ld (cI .u8) s) (.op 30020 (.el (cI .u8) s (.up i)) (.op 30022 (.ld (cI .u8) s) (.op 30024 (.el (cI .u8) s (.up i)) (.op 30026 (.st (cI .u8) s (nth s j.toNat)) (.op 30028 (.el (cI .u8) (s.set i (nth s j.toNat)) .dn) (.op 30030 (.st (cI .u8) (s.set i (nth s j.toNat)) (nth s i)) (.ps 1000003 [.k [0,2,3] [0]] (.ret (.inl (i+1,j-1,(s.set i (nth s j.toNat)).set j.toNat (nth s i))))))))))))) (.ps 1000003 [.k [] [0]] (.ret (.inr s)))) (by kernel_rfl)
def fK (i:Nat) (j:Int) (s:List Int):Option (List Int):=aI (fun (σ:Nat×Int×List Int)=>dh σ.1 σ.2.1 σ.2.2) FU (i,j,s)
theorem wR (i:Nat) (j:Int) (s:List Int):∀y:List Int,fK i j s=some y→Runs Tryz.prog (.loop (nav [1,0,0] (ah Tryz.f316))) (iD i j s) ((.exit 0)) ((fun (y:List Int)=>iC y) y):=
 bf (head:=fun (σ:Nat×Int×List Int)=>iD σ.1 σ.2.1 σ.2.2) (eo:=fun (_:List Int)=>(.exit 0)) (so:=fun (y:List Int)=>iC y) (wS) (fun _ h=>by cases h) FU (i,j,s)
def gy (o0:List Int):Option (List Int):=
 bif inK .i64 (((o0.length:Nat):Int)-1) then
 (fK 0 (((o0.length:Nat):Int)-1) o0).bind fun x0=>
 some x0
 else none
theorem zD (o0:List Int):∀r,gy o0=some r→aj Tryz.prog 316 1 [.msl 0 0 none none] [(0,ROW 1 (cI .u8) o0 0)] (.tup []) [(0,ROW 1 (cI .u8) r 0)]:=
 au (enc:=fun r=>.tup []) (aQ:=fun r=>[(0,ROW 1 (cI .u8) r 0)]) 10 (.op 2 (.ln (cI .u8) o0) (.ps 1000001 [.k [0,2,3] [0]] (.lp1 0 (wR 0 (((o0.length:Nat):Int)-1) o0) fun x0=>.ret x0))) Tryz.func316 (by kernel_rfl) (by kernel_rfl) (by kernel_rfl)
def ND (a:List Int):Option ByteArray:=
 (H9 a []).bind fun x0=>
 bif x0.isEmpty then
 (sO).bind fun x1=>
 some (strOfNums ([]:List Int))
 else
 (gy x0).bind fun x1=>
 some (strOfNums x1)
theorem Xf (a:List Int):∀r,ND a=some r→aj Tryz.prog 314 0 [SL (cI .u32) a] [] (SX r) []:=
 au (enc:=fun r=>SX r) (aQ:=fun r=>[]) 10 (.ps 1000001 [.k [0,3] [100019]] (.lp1 0 (TL a []) fun x0=>.cl 1 3 100019 1 (cI .u8) x0 (.ps 1 [.k [3] []] (.call [] [] (BN) .no fun x1=>.ps 12 [.n 3] (.op 70002 (.bs ([]:List Int)) (.ret (strOfNums ([]:List Int)))))) (.ps 1 [.k [3] [100019]] (.call [100019] [] (zD x0) .no fun x1=>.op 70002 (.bs x1) (.ret (strOfNums x1)))))) Tryz.func314 (by kernel_rfl) (by kernel_rfl) (by kernel_rfl)
def qF (a:List Int):Option Int:=
 (ND a).bind fun x0=>
 some ((x0.size:Nat):Int)
theorem Jl (a:List Int):∀r,qF a=some r→aj Tryz.prog 307 0 [SL (cI .u32) a] [] (I r) []:=
 au (enc:=fun r=>I r) (aQ:=fun r=>[]) 10 (.call [] [] (Xf a) .no fun x0=>.ret ((x0.size:Nat):Int)) Tryz.func307 (by kernel_rfl) (by kernel_rfl) (by kernel_rfl)
def yP (x:Rat):Option Bool:=
 (uY x).bind fun x0=>
 bif x0 then
 (qF x.Num).bind fun x1=>
 bif decide (x1≤40) then
 (qF x.Den).bind fun x2=>
 some (decide (x2≤40))
 else
 some false
 else
 some false
theorem Rl (x:Rat):∀r,yP x=some r→aj Tryz.prog 283 0 [AG Rat.D x] [] (B r) []:=
 au (enc:=fun r=>B r) (aQ:=fun r=>[]) 10 (.call [] [] (JV x) .no fun x0=>.br 10006 (.call [] [] (Jl x.Num) .no fun x1=>.br 10018 (.call [] [] (Jl x.Den) .no fun x2=>.ret (decide (x2≤40))) (.ret false)) (.ret false)) Tryz.func283 (by kernel_rfl) (by kernel_rfl) (by kernel_rfl)
def qx (x:Rat):Option Bool:=
 bif !x.Neg then
 bif ((x.Num.length:Nat):Int)==0 then
 some (((x.Den.length:Nat):Int)==0)
 else
 some false
 else
 some false
theorem lZ (x:Rat):∀r,qx x=some r→aj Tryz.prog 284 0 [AG Rat.D x] [] (B r) []:=
 au (enc:=fun r=>B r) (aQ:=fun r=>[]) 10 (.br 10008 (.op 10012 (.ln (cI .u32) x.Num) (.br 10020 (.op 10024 (.ln (cI .u32) x.Den) (.ret (((x.Den.length:Nat):Int)==0))) (.ret false))) (.ret false)) Tryz.func284 (by kernel_rfl) (by kernel_rfl) (by kernel_rfl)
def zy (o:TOp):Option Bool:=
 bif o.Code==1 then
 (yP o.Num).bind fun x0=>
 bif !x0 then
 some false
 else
 bif o.A_ != 0 then
 some false
 else
 bif o.B_ != 0 then
 some false
 else
 bif o.Exp != 0 then
 some false
 else
 (qx (Rat.mk false [] [])).bind fun x1=>
 bif x1 then
 bif decide (o.Exp≥(-20)) then
 bif decide (o.Exp≤20) then
 bif o.Code != 7 then
 some true
 else
 some (o.B_==0)
 else
 some false
 else
 some false
 else
 some false
 else
 bif o.Code==6 then
 bif o.B_ != 0 then
 some false
 else
 bif o.Exp != 0 then
 some false
 else
 (qx o.Num).bind fun x0=>
 bif x0 then
 bif decide (o.Exp≥(-20)) then
 bif decide (o.Exp≤20) then
 bif o.Code != 7 then
 some true
 else
 some (o.B_==0)
 else
 some false
 else
 some false
 else
 some false
 else
 bif o.Code==2 then
 bif o.Exp != 0 then
 some false
 else
 (qx o.Num).bind fun x0=>
 bif x0 then
 bif decide (o.Exp≥(-20)) then
 bif decide (o.Exp≤20) then
 bif o.Code != 7 then
 some true
 else
 some (o.B_==0)
 else
 some false
 else
 some false
 else
 some false
 else
 bif o.Code==3 then
 bif o.Exp != 0 then
 some false
 else
 (qx o.Num).bind fun x0=>
 bif x0 then
 bif decide (o.Exp≥(-20)) then
 bif decide (o.Exp≤20) then
 bif o.Code != 7 then
 some true
 else
 some (o.B_==0)
 else
 some false
 else
 some false
 else
 some false
 else
 bif o.Code==4 then
 bif o.Exp != 0 then
 some false
 else
 (qx o.Num).bind fun x0=>
 bif x0 then
 bif decide (o.Exp≥(-20)) then
 bif decide (o.Exp≤20) then
 bif o.Code != 7 then
 some true
 else
 some (o.B_==0)
 else
 some false
 else
 some false
 else
 some false
 else
 bif o.Code==5 then
 bif o.Exp != 0 then
 some false
 else
 (qx o.Num).bind fun x0=>
 bif x0 then
 bif decide (o.Exp≥(-20)) then
 bif decide (o.Exp≤20) then
 bif o.Code != 7 then
 some true
 else
 some (o.B_==0)
 else
 some false
 else
 some false
 else
 some false
 else
 bif o.Code==7 then
 (qx o.Num).bind fun x0=>
 bif x0 then
 bif decide (o.Exp≥(-20)) then
 bif decide (o.Exp≤20) then
 bif o.Code != 7 then
 some true
 else
 some (o.B_==0)
 else
 some false
 else
 some false
 else
 some false
 else
 some false
theorem KG (o:TOp):∀r,zy o=some r→aj Tryz.prog 234 0 [AG TOp.D o] [] (B r) []:=
 au (enc:=fun r=>B r) (aQ:=fun r=>[]) 10 (.br 100000005 (.call [] [] (Rl o.Num) .no fun x0=>.br 90010 (.ret false) (.br 100000024 (.ret false) (.br 100000029 (.ret false) (.br 100000032 (.ret false) (.call [] [] (lZ (Rat.mk false [] [])) .no fun x1=>.br 160008 (.br 160018 (.br 160028 (.br 160036 (.ret true) (.ret (o.B_==0))) (.ret false)) (.ret false)) (.ret false)))))) (.br 100000007 (.br 100000029 (.ret false) (.br 100000032 (.ret false) (.call [] [] (lZ o.Num) .no fun x0=>.br 160008 (.br 160018 (.br 160028 (.br 160036 (.ret true) (.ret (o.B_==0))) (.ret false)) (.ret false)) (.ret false)))) (.br 100000009 (.br 100000032 (.ret false) (.call [] [] (lZ o.Num) .no fun x0=>.br 160008 (.br 160018 (.br 160028 (.br 160036 (.ret true) (.ret (o.B_==0))) (.ret false)) (.ret false)) (.ret false))) (.br 100000009 (.br 100000032 (.ret false) (.call [] [] (lZ o.Num) .no fun x0=>.br 160008 (.br 160018 (.br 160028 (.br 160036 (.ret true) (.ret (o.B_==0))) (.ret false)) (.ret false)) (.ret false))) (.br 100000009 (.br 100000032 (.ret false) (.call [] [] (lZ o.Num) .no fun x0=>.br 160008 (.br 160018 (.br 160028 (.br 160036 (.ret true) (.ret (o.B_==0))) (.ret false)) (.ret false)) (.ret false))) (.br 100000009 (.br 100000032 (.ret false) (.call [] [] (lZ o.Num) .no fun x0=>.br 160008 (.br 160018 (.br 160028 (.br 160036 (.ret true) (.ret (o.B_==0))) (.ret false)) (.ret false)) (.ret false))) (.br 100000014 (.call [] [] (lZ o.Num) .no fun x0=>.br 160008 (.br 160018 (.br 160028 (.br 160036 (.ret true) (.ret (o.B_==0))) (.ret false)) (.ret false)) (.ret false)) (.ret false)))))))) Tryz.func234 (by kernel_rfl) (by kernel_rfl) (by kernel_rfl)
def Ot (n:Int):Option Int:=
 bif inK .i64 (0-n) then
 some (mxI n (0-n))
 else none
theorem aa9 (n:Int):∀r,Ot n=some r→aj Tryz.prog 285 0 [I n] [] (I r) []:=
 au (enc:=fun r=>I r) (aQ:=fun r=>[]) 10 (.ret (mxI n (0-n))) Tryz.func285 (by kernel_rfl) (by kernel_rfl) (by kernel_rfl)
def vg (o:TOp) (w:List Int):Option (Int×Bool):=
 bif o.Code==1 then
 some (1,true)
 else
 bif decide (o.A_<0) then
 some (0,false)
 else
 bif decide (o.A_≥((w.length:Nat):Int)) then
 some (0,false)
 else
 bif decide (o.B_<0) then
 some (0,false)
 else
 bif decide (o.B_≥((w.length:Nat):Int)) then
 some (0,false)
 else
 bif decide (0≤o.A_) then
 bif decide (o.A_.toNat<w.length) then
 bif o.Code==2 then
 bif decide (0≤o.B_) then
 bif decide (o.B_.toNat<w.length) then
 bif inK .i64 ((nth w o.A_.toNat)+(nth w o.B_.toNat)) then
 some ((nth w o.A_.toNat)+(nth w o.B_.toNat),decide (((nth w o.A_.toNat)+(nth w o.B_.toNat))≤200))
 else none
 else none
 else none
 else
 bif o.Code==3 then
 bif decide (0≤o.B_) then
 bif decide (o.B_.toNat<w.length) then
 bif inK .i64 ((nth w o.A_.toNat)+(nth w o.B_.toNat)) then
 some ((nth w o.A_.toNat)+(nth w o.B_.toNat),decide (((nth w o.A_.toNat)+(nth w o.B_.toNat))≤200))
 else none
 else none
 else none
 else
 bif o.Code==4 then
 bif decide (0≤o.B_) then
 bif decide (o.B_.toNat<w.length) then
 bif inK .i64 ((nth w o.A_.toNat)+(nth w o.B_.toNat)) then
 some ((nth w o.A_.toNat)+(nth w o.B_.toNat),decide (((nth w o.A_.toNat)+(nth w o.B_.toNat))≤200))
 else none
 else none
 else none
 else
 bif o.Code==5 then
 bif decide (0≤o.B_) then
 bif decide (o.B_.toNat<w.length) then
 bif inK .i64 ((nth w o.A_.toNat)+(nth w o.B_.toNat)) then
 some ((nth w o.A_.toNat)+(nth w o.B_.toNat),decide (((nth w o.A_.toNat)+(nth w o.B_.toNat))≤200))
 else none
 else none
 else none
 else
 bif o.Code==7 then
 (Ot o.Exp).bind fun x0=>
 bif inK .i64 ((nth w o.A_.toNat)*(mxI 1 x0)) then
 some ((nth w o.A_.toNat)*(mxI 1 x0),decide (((nth w o.A_.toNat)*(mxI 1 x0))≤200))
 else none
 else
 some (nth w o.A_.toNat,decide ((nth w o.A_.toNat)≤200))
 else none
 else none
theorem Jy (o:TOp) (w:List Int):∀r,vg o w=some r→aj Tryz.prog 235 0 [AG TOp.D o,SL (cI .i64) w] [] (.tup [I r.1,B r.2]) []:=
 au (enc:=fun r=>.tup [I r.1,B r.2]) (aQ:=fun r=>[]) 10 (.br 100000009 (.ret (1,true)) (.br 30008 (.ret (0,false)) (.op 30014 (.ln (cI .i64) w) (.br 30022 (.ret (0,false)) (.br 30032 (.ret (0,false)) (.op 30038 (.ln (cI .i64) w) (.br 100000031 (.ret (0,false)) (.op 50006 (.el (cI .i64) w .dn) (.br 100000039 (.op 110008 (.el (cI .i64) w .dn) (.ret ((nth w o.A_.toNat)+(nth w o.B_.toNat),decide (((nth w o.A_.toNat)+(nth w o.B_.toNat))≤200)))) (.br 100000039 (.op 110008 (.el (cI .i64) w .dn) (.ret ((nth w o.A_.toNat)+(nth w o.B_.toNat),decide (((nth w o.A_.toNat)+(nth w o.B_.toNat))≤200)))) (.br 100000039 (.op 110008 (.el (cI .i64) w .dn) (.ret ((nth w o.A_.toNat)+(nth w o.B_.toNat),decide (((nth w o.A_.toNat)+(nth w o.B_.toNat))≤200)))) (.br 100000039 (.op 110008 (.el (cI .i64) w .dn) (.ret ((nth w o.A_.toNat)+(nth w o.B_.toNat),decide (((nth w o.A_.toNat)+(nth w o.B_.toNat))≤200)))) (.br 100000051 (.call [] [] (aa9 o.Exp) .no fun x0=>.ret ((nth w o.A_.toNat)*(mxI 1 x0),decide (((nth w o.A_.toNat)*(mxI 1 x0))≤200))) (.ret (nth w o.A_.toNat,decide ((nth w o.A_.toNat)≤200)))))))))))))))) Tryz.func235 (by kernel_rfl) (by kernel_rfl) (by kernel_rfl)
def rZ (tA:Tape) (i:List Int) (i1:Nat):St:=⟨85,0,[(1,.ptr 10 0 0),(4,dw 100018 i),(46,SL TOp.D tA.Ops),(47,I ((tA.Ops.length:Nat):Int)),(48,I ((i1:Nat):Int))],[(10,BOX [I tA.Ins,SL TOp.D tA.Ops,SL (cI .i64) tA.aB]),(100018,dO 1 (cI .i64) i)]⟩
def rM (tA:Tape):St:=⟨85,0,[(2,fJ),(3,B false)],[]⟩
def rW (tA:Tape) (i:List Int):St:=⟨85,0,[(1,.ptr 10 0 0),(4,dw 100018 i)],[(10,BOX [I tA.Ins,SL TOp.D tA.Ops,SL (cI .i64) tA.aB]),(100018,dO 1 (cI .i64) i)]⟩
def jw (tA:Tape) (i:List Int) (i1:Nat):Option ((List Int×Nat)⊕(Unit⊕(List Int))):=
 bif decide (((i1:Nat):Int)<((tA.Ops.length:Nat):Int)) then
 bif decide (i1<tA.Ops.length) then
 (zy (nth tA.Ops i1)).bind fun x1=>
 bif !x1 then
 some (.inr (.inl ()))
 else
 (vg (nth tA.Ops i1) i).bind fun x2=>
 bif !x2.2 then
 some (.inr (.inl ()))
 else
 bif decide (i.length+1≤2147483648) then
 bif inK .i64 (((i1:Nat):Int)+1) then
 some (.inl (i++[x2.1],i1+1))
 else none
 else none
 else none
 else
 some (.inr (.inr i))
theorem LV (tA:Tape):∀σ:List Int×Nat,aP Tryz.prog (nav [1,1,1,1,0,1,0,0] (ah Tryz.f174)) (fun (σ:List Int×Nat)=>rZ tA σ.1 σ.2) (fun (y:Unit⊕(List Int))=>aK y (fun _=>.ret) (fun _=>(.exit 2))) (fun (y:Unit⊕(List Int))=>aK y (fun y=>rM tA) (fun y=>rW tA y)) σ (jw tA σ.1 σ.2)
 | ([],i1)=>aJ 1010 (.br 100000049 (.op 100000 (.el TOp.D tA.Ops (.up i1)) (.call [] [] (KG (nth tA.Ops i1)) .no fun x1=>.br 100000054 (.ps 1000003 [.k [2,3] []] (.ret (.inr (.inl ())))) (.call [] [] (Jy (nth tA.Ops i1) []) .no fun x2=>.br 100000062 (.ps 1000003 [.k [2,3] []] (.ret (.inr (.inl ())))) (.op 160006 (.ap (cI .i64) [] [x2.1] 1 fun _=>⟨rfl,rfl⟩) (.ps 1000003 [.k [1,4,46,47,48] [10,1012],.m 1012 100018] (.ret (.inl ([x2.1],i1+1)))))))) (.ps 1000003 [.k [1,4] [10,100018]] (.ret (.inr (.inr []))))) (by kernel_rfl)
 | (i_h::i_t,i1)=>aJ 1010 (.br 100000049 (.op 100000 (.el TOp.D tA.Ops (.up i1)) (.call [] [] (KG (nth tA.Ops i1)) .no fun x1=>.br 100000054 (.ps 1000003 [.k [2,3] []] (.ret (.inr (.inl ())))) (.call [] [] (Jy (nth tA.Ops i1) (i_h::i_t)) (.yes fun _=>⟨rfl,trivial⟩) fun x2=>.br 100000062 (.ps 1000003 [.k [2,3] []] (.ret (.inr (.inl ())))) (.op 160006 (.ap (cI .i64) (i_h::i_t) [x2.1] 1 fun _=>⟨rfl,rfl⟩) (.ps 1000003 [.k [1,4,46,47,48] [10,1012],.m 1012 100018] (.ret (.inl ((i_h::i_t)++[x2.1],i1+1)))))))) (.ps 1000003 [.k [1,4] [10,100018]] (.ret (.inr (.inr (i_h::i_t)))))) (by kernel_rfl)
def ni (tA:Tape) (i:List Int) (i1:Nat):Option (Unit⊕(List Int)):=aI (fun (σ:List Int×Nat)=>jw tA σ.1 σ.2) FU (i,i1)
theorem AP (tA:Tape) (i:List Int) (i1:Nat):∀y:Unit⊕(List Int),ni tA i i1=some y→Runs Tryz.prog (.loop (nav [1,1,1,1,0,1,0,0] (ah Tryz.f174))) (rZ tA i i1) (aK y (fun _=>.ret) (fun _=>(.exit 2))) ((fun (y:Unit⊕(List Int))=>aK y (fun y=>rM tA) (fun y=>rW tA y)) y):=
 bf (head:=fun (σ:List Int×Nat)=>rZ tA σ.1 σ.2) (eo:=fun (y:Unit⊕(List Int))=>aK y (fun _=>.ret) (fun _=>(.exit 2))) (so:=fun (y:Unit⊕(List Int))=>aK y (fun y=>rM tA) (fun y=>rW tA y)) (LV tA) (fun y h=>by rcases y with y | y<;>cases h) FU (i,i1)
def sF (tA:Tape) (x2:List Int) (i:Nat):St:=⟨85,0,[(4,SL (cI .i64) x2),(69,SL (cI .i64) tA.aB),(70,I ((tA.aB.length:Nat):Int)),(71,I ((i:Nat):Int))],[]⟩
def rO (tA:Tape) (x2:List Int):St:=⟨85,0,[(2,fJ),(3,B false)],[]⟩
def sH (tA:Tape) (x2:List Int):St:=⟨85,0,[(4,SL (cI .i64) x2)],[]⟩
def jr (tA:Tape) (x2:List Int) (i:Nat):Option (Nat⊕(Unit⊕Unit)):=
 bif decide (((i:Nat):Int)<((tA.aB.length:Nat):Int)) then
 bif decide (i<tA.aB.length) then
 bif decide ((nth tA.aB i)<0) then
 some (.inr (.inl ()))
 else
 bif decide ((nth tA.aB i)≥((x2.length:Nat):Int)) then
 some (.inr (.inl ()))
 else
 bif inK .i64 (((i:Nat):Int)+1) then
 some (.inl (i+1))
 else none
 else none
 else
 some (.inr (.inr ()))
theorem Md (tA:Tape) (x2:List Int):∀σ:Nat,aP Tryz.prog (nav [1,1,1,1,1,0,1,0,0] (ah Tryz.f174)) (fun (σ:Nat)=>sF tA x2 σ) (fun (y:Unit⊕Unit)=>aK y (fun _=>.ret) (fun _=>(.exit 4))) (fun (y:Unit⊕Unit)=>aK y (fun y=>rO tA x2) (fun y=>sH tA x2)) σ (jr tA x2 σ)
 | i=>aJ 1010 (.br 100000072 (.op 200000 (.el (cI .i64) tA.aB (.up i)) (.br 210006 (.ps 1000003 [.k [2,3] []] (.ret (.inr (.inl ())))) (.op 210010 (.ln (cI .i64) x2) (.br 100000082 (.ps 1000003 [.k [2,3] []] (.ret (.inr (.inl ())))) (.ps 1000003 [.k [4,69,70,71] []] (.ret (.inl (i+1)))))))) (.ps 1000003 [.k [4] []] (.ret (.inr (.inr ()))))) (by kernel_rfl)
def nK (tA:Tape) (x2:List Int) (i:Nat):Option (Unit⊕Unit):=aI (fun (σ:Nat)=>jr tA x2 σ) FU i
theorem AQ (tA:Tape) (x2:List Int) (i:Nat):∀y:Unit⊕Unit,nK tA x2 i=some y→Runs Tryz.prog (.loop (nav [1,1,1,1,1,0,1,0,0] (ah Tryz.f174))) (sF tA x2 i) (aK y (fun _=>.ret) (fun _=>(.exit 4))) ((fun (y:Unit⊕Unit)=>aK y (fun y=>rO tA x2) (fun y=>sH tA x2)) y):=
 bf (head:=fun (σ:Nat)=>sF tA x2 σ) (eo:=fun (y:Unit⊕Unit)=>aK y (fun _=>.ret) (fun _=>(.exit 4))) (so:=fun (y:Unit⊕Unit)=>aK y (fun y=>rO tA x2) (fun y=>sH tA x2)) (Md tA x2) (fun y h=>by rcases y with y | y<;>cases h) FU i
def BA (tA:Tape):Option (List Int×Bool):=
 bif decide (tA.Ins<1) then
 some ([],false)
 else
 bif decide (tA.Ins>40) then
 some ([],false)
 else
 bif decide (((tA.aB.length:Nat):Int)<1) then
 some ([],false)
 else
 bif decide (((tA.aB.length:Nat):Int)>40) then
 some ([],false)
 else
 bif decide (((tA.Ops.length:Nat):Int)>400) then
 some ([],false)
 else
 (vZ tA [] 0).bind fun x0=>
 bif x0.isEmpty then
 (ni tA [] 0).bind fun y_=>aK y_ (fun x1=>
 some ([],false))
 (fun x2=>
 (nK tA x2 0).bind fun y_=>aK y_ (fun x3=>
 some ([],false))
 (fun x4=>
 some (x2,true)))
 else
 bif !x0.isEmpty then
 (ni tA x0 0).bind fun y_=>aK y_ (fun x1=>
 some ([],false))
 (fun x2=>
 (nK tA x2 0).bind fun y_=>aK y_ (fun x3=>
 some ([],false))
 (fun x4=>
 some (x2,true)))
 else none
theorem Tz (tA:Tape):∀r,BA tA=some r→aj Tryz.prog 174 0 [AG Tape.D tA] [] (.tup [SL (cI .i64) r.1,B r.2]) []:=
 au (enc:=fun r=>.tup [SL (cI .i64) r.1,B r.2]) (aQ:=fun r=>[]) 10 (.br 10008 (.ps 1000003 [.n 2] (.ret ([],false))) (.br 10018 (.ps 1000003 [.n 2] (.ret ([],false))) (.op 10022 (.ln (cI .i64) tA.aB) (.br 10030 (.ps 1000003 [.n 2] (.ret ([],false))) (.op 10034 (.ln (cI .i64) tA.aB) (.br 10042 (.ps 1000003 [.n 2] (.ret ([],false))) (.op 10046 (.ln TOp.D tA.Ops) (.br 100000036 (.ps 1000003 [.n 2] (.ret ([],false))) (.ps 1000001 [.k [1,4,38,39] [10,100018]] (.lp1 0 (Oc tA [] 0) fun x0=>.cl 1 4 100018 1 (cI .i64) x0 (.ps 1 [.k [1,4] [10]] (.op 80004 (.ln TOp.D tA.Ops) (.ps 1000001 [.k [1,4,46,47,48] [10,100018]] (.lp2 0 (AP tA [] 0) (fun x1=>.ps 1000003 [.n 2] (.ret ([],false))) (fun x2=>.oz 5 4 100018 1 (cI .i64) x2 (.ps 5 [.k [1,4] [10]] (.op 180004 (.ln (cI .i64) tA.aB) (.ps 1000001 [.k [4,69,70,71] []] (.lp2 0 (AQ tA x2 0) (fun x3=>.ps 1000003 [.n 2] (.ret ([],false))) (fun x4=>.ret (x2,true))))))))))) (.ps 1 [.k [1,4] [10,100018]] (.op 80004 (.ln TOp.D tA.Ops) (.ps 1000001 [.k [1,4,46,47,48] [10,100018]] (.ow 1000001 4 100018 1 (cI .i64) x0 .no (.ps 1000001 [.k [1,4,46,47,48] [10,100018]] (.lp2 0 (AP tA x0 0) (fun x1=>.ps 1000003 [.n 2] (.ret ([],false))) (fun x2=>.oz 5 4 100018 1 (cI .i64) x2 (.ps 5 [.k [1,4] [10]] (.op 180004 (.ln (cI .i64) tA.aB) (.ps 1000001 [.k [4,69,70,71] []] (.lp2 0 (AQ tA x2 0) (fun x3=>.ps 1000003 [.n 2] (.ret ([],false))) (fun x4=>.ret (x2,true))))))))))))))))))))))) Tryz.func174 (by kernel_rfl) (by kernel_rfl) (by kernel_rfl)
def Hq (t:Tape):Option Bool:=
 (BA t).bind fun x0=>
 some x0.2
theorem Xk (t:Tape):∀r,Hq t=some r→aj Tryz.prog 120 0 [AG Tape.D t] [] (B r) []:=
 au (enc:=fun r=>B r) (aQ:=fun r=>[]) 10 (.call [] [] (Tz t) .no fun x0=>.ret x0.2) Tryz.func120 (by kernel_rfl) (by kernel_rfl) (by kernel_rfl)
def um (x:Rat) (e:Int):Option Rat:=
 bif e != 0 then
 none
 else
 some x
theorem yI (x:Rat) (e:Int):∀r,um x e=some r→aj Tryz.prog 255 0 [AG Rat.D x,I e] [] (AG Rat.D r) []:=
 au (enc:=fun r=>AG Rat.D r) (aQ:=fun r=>[]) 10 (.br 100000006 .nil (.ret x)) Tryz.func255 (by kernel_rfl) (by kernel_rfl) (by kernel_rfl)
def sU (o0:List Rat) (tA:TOp):Option Rat:=
 bif tA.Code==2 then
 bif decide (0≤tA.A_) then
 bif decide (tA.A_.toNat<o0.length) then
 bif decide (tA.A_.toNat<o0.length) then
 bif decide (0≤tA.B_) then
 bif decide (tA.B_.toNat<o0.length) then
 bif decide (tA.B_.toNat<o0.length) then
 (nM (nth o0 tA.A_.toNat) (nth o0 tA.B_.toNat)).bind fun x0=>
 some x0
 else none
 else none
 else none
 else none
 else none
 else none
 else
 bif tA.Code==3 then
 bif decide (0≤tA.A_) then
 bif decide (tA.A_.toNat<o0.length) then
 bif decide (tA.A_.toNat<o0.length) then
 bif decide (0≤tA.B_) then
 bif decide (tA.B_.toNat<o0.length) then
 bif decide (tA.B_.toNat<o0.length) then
 (Ce (nth o0 tA.A_.toNat) (nth o0 tA.B_.toNat)).bind fun x0=>
 some x0
 else none
 else none
 else none
 else none
 else none
 else none
 else
 bif tA.Code==4 then
 bif decide (0≤tA.A_) then
 bif decide (tA.A_.toNat<o0.length) then
 bif decide (tA.A_.toNat<o0.length) then
 bif decide (0≤tA.B_) then
 bif decide (tA.B_.toNat<o0.length) then
 bif decide (tA.B_.toNat<o0.length) then
 (ji (nth o0 tA.A_.toNat) (nth o0 tA.B_.toNat)).bind fun x0=>
 some x0
 else none
 else none
 else none
 else none
 else none
 else none
 else
 bif tA.Code==5 then
 bif decide (0≤tA.A_) then
 bif decide (tA.A_.toNat<o0.length) then
 bif decide (tA.A_.toNat<o0.length) then
 bif decide (0≤tA.B_) then
 bif decide (tA.B_.toNat<o0.length) then
 bif decide (tA.B_.toNat<o0.length) then
 (qU (nth o0 tA.A_.toNat) (nth o0 tA.B_.toNat)).bind fun x0=>
 (um x0.1 x0.2).bind fun x1=>
 some x1
 else none
 else none
 else none
 else none
 else none
 else none
 else
 bif tA.Code==6 then
 bif decide (0≤tA.A_) then
 bif decide (tA.A_.toNat<o0.length) then
 bif decide (tA.A_.toNat<o0.length) then
 (uQ (nth o0 tA.A_.toNat)).bind fun x0=>
 some x0
 else none
 else none
 else none
 else
 bif tA.Code==7 then
 bif decide (0≤tA.A_) then
 bif decide (tA.A_.toNat<o0.length) then
 bif decide (tA.A_.toNat<o0.length) then
 (jS (nth o0 tA.A_.toNat) tA.Exp).bind fun x0=>
 (um x0.1 x0.2).bind fun x1=>
 some x1
 else none
 else none
 else none
 else
 (kZ tA.Num).bind fun x0=>
 some x0
theorem abk (o0:List Rat) (tA:TOp):∀r,sU o0 tA=some r→aj Tryz.prog 195 1 [AG TOp.D tA,.msl 0 0 none none] [(0,ROW 3 Rat.D o0 0)] (AG Rat.D r) [(0,ROW 3 Rat.D o0 0)]:=
 au (enc:=fun r=>AG Rat.D r) (aQ:=fun r=>[(0,ROW 3 Rat.D o0 0)]) 10 (.br 100000007 (.op 30006 (.el Rat.D o0 .dn) (.op 30008 (.ld Rat.D o0) (.op 30016 (.el Rat.D o0 .dn) (.op 30018 (.ld Rat.D o0) (.call [] [] (qN (nth o0 tA.A_.toNat) (nth o0 tA.B_.toNat)) .no fun x0=>.ret x0))))) (.br 100000020 (.op 50006 (.el Rat.D o0 .dn) (.op 50008 (.ld Rat.D o0) (.op 50016 (.el Rat.D o0 .dn) (.op 50018 (.ld Rat.D o0) (.call [] [] (Og (nth o0 tA.A_.toNat) (nth o0 tA.B_.toNat)) .no fun x0=>.ret x0))))) (.br 100000033 (.op 70006 (.el Rat.D o0 .dn) (.op 70008 (.ld Rat.D o0) (.op 70016 (.el Rat.D o0 .dn) (.op 70018 (.ld Rat.D o0) (.call [] [] (lQ (nth o0 tA.A_.toNat) (nth o0 tA.B_.toNat)) .no fun x0=>.ret x0))))) (.br 100000046 (.op 90006 (.el Rat.D o0 .dn) (.op 90008 (.ld Rat.D o0) (.op 90016 (.el Rat.D o0 .dn) (.op 90018 (.ld Rat.D o0) (.call [] [] (BL (nth o0 tA.A_.toNat) (nth o0 tA.B_.toNat)) .no fun x0=>.call [] [] (yI x0.1 x0.2) .no fun x1=>.ret x1))))) (.br 100000062 (.op 110006 (.el Rat.D o0 .dn) (.op 110008 (.ld Rat.D o0) (.call [] [] (Ba (nth o0 tA.A_.toNat)) .no fun x0=>.ret x0))) (.br 100000070 (.op 130006 (.el Rat.D o0 .dn) (.op 130008 (.ld Rat.D o0) (.call [] [] (AZ (nth o0 tA.A_.toNat) tA.Exp) .no fun x0=>.call [] [] (yI x0.1 x0.2) .no fun x1=>.ret x1))) (.call [] [] (gW tA.Num) .no fun x0=>.ret x0))))))) Tryz.func195 (by kernel_rfl) (by kernel_rfl) (by kernel_rfl)
def abR (tA:TOp):Option Rat:=
 bif tA.Code==2 then
 bif decide (0≤tA.A_) then
 bif decide (tA.A_.toNat<([]:List Rat).length) then
 bif decide (0≤tA.B_) then
 bif decide (tA.B_.toNat<([]:List Rat).length) then
 (nM (nth ([]:List Rat) tA.A_.toNat) (nth ([]:List Rat) tA.B_.toNat)).bind fun x0=>
 some x0
 else none
 else none
 else none
 else none
 else
 bif tA.Code==3 then
 bif decide (0≤tA.A_) then
 bif decide (tA.A_.toNat<([]:List Rat).length) then
 bif decide (0≤tA.B_) then
 bif decide (tA.B_.toNat<([]:List Rat).length) then
 (Ce (nth ([]:List Rat) tA.A_.toNat) (nth ([]:List Rat) tA.B_.toNat)).bind fun x0=>
 some x0
 else none
 else none
 else none
 else none
 else
 bif tA.Code==4 then
 bif decide (0≤tA.A_) then
 bif decide (tA.A_.toNat<([]:List Rat).length) then
 bif decide (0≤tA.B_) then
 bif decide (tA.B_.toNat<([]:List Rat).length) then
 (ji (nth ([]:List Rat) tA.A_.toNat) (nth ([]:List Rat) tA.B_.toNat)).bind fun x0=>
 some x0
 else none
 else none
 else none
 else none
 else
 bif tA.Code==5 then
 bif decide (0≤tA.A_) then
 bif decide (tA.A_.toNat<([]:List Rat).length) then
 bif decide (0≤tA.B_) then
 bif decide (tA.B_.toNat<([]:List Rat).length) then
 (qU (nth ([]:List Rat) tA.A_.toNat) (nth ([]:List Rat) tA.B_.toNat)).bind fun x0=>
 (um x0.1 x0.2).bind fun x1=>
 some x1
 else none
 else none
 else none
 else none
 else
 bif tA.Code==6 then
 bif decide (0≤tA.A_) then
 bif decide (tA.A_.toNat<([]:List Rat).length) then
 (uQ (nth ([]:List Rat) tA.A_.toNat)).bind fun x0=>
 some x0
 else none
 else none
 else
 bif tA.Code==7 then
 bif decide (0≤tA.A_) then
 bif decide (tA.A_.toNat<([]:List Rat).length) then
 (jS (nth ([]:List Rat) tA.A_.toNat) tA.Exp).bind fun x0=>
 (um x0.1 x0.2).bind fun x1=>
 some x1
 else none
 else none
 else
 (kZ tA.Num).bind fun x0=>
 some x0
theorem Xd (tA:TOp):∀r,abR tA=some r→aj Tryz.prog 195 0 [AG TOp.D tA,SL Rat.D ([]:List Rat)] [] (AG Rat.D r) []:=
 au (enc:=fun r=>AG Rat.D r) (aQ:=fun r=>[]) 10 (.br 100000007 (.op 30006 (.el Rat.D ([]:List Rat) .dn) (.op 30016 (.el Rat.D ([]:List Rat) .dn) (.call [] [] (qN (nth ([]:List Rat) tA.A_.toNat) (nth ([]:List Rat) tA.B_.toNat)) .no fun x0=>.ret x0))) (.br 100000020 (.op 50006 (.el Rat.D ([]:List Rat) .dn) (.op 50016 (.el Rat.D ([]:List Rat) .dn) (.call [] [] (Og (nth ([]:List Rat) tA.A_.toNat) (nth ([]:List Rat) tA.B_.toNat)) .no fun x0=>.ret x0))) (.br 100000033 (.op 70006 (.el Rat.D ([]:List Rat) .dn) (.op 70016 (.el Rat.D ([]:List Rat) .dn) (.call [] [] (lQ (nth ([]:List Rat) tA.A_.toNat) (nth ([]:List Rat) tA.B_.toNat)) .no fun x0=>.ret x0))) (.br 100000046 (.op 90006 (.el Rat.D ([]:List Rat) .dn) (.op 90016 (.el Rat.D ([]:List Rat) .dn) (.call [] [] (BL (nth ([]:List Rat) tA.A_.toNat) (nth ([]:List Rat) tA.B_.toNat)) .no fun x0=>.call [] [] (yI x0.1 x0.2) .no fun x1=>.ret x1))) (.br 100000062 (.op 110006 (.el Rat.D ([]:List Rat) .dn) (.call [] [] (Ba (nth ([]:List Rat) tA.A_.toNat)) .no fun x0=>.ret x0)) (.br 100000070 (.op 130006 (.el Rat.D ([]:List Rat) .dn) (.call [] [] (AZ (nth ([]:List Rat) tA.A_.toNat) tA.Exp) .no fun x0=>.call [] [] (yI x0.1 x0.2) .no fun x1=>.ret x1)) (.call [] [] (gW tA.Num) .no fun x0=>.ret x0))))))) Tryz.func195 (by kernel_rfl) (by kernel_rfl) (by kernel_rfl)
end Go.Ab.M
