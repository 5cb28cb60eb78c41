import Derived.Test.YtjboagogechleaaGreatTY
import Derived.Test.YtjboagogechleaaGreatCP
namespace Go.Ab.M
open Go.Proofs
set_option linter.unusedVariables false
set_option maxRecDepth 100000
abbrev z0K:Knot:=Knot.mk (-1) (-1) (Rat.mk false [] []) [] true
def dK (tA:Dual) (a:Int) (a1:Int):Option (Dual×Int×Int):=
 (ku tA).bind fun x0=>
 bif !x0 then
 some (Dual.mk 0 0 [],0,1)
 else
 bif decide (a<0) then
 some (Dual.mk 0 0 [],0,9)
 else
 bif decide (a≥((tA.All.length:Nat):Int)) then
 some (Dual.mk 0 0 [],0,9)
 else
 bif decide (0≤a) then
 bif decide (a.toNat<tA.All.length) then
 (bF ((nth tA.All a.toNat).Next) a1).bind fun x1=>
 bif !x1 then
 some (Dual.mk 0 0 [],0,9)
 else
 (uH tA).bind fun x2=>
 bif decide (0≤a) then
 bif decide (a.toNat<tA.All.length) then
 bif decide (0≤a1) then
 bif decide (a1.toNat<tA.All.length) then
 (D8 ((nth tA.All a.toNat).W) ((nth tA.All a1.toNat).W)).bind fun x3=>
 bif decide (0≤a) then
 bif decide (a.toNat<x2.length) then
 (Iq tA (Di.mk ((nth tA.All a.toNat).From) ((nth tA.All a1.toNat).To)) ((nth tA.All a1.toNat).Next) (nth x2 a.toNat) x2).bind fun x4=>
 bif x4==(-1) then
 bif ((tA.All.length:Nat):Int)==20000 then
 some (Dual.mk 0 0 [],0,4)
 else
 (kM tA a a1 x2 x4 (nth tA.All a.toNat) (nth tA.All a1.toNat) x3).bind fun x5=>
 some (Dual.mk tA.Ins tA.aQ x5,1,0)
 else
 (kM tA a a1 x2 x4 (nth tA.All a.toNat) (nth tA.All a1.toNat) x3).bind fun x5=>
 some (Dual.mk tA.Ins tA.aQ x5,1,0)
 else none
 else none
 else none
 else none
 else none
 else none
 else none
 else none
theorem BX (tA:Dual) (a:Int) (a1:Int):∀r,dK tA a a1=some r→au Tryz.prog 17 0 [AG Dual.D tA,I a,I a1] [] (.tup [AG Dual.D r.1,I r.2.1,I r.2.2]) []:=
 ay (enc:=fun r=>.tup [AG Dual.D r.1,I r.2.1,I r.2.2]) (aU:=fun r=>[]) 10 (.call [] [] (vG tA) .no fun x0=>.br 100000016 (.ps 1000003 [.b 11] (.ret (Dual.mk 0 0 [],0,1))) (.br 30006 (.ps 1000003 [.b 11] (.ret (Dual.mk 0 0 [],0,9))) (.op 30012 (.ln Knot.D tA.All) (.br 30020 (.ps 1000003 [.b 11] (.ret (Dual.mk 0 0 [],0,9))) (.op 30026 (.el Knot.D tA.All .dn) (.call [] [] (dJ ((nth tA.All a.toNat).Next) a1) .no fun x1=>.br 100000021 (.ps 1000003 [.b 11] (.ret (Dual.mk 0 0 [],0,9))) (.call [] [] (Jo tA) .no fun x2=>.op 60006 (.el Knot.D tA.All .dn) (.op 60016 (.el Knot.D tA.All .dn) (.call [] [] (U0 ((nth tA.All a.toNat).W) ((nth tA.All a1.toNat).W)) .no fun x3=>.op 80020 (.el (cL (cI .i64)) x2 .dn) (.call [] [] (VU tA (Di.mk ((nth tA.All a.toNat).From) ((nth tA.All a1.toNat).To)) ((nth tA.All a1.toNat).Next) (nth x2 a.toNat) x2) .no fun x4=>.br 90006 (.op 90010 (.ln Knot.D tA.All) (.ps 18 [.k [1,2,3,6,9,10,11,12,13,81] [10,11,12,13,14]] (.br 100000081 (.ps 1000003 [.b 11] (.ret (Dual.mk 0 0 [],0,4))) (.lp1 200000011 (yc tA a a1 x2 x4 (((tA.All.length:Nat):Int)==20000) (nth tA.All a.toNat) (nth tA.All a1.toNat) x3) fun x5=>.ps 1000003 [.b 11] (.ret (Dual.mk tA.Ins tA.aQ x5,1,0)))))) (.ps 18 [.k [1,2,3,6,9,10,11,12,13,81] [10,11,12,13,14]] (.lp1 200000011 (yc tA a a1 x2 x4 false (nth tA.All a.toNat) (nth tA.All a1.toNat) x3) fun x5=>.ps 1000003 [.b 11] (.ret (Dual.mk tA.Ins tA.aQ x5,1,0)))))))))))))) Tryz.func17 (by kernel_rfl) (by kernel_rfl) (by kernel_rfl)
def pX (l:List Int) (n:Int) (out:List Int) (i:Nat):St:=⟨27,0,[(0,SL (cI .i64) l),(1,I n),(5,iH 100054 out),(6,I ((i:Nat):Int))],[(100054,je 1 (cI .i64) out)]⟩
def ql (l:List Int) (n:Int) (out:List Int):St:=⟨27,0,[(5,iH 100054 out)],[(100054,je 1 (cI .i64) out)]⟩
def gJ (l:List Int) (n:Int) (out:List Int) (i:Nat):Option ((List Int×Nat)⊕(List Int)):=
 bif decide (((i:Nat):Int)<((l.length:Nat):Int)) then
 bif decide (i<l.length) then
 bif (nth l i) != n then
 bif decide (i<l.length) then
 bif decide (out.length+1≤2147483648) then
 bif inK .i64 (((i:Nat):Int)+1) then
 some (.inl (out++[nth l i],i+1))
 else none
 else none
 else none
 else
 bif inK .i64 (((i:Nat):Int)+1) then
 some (.inl (out,i+1))
 else none
 else none
 else
 some (.inr out)
theorem JB (l:List Int) (n:Int):∀σ:List Int×Nat,aN Tryz.prog (nav [1,1,0,1,0,0] (ah Tryz.f69)) (fun (σ:List Int×Nat)=>pX l n σ.1 σ.2) (fun (_:List Int)=>(.exit 0)) (fun (y:List Int)=>ql l n y) σ (gJ l n σ.1 σ.2)
 | ([],i)=>aH 1010 (.op 30004 (.ln (cI .i64) l) (.br 100000010 (.op 50004 (.el (cI .i64) l (.up i)) (.br 100000018 (.op 60006 (.el (cI .i64) l (.up i)) (.op 60012 (.ap (cI .i64) [] [nth l i] 1 fun _=>⟨rfl,rfl⟩) (.ps 1000003 [.k [0,1,5,6] [1011],.m 1011 100054] (.ret (.inl ([nth l i],i+1)))))) (.ps 1000003 [.k [0,1,5,6] [100054]] (.ret (.inl ([],i+1)))))) (.ps 1000003 [.k [5] [100054]] (.ret (.inr []))))) (by kernel_rfl)
 | (fO::fP,i)=>aH 1010 (.op 30004 (.ln (cI .i64) l) (.br 100000010 (.op 50004 (.el (cI .i64) l (.up i)) (.br 100000018 (.op 60006 (.el (cI .i64) l (.up i)) (.op 60012 (.ap (cI .i64) (fO::fP) [nth l i] 1 fun _=>⟨rfl,rfl⟩) (.ps 1000003 [.k [0,1,5,6] [1011],.m 1011 100054] (.ret (.inl ((fO::fP)++[nth l i],i+1)))))) (.ps 1000003 [.k [0,1,5,6] [100054]] (.ret (.inl ((fO::fP),i+1)))))) (.ps 1000003 [.k [5] [100054]] (.ret (.inr (fO::fP)))))) (by kernel_rfl)
def oQ (l:List Int) (n:Int) (out:List Int) (i:Nat):Option (List Int):=aK (fun (σ:List Int×Nat)=>gJ l n σ.1 σ.2) FU (out,i)
theorem JM (l:List Int) (n:Int) (out:List Int) (i:Nat):∀y:List Int,oQ l n out i=some y→Runs Tryz.prog (.loop (nav [1,1,0,1,0,0] (ah Tryz.f69))) (pX l n out i) ((.exit 0)) ((fun (y:List Int)=>ql l n y) y):=
 aX (head:=fun (σ:List Int×Nat)=>pX l n σ.1 σ.2) (eo:=fun (_:List Int)=>(.exit 0)) (so:=fun (y:List Int)=>ql l n y) (JB l n) (fun _ h=>by cases h) FU (out,i)
def eX (l:List Int) (n:Int):Option (List Int):=
 (oQ l n [] 0).bind fun x0=>
 some x0
theorem bQ (l:List Int) (n:Int):∀r,eX l n=some r→au Tryz.prog 69 0 [SL (cI .i64) l,I n] [] (SL (cI .i64) r) []:=
 ay (enc:=fun r=>SL (cI .i64) r) (aU:=fun r=>[]) 10 (.ps 1000001 [.k [0,1,5,6] [100054]] (.lp1 0 (JM l n [] 0) fun x0=>.oz 1 5 100054 1 (cI .i64) x0 (.ps 1 [.k [5] []] (.ret x0)))) Tryz.func69 (by kernel_rfl) (by kernel_rfl) (by kernel_rfl)
def nC (tA:Dual) (a:Int) (a1:Int) (i:Int) (i1:List Int) (o:Int) (o1:Int) (x5:Rat) (i2:Nat) (o2:List Knot):St:=⟨222,0,[(1,I a),(2,I a1),(3,.ptr 10 0 0),(6,.ptr 11 0 0),(12,I i),(13,SL (cI .i64) i1),(14,.ptr 1010 0 0),(15,.ptr 1011 0 0),(16,I ((i2:Nat):Int))],[(10,BOX [I tA.Ins,I tA.aQ,SL Knot.D tA.All]),(11,BOX [I o,I o1,Dy]),(1010,BOX [B x5.Neg,SL (cI .u32) x5.Num,SL (cI .u32) x5.Den]),(1011,BOX [I tA.Ins,I tA.aQ,iH 100055 o2]),(100055,je 7 Knot.D o2)]⟩
def nN (tA:Dual) (a:Int) (a1:Int) (i:Int) (i1:List Int) (o:Int) (o1:Int) (x5:Rat) (o2:List Knot):St:=⟨222,0,[(1,I a),(2,I a1),(3,.ptr 10 0 0),(6,.ptr 11 0 0),(12,I i),(14,.ptr 1010 0 0),(15,.ptr 1011 0 0)],[(10,BOX [I tA.Ins,I tA.aQ,SL Knot.D tA.All]),(11,BOX [I o,I o1,Dy]),(1010,BOX [B x5.Neg,SL (cI .u32) x5.Num,SL (cI .u32) x5.Den]),(1011,BOX [I tA.Ins,I tA.aQ,iH 100055 o2]),(100055,je 7 Knot.D o2)]⟩
def bM (tA:Dual) (a:Int) (a1:Int) (i:Int) (i1:List Int) (o:Int) (o1:Int) (x5:Rat) (i2:Nat) (o2:List Knot):Option ((Nat×List Knot)⊕(List Knot)):=
 bif decide (((i2:Nat):Int)<((tA.All.length:Nat):Int)) then
 bif decide (i2<tA.All.length) then
 bif decide (0+((nth tA.All i2).Next).length≤2147483648) then
 (zN i1 ((i2:Nat):Int)).bind fun x6=>
 bif decide (i<0) then
 bif x6 then
 bif decide (([]++((nth tA.All i2).Next)).length+1≤2147483648) then
 bif ((i2:Nat):Int)==i then
 (zh ((nth tA.All i2).W) x5).bind fun x7=>
 bif ((i2:Nat):Int)==a then
 (eX (([]++((nth tA.All i2).Next))++[((tA.All.length:Nat):Int)]) a1).bind fun x8=>
 bif decide (o2.length+1≤2147483648) then
 bif inK .i64 (((i2:Nat):Int)+1) then
 some (.inl (i2+1,o2++[Knot.mk ((nth tA.All i2).From) ((nth tA.All i2).To) x7 x8 ((nth tA.All i2).Gone)]))
 else none
 else none
 else
 bif decide (o2.length+1≤2147483648) then
 bif inK .i64 (((i2:Nat):Int)+1) then
 some (.inl (i2+1,o2++[Knot.mk ((nth tA.All i2).From) ((nth tA.All i2).To) x7 (([]++((nth tA.All i2).Next))++[((tA.All.length:Nat):Int)]) ((nth tA.All i2).Gone)]))
 else none
 else none
 else
 bif ((i2:Nat):Int)==a then
 (eX (([]++((nth tA.All i2).Next))++[((tA.All.length:Nat):Int)]) a1).bind fun x7=>
 bif decide (o2.length+1≤2147483648) then
 bif inK .i64 (((i2:Nat):Int)+1) then
 some (.inl (i2+1,o2++[Knot.mk ((nth tA.All i2).From) ((nth tA.All i2).To) ((nth tA.All i2).W) x7 ((nth tA.All i2).Gone)]))
 else none
 else none
 else
 bif decide (o2.length+1≤2147483648) then
 bif inK .i64 (((i2:Nat):Int)+1) then
 some (.inl (i2+1,o2++[Knot.mk ((nth tA.All i2).From) ((nth tA.All i2).To) ((nth tA.All i2).W) (([]++((nth tA.All i2).Next))++[((tA.All.length:Nat):Int)]) ((nth tA.All i2).Gone)]))
 else none
 else none
 else none
 else
 bif ((i2:Nat):Int)==i then
 (zh ((nth tA.All i2).W) x5).bind fun x7=>
 bif ((i2:Nat):Int)==a then
 (eX ([]++((nth tA.All i2).Next)) a1).bind fun x8=>
 bif decide (o2.length+1≤2147483648) then
 bif inK .i64 (((i2:Nat):Int)+1) then
 some (.inl (i2+1,o2++[Knot.mk ((nth tA.All i2).From) ((nth tA.All i2).To) x7 x8 ((nth tA.All i2).Gone)]))
 else none
 else none
 else
 bif decide (o2.length+1≤2147483648) then
 bif inK .i64 (((i2:Nat):Int)+1) then
 some (.inl (i2+1,o2++[Knot.mk ((nth tA.All i2).From) ((nth tA.All i2).To) x7 ([]++((nth tA.All i2).Next)) ((nth tA.All i2).Gone)]))
 else none
 else none
 else
 bif ((i2:Nat):Int)==a then
 (eX ([]++((nth tA.All i2).Next)) a1).bind fun x7=>
 bif decide (o2.length+1≤2147483648) then
 bif inK .i64 (((i2:Nat):Int)+1) then
 some (.inl (i2+1,o2++[Knot.mk ((nth tA.All i2).From) ((nth tA.All i2).To) ((nth tA.All i2).W) x7 ((nth tA.All i2).Gone)]))
 else none
 else none
 else
 bif decide (o2.length+1≤2147483648) then
 bif inK .i64 (((i2:Nat):Int)+1) then
 some (.inl (i2+1,o2++[Knot.mk ((nth tA.All i2).From) ((nth tA.All i2).To) ((nth tA.All i2).W) ([]++((nth tA.All i2).Next)) ((nth tA.All i2).Gone)]))
 else none
 else none
 else
 bif ((i2:Nat):Int)==i then
 (zh ((nth tA.All i2).W) x5).bind fun x7=>
 bif ((i2:Nat):Int)==a then
 (eX ([]++((nth tA.All i2).Next)) a1).bind fun x8=>
 bif decide (o2.length+1≤2147483648) then
 bif inK .i64 (((i2:Nat):Int)+1) then
 some (.inl (i2+1,o2++[Knot.mk ((nth tA.All i2).From) ((nth tA.All i2).To) x7 x8 ((nth tA.All i2).Gone)]))
 else none
 else none
 else
 bif decide (o2.length+1≤2147483648) then
 bif inK .i64 (((i2:Nat):Int)+1) then
 some (.inl (i2+1,o2++[Knot.mk ((nth tA.All i2).From) ((nth tA.All i2).To) x7 ([]++((nth tA.All i2).Next)) ((nth tA.All i2).Gone)]))
 else none
 else none
 else
 bif ((i2:Nat):Int)==a then
 (eX ([]++((nth tA.All i2).Next)) a1).bind fun x7=>
 bif decide (o2.length+1≤2147483648) then
 bif inK .i64 (((i2:Nat):Int)+1) then
 some (.inl (i2+1,o2++[Knot.mk ((nth tA.All i2).From) ((nth tA.All i2).To) ((nth tA.All i2).W) x7 ((nth tA.All i2).Gone)]))
 else none
 else none
 else
 bif decide (o2.length+1≤2147483648) then
 bif inK .i64 (((i2:Nat):Int)+1) then
 some (.inl (i2+1,o2++[Knot.mk ((nth tA.All i2).From) ((nth tA.All i2).To) ((nth tA.All i2).W) ([]++((nth tA.All i2).Next)) ((nth tA.All i2).Gone)]))
 else none
 else none
 else none
 else none
 else
 some (.inr o2)
theorem G9 (tA:Dual) (a:Int) (a1:Int) (i:Int) (i1:List Int) (o:Int) (o1:Int) (x5:Rat):∀σ:Nat×List Knot,aN Tryz.prog (nav [1,1,1,1,1,1,1,1,1,1,1,1,0,1,0,0] (ah Tryz.f18)) (fun (σ:Nat×List Knot)=>nC tA a a1 i i1 o o1 x5 σ.1 σ.2) (fun (_:List Knot)=>(.exit 0)) (fun (y:List Knot)=>nN tA a a1 i i1 o o1 x5 y) σ (bM tA a a1 i i1 o o1 x5 σ.1 σ.2)
 | (i2,[])=>aH 2010 (.op 170006 (.ln Knot.D tA.All) (.br 100000080 (.op 190006 (.el Knot.D tA.All (.up i2)) (.op 200006 (.ap (cI .i64) [] ((nth tA.All i2).Next) 1 fun _=>⟨rfl,rfl⟩) (.call [] [] (mQ i1 ((i2:Nat):Int)) .no fun x6=>.br 220006 (.br 100000100 (.op 230008 (.ln Knot.D tA.All) (.op 230012 (.ap (cI .i64) ([]++((nth tA.All i2).Next)) [((tA.All.length:Nat):Int)] 1 fun _=>⟨rfl,rfl⟩) (.br 100000111 (.call [] [] (nU ((nth tA.All i2).W) x5) .no fun x7=>.br 100000119 (.call [] [] (bQ (([]++((nth tA.All i2).Next))++[((tA.All.length:Nat):Int)]) a1) .no fun x8=>.op 280008 (.ap Knot.D [] [Knot.mk ((nth tA.All i2).From) ((nth tA.All i2).To) x7 x8 ((nth tA.All i2).Gone)] 7 fun _=>⟨rfl,rfl⟩) (.ps 1000003 [.k [1,2,3,6,12,13,14,15,16] [10,11,1010,1011,2016],.m 2016 100055] (.ret (.inl (i2+1,[Knot.mk ((nth tA.All i2).From) ((nth tA.All i2).To) x7 x8 ((nth tA.All i2).Gone)]))))) (.op 280008 (.ap Knot.D [] [Knot.mk ((nth tA.All i2).From) ((nth tA.All i2).To) x7 (([]++((nth tA.All i2).Next))++[((tA.All.length:Nat):Int)]) ((nth tA.All i2).Gone)] 7 fun _=>⟨rfl,rfl⟩) (.ps 1000003 [.k [1,2,3,6,12,13,14,15,16] [10,11,1010,1011,2016],.m 2016 100055] (.ret (.inl (i2+1,[Knot.mk ((nth tA.All i2).From) ((nth tA.All i2).To) x7 (([]++((nth tA.All i2).Next))++[((tA.All.length:Nat):Int)]) ((nth tA.All i2).Gone)])))))) (.br 100000119 (.call [] [] (bQ (([]++((nth tA.All i2).Next))++[((tA.All.length:Nat):Int)]) a1) .no fun x7=>.op 280008 (.ap Knot.D [] [Knot.mk ((nth tA.All i2).From) ((nth tA.All i2).To) ((nth tA.All i2).W) x7 ((nth tA.All i2).Gone)] 7 fun _=>⟨rfl,rfl⟩) (.ps 1000003 [.k [1,2,3,6,12,13,14,15,16] [10,11,1010,1011,2016],.m 2016 100055] (.ret (.inl (i2+1,[Knot.mk ((nth tA.All i2).From) ((nth tA.All i2).To) ((nth tA.All i2).W) x7 ((nth tA.All i2).Gone)]))))) (.op 280008 (.ap Knot.D [] [Knot.mk ((nth tA.All i2).From) ((nth tA.All i2).To) ((nth tA.All i2).W) (([]++((nth tA.All i2).Next))++[((tA.All.length:Nat):Int)]) ((nth tA.All i2).Gone)] 7 fun _=>⟨rfl,rfl⟩) (.ps 1000003 [.k [1,2,3,6,12,13,14,15,16] [10,11,1010,1011,2016],.m 2016 100055] (.ret (.inl (i2+1,[Knot.mk ((nth tA.All i2).From) ((nth tA.All i2).To) ((nth tA.All i2).W) (([]++((nth tA.All i2).Next))++[((tA.All.length:Nat):Int)]) ((nth tA.All i2).Gone)]))))))))) (.br 100000111 (.call [] [] (nU ((nth tA.All i2).W) x5) .no fun x7=>.br 100000119 (.call [] [] (bQ ([]++((nth tA.All i2).Next)) a1) .no fun x8=>.op 280008 (.ap Knot.D [] [Knot.mk ((nth tA.All i2).From) ((nth tA.All i2).To) x7 x8 ((nth tA.All i2).Gone)] 7 fun _=>⟨rfl,rfl⟩) (.ps 1000003 [.k [1,2,3,6,12,13,14,15,16] [10,11,1010,1011,2014],.m 2014 100055] (.ret (.inl (i2+1,[Knot.mk ((nth tA.All i2).From) ((nth tA.All i2).To) x7 x8 ((nth tA.All i2).Gone)]))))) (.op 280008 (.ap Knot.D [] [Knot.mk ((nth tA.All i2).From) ((nth tA.All i2).To) x7 ([]++((nth tA.All i2).Next)) ((nth tA.All i2).Gone)] 7 fun _=>⟨rfl,rfl⟩) (.ps 1000003 [.k [1,2,3,6,12,13,14,15,16] [10,11,1010,1011,2014],.m 2014 100055] (.ret (.inl (i2+1,[Knot.mk ((nth tA.All i2).From) ((nth tA.All i2).To) x7 ([]++((nth tA.All i2).Next)) ((nth tA.All i2).Gone)])))))) (.br 100000119 (.call [] [] (bQ ([]++((nth tA.All i2).Next)) a1) .no fun x7=>.op 280008 (.ap Knot.D [] [Knot.mk ((nth tA.All i2).From) ((nth tA.All i2).To) ((nth tA.All i2).W) x7 ((nth tA.All i2).Gone)] 7 fun _=>⟨rfl,rfl⟩) (.ps 1000003 [.k [1,2,3,6,12,13,14,15,16] [10,11,1010,1011,2014],.m 2014 100055] (.ret (.inl (i2+1,[Knot.mk ((nth tA.All i2).From) ((nth tA.All i2).To) ((nth tA.All i2).W) x7 ((nth tA.All i2).Gone)]))))) (.op 280008 (.ap Knot.D [] [Knot.mk ((nth tA.All i2).From) ((nth tA.All i2).To) ((nth tA.All i2).W) ([]++((nth tA.All i2).Next)) ((nth tA.All i2).Gone)] 7 fun _=>⟨rfl,rfl⟩) (.ps 1000003 [.k [1,2,3,6,12,13,14,15,16] [10,11,1010,1011,2014],.m 2014 100055] (.ret (.inl (i2+1,[Knot.mk ((nth tA.All i2).From) ((nth tA.All i2).To) ((nth tA.All i2).W) ([]++((nth tA.All i2).Next)) ((nth tA.All i2).Gone)])))))))) (.br 100000111 (.call [] [] (nU ((nth tA.All i2).W) x5) .no fun x7=>.br 100000119 (.call [] [] (bQ ([]++((nth tA.All i2).Next)) a1) .no fun x8=>.op 280008 (.ap Knot.D [] [Knot.mk ((nth tA.All i2).From) ((nth tA.All i2).To) x7 x8 ((nth tA.All i2).Gone)] 7 fun _=>⟨rfl,rfl⟩) (.ps 1000003 [.k [1,2,3,6,12,13,14,15,16] [10,11,1010,1011,2014],.m 2014 100055] (.ret (.inl (i2+1,[Knot.mk ((nth tA.All i2).From) ((nth tA.All i2).To) x7 x8 ((nth tA.All i2).Gone)]))))) (.op 280008 (.ap Knot.D [] [Knot.mk ((nth tA.All i2).From) ((nth tA.All i2).To) x7 ([]++((nth tA.All i2).Next)) ((nth tA.All i2).Gone)] 7 fun _=>⟨rfl,rfl⟩) (.ps 1000003 [.k [1,2,3,6,12,13,14,15,16] [10,11,1010,1011,2014],.m 2014 100055] (.ret (.inl (i2+1,[Knot.mk ((nth tA.All i2).From) ((nth tA.All i2).To) x7 ([]++((nth tA.All i2).Next)) ((nth tA.All i2).Gone)])))))) (.br 100000119 (.call [] [] (bQ ([]++((nth tA.All i2).Next)) a1) .no fun x7=>.op 280008 (.ap Knot.D [] [Knot.mk ((nth tA.All i2).From) ((nth tA.All i2).To) ((nth tA.All i2).W) x7 ((nth tA.All i2).Gone)] 7 fun _=>⟨rfl,rfl⟩) (.ps 1000003 [.k [1,2,3,6,12,13,14,15,16] [10,11,1010,1011,2014],.m 2014 100055] (.ret (.inl (i2+1,[Knot.mk ((nth tA.All i2).From) ((nth tA.All i2).To) ((nth tA.All i2).W) x7 ((nth tA.All i2).Gone)]))))) (.op 280008 (.ap Knot.D [] [Knot.mk ((nth tA.All i2).From) ((nth tA.All i2).To) ((nth tA.All i2).W) ([]++((nth tA.All i2).Next)) ((nth tA.All i2).Gone)] 7 fun _=>⟨rfl,rfl⟩) (.ps 1000003 [.k [1,2,3,6,12,13,14,15,16] [10,11,1010,1011,2014],.m 2014 100055] (.ret (.inl (i2+1,[Knot.mk ((nth tA.All i2).From) ((nth tA.All i2).To) ((nth tA.All i2).W) ([]++((nth tA.All i2).Next)) ((nth tA.All i2).Gone)])))))))))) (.ps 1000003 [.k [1,2,3,6,12,14,15] [10,11,1010,1011,100055]] (.ret (.inr []))))) (by kernel_rfl)
 | (i2,wP::xU)=>aH 2010 (.op 170006 (.ln Knot.D tA.All) (.br 100000080 (.op 190006 (.el Knot.D tA.All (.up i2)) (.op 200006 (.ap (cI .i64) [] ((nth tA.All i2).Next) 1 fun _=>⟨rfl,rfl⟩) (.call [] [] (mQ i1 ((i2:Nat):Int)) .no fun x6=>.br 220006 (.br 100000100 (.op 230008 (.ln Knot.D tA.All) (.op 230012 (.ap (cI .i64) ([]++((nth tA.All i2).Next)) [((tA.All.length:Nat):Int)] 1 fun _=>⟨rfl,rfl⟩) (.br 100000111 (.call [] [] (nU ((nth tA.All i2).W) x5) .no fun x7=>.br 100000119 (.call [] [] (bQ (([]++((nth tA.All i2).Next))++[((tA.All.length:Nat):Int)]) a1) .no fun x8=>.op 280008 (.ap Knot.D (wP::xU) [Knot.mk ((nth tA.All i2).From) ((nth tA.All i2).To) x7 x8 ((nth tA.All i2).Gone)] 7 fun _=>⟨rfl,rfl⟩) (.ps 1000003 [.k [1,2,3,6,12,13,14,15,16] [10,11,1010,1011,2016],.m 2016 100055] (.ret (.inl (i2+1,(wP::xU)++[Knot.mk ((nth tA.All i2).From) ((nth tA.All i2).To) x7 x8 ((nth tA.All i2).Gone)]))))) (.op 280008 (.ap Knot.D (wP::xU) [Knot.mk ((nth tA.All i2).From) ((nth tA.All i2).To) x7 (([]++((nth tA.All i2).Next))++[((tA.All.length:Nat):Int)]) ((nth tA.All i2).Gone)] 7 fun _=>⟨rfl,rfl⟩) (.ps 1000003 [.k [1,2,3,6,12,13,14,15,16] [10,11,1010,1011,2016],.m 2016 100055] (.ret (.inl (i2+1,(wP::xU)++[Knot.mk ((nth tA.All i2).From) ((nth tA.All i2).To) x7 (([]++((nth tA.All i2).Next))++[((tA.All.length:Nat):Int)]) ((nth tA.All i2).Gone)])))))) (.br 100000119 (.call [] [] (bQ (([]++((nth tA.All i2).Next))++[((tA.All.length:Nat):Int)]) a1) .no fun x7=>.op 280008 (.ap Knot.D (wP::xU) [Knot.mk ((nth tA.All i2).From) ((nth tA.All i2).To) ((nth tA.All i2).W) x7 ((nth tA.All i2).Gone)] 7 fun _=>⟨rfl,rfl⟩) (.ps 1000003 [.k [1,2,3,6,12,13,14,15,16] [10,11,1010,1011,2016],.m 2016 100055] (.ret (.inl (i2+1,(wP::xU)++[Knot.mk ((nth tA.All i2).From) ((nth tA.All i2).To) ((nth tA.All i2).W) x7 ((nth tA.All i2).Gone)]))))) (.op 280008 (.ap Knot.D (wP::xU) [Knot.mk ((nth tA.All i2).From) ((nth tA.All i2).To) ((nth tA.All i2).W) (([]++((nth tA.All i2).Next))++[((tA.All.length:Nat):Int)]) ((nth tA.All i2).Gone)] 7 fun _=>⟨rfl,rfl⟩) (.ps 1000003 [.k [1,2,3,6,12,13,14,15,16] [10,11,1010,1011,2016],.m 2016 100055] (.ret (.inl (i2+1,(wP::xU)++[Knot.mk ((nth tA.All i2).From) ((nth tA.All i2).To) ((nth tA.All i2).W) (([]++((nth tA.All i2).Next))++[((tA.All.length:Nat):Int)]) ((nth tA.All i2).Gone)]))))))))) (.br 100000111 (.call [] [] (nU ((nth tA.All i2).W) x5) .no fun x7=>.br 100000119 (.call [] [] (bQ ([]++((nth tA.All i2).Next)) a1) .no fun x8=>.op 280008 (.ap Knot.D (wP::xU) [Knot.mk ((nth tA.All i2).From) ((nth tA.All i2).To) x7 x8 ((nth tA.All i2).Gone)] 7 fun _=>⟨rfl,rfl⟩) (.ps 1000003 [.k [1,2,3,6,12,13,14,15,16] [10,11,1010,1011,2014],.m 2014 100055] (.ret (.inl (i2+1,(wP::xU)++[Knot.mk ((nth tA.All i2).From) ((nth tA.All i2).To) x7 x8 ((nth tA.All i2).Gone)]))))) (.op 280008 (.ap Knot.D (wP::xU) [Knot.mk ((nth tA.All i2).From) ((nth tA.All i2).To) x7 ([]++((nth tA.All i2).Next)) ((nth tA.All i2).Gone)] 7 fun _=>⟨rfl,rfl⟩) (.ps 1000003 [.k [1,2,3,6,12,13,14,15,16] [10,11,1010,1011,2014],.m 2014 100055] (.ret (.inl (i2+1,(wP::xU)++[Knot.mk ((nth tA.All i2).From) ((nth tA.All i2).To) x7 ([]++((nth tA.All i2).Next)) ((nth tA.All i2).Gone)])))))) (.br 100000119 (.call [] [] (bQ ([]++((nth tA.All i2).Next)) a1) .no fun x7=>.op 280008 (.ap Knot.D (wP::xU) [Knot.mk ((nth tA.All i2).From) ((nth tA.All i2).To) ((nth tA.All i2).W) x7 ((nth tA.All i2).Gone)] 7 fun _=>⟨rfl,rfl⟩) (.ps 1000003 [.k [1,2,3,6,12,13,14,15,16] [10,11,1010,1011,2014],.m 2014 100055] (.ret (.inl (i2+1,(wP::xU)++[Knot.mk ((nth tA.All i2).From) ((nth tA.All i2).To) ((nth tA.All i2).W) x7 ((nth tA.All i2).Gone)]))))) (.op 280008 (.ap Knot.D (wP::xU) [Knot.mk ((nth tA.All i2).From) ((nth tA.All i2).To) ((nth tA.All i2).W) ([]++((nth tA.All i2).Next)) ((nth tA.All i2).Gone)] 7 fun _=>⟨rfl,rfl⟩) (.ps 1000003 [.k [1,2,3,6,12,13,14,15,16] [10,11,1010,1011,2014],.m 2014 100055] (.ret (.inl (i2+1,(wP::xU)++[Knot.mk ((nth tA.All i2).From) ((nth tA.All i2).To) ((nth tA.All i2).W) ([]++((nth tA.All i2).Next)) ((nth tA.All i2).Gone)])))))))) (.br 100000111 (.call [] [] (nU ((nth tA.All i2).W) x5) .no fun x7=>.br 100000119 (.call [] [] (bQ ([]++((nth tA.All i2).Next)) a1) .no fun x8=>.op 280008 (.ap Knot.D (wP::xU) [Knot.mk ((nth tA.All i2).From) ((nth tA.All i2).To) x7 x8 ((nth tA.All i2).Gone)] 7 fun _=>⟨rfl,rfl⟩) (.ps 1000003 [.k [1,2,3,6,12,13,14,15,16] [10,11,1010,1011,2014],.m 2014 100055] (.ret (.inl (i2+1,(wP::xU)++[Knot.mk ((nth tA.All i2).From) ((nth tA.All i2).To) x7 x8 ((nth tA.All i2).Gone)]))))) (.op 280008 (.ap Knot.D (wP::xU) [Knot.mk ((nth tA.All i2).From) ((nth tA.All i2).To) x7 ([]++((nth tA.All i2).Next)) ((nth tA.All i2).Gone)] 7 fun _=>⟨rfl,rfl⟩) (.ps 1000003 [.k [1,2,3,6,12,13,14,15,16] [10,11,1010,1011,2014],.m 2014 100055] (.ret (.inl (i2+1,(wP::xU)++[Knot.mk ((nth tA.All i2).From) ((nth tA.All i2).To) x7 ([]++((nth tA.All i2).Next)) ((nth tA.All i2).Gone)])))))) (.br 100000119 (.call [] [] (bQ ([]++((nth tA.All i2).Next)) a1) .no fun x7=>.op 280008 (.ap Knot.D (wP::xU) [Knot.mk ((nth tA.All i2).From) ((nth tA.All i2).To) ((nth tA.All i2).W) x7 ((nth tA.All i2).Gone)] 7 fun _=>⟨rfl,rfl⟩) (.ps 1000003 [.k [1,2,3,6,12,13,14,15,16] [10,11,1010,1011,2014],.m 2014 100055] (.ret (.inl (i2+1,(wP::xU)++[Knot.mk ((nth tA.All i2).From) ((nth tA.All i2).To) ((nth tA.All i2).W) x7 ((nth tA.All i2).Gone)]))))) (.op 280008 (.ap Knot.D (wP::xU) [Knot.mk ((nth tA.All i2).From) ((nth tA.All i2).To) ((nth tA.All i2).W) ([]++((nth tA.All i2).Next)) ((nth tA.All i2).Gone)] 7 fun _=>⟨rfl,rfl⟩) (.ps 1000003 [.k [1,2,3,6,12,13,14,15,16] [10,11,1010,1011,2014],.m 2014 100055] (.ret (.inl (i2+1,(wP::xU)++[Knot.mk ((nth tA.All i2).From) ((nth tA.All i2).To) ((nth tA.All i2).W) ([]++((nth tA.All i2).Next)) ((nth tA.All i2).Gone)])))))))))) (.ps 1000003 [.k [1,2,3,6,12,14,15] [10,11,1010,1011,100055]] (.ret (.inr (wP::xU)))))) (by kernel_rfl)
def mF (tA:Dual) (a:Int) (a1:Int) (i:Int) (i1:List Int) (o:Int) (o1:Int) (x5:Rat) (i2:Nat) (o2:List Knot):Option (List Knot):=aK (fun (σ:Nat×List Knot)=>bM tA a a1 i i1 o o1 x5 σ.1 σ.2) FU (i2,o2)
theorem G7 (tA:Dual) (a:Int) (a1:Int) (i:Int) (i1:List Int) (o:Int) (o1:Int) (x5:Rat) (i2:Nat) (o2:List Knot):∀y:List Knot,mF tA a a1 i i1 o o1 x5 i2 o2=some y→Runs Tryz.prog (.loop (nav [1,1,1,1,1,1,1,1,1,1,1,1,0,1,0,0] (ah Tryz.f18))) (nC tA a a1 i i1 o o1 x5 i2 o2) ((.exit 0)) ((fun (y:List Knot)=>nN tA a a1 i i1 o o1 x5 y) y):=
 aX (head:=fun (σ:Nat×List Knot)=>nC tA a a1 i i1 o o1 x5 σ.1 σ.2) (eo:=fun (_:List Knot)=>(.exit 0)) (so:=fun (y:List Knot)=>nN tA a a1 i i1 o o1 x5 y) (G9 tA a a1 i i1 o o1 x5) (fun _ h=>by cases h) FU (i2,o2)
def lq (tA:Dual) (a:Int) (a1:Int) (o:Int) (o1:Int) (i2:Nat) (o2:List Knot):St:=⟨222,0,[(1,I a),(2,I a1),(6,.ptr 11 0 0),(15,.ptr 1011 0 0),(19,I ((i2:Nat):Int))],[(11,BOX [I o,I o1,Dy]),(1011,BOX [I tA.Ins,I tA.aQ,.msl 1015 0 none none]),(1015,ROW 7 Knot.D o2 0)]⟩
def lC (tA:Dual) (a:Int) (a1:Int) (o:Int) (o1:Int) (o2:List Knot):St:=⟨222,0,[(1,I a),(2,I a1),(6,.ptr 11 0 0),(15,.ptr 1011 0 0)],[(11,BOX [I o,I o1,Dy]),(1011,BOX [I tA.Ins,I tA.aQ,.msl 1015 0 none none]),(1015,ROW 7 Knot.D o2 0)]⟩
def fB (tA:Dual) (a:Int) (a1:Int) (o:Int) (o1:Int) (i2:Nat) (o2:List Knot):Option ((Nat×List Knot)⊕(List Knot)):=
 bif decide (((i2:Nat):Int)<((o2.length:Nat):Int)) then
 bif decide (i2<o2.length) then
 bif decide (i2<o2.length) then
 (eX ((nth o2 i2).Next) a).bind fun x7=>
 bif decide (i2<o2.length) then
 bif decide (i2<o2.length) then
 bif inK .i64 (((i2:Nat):Int)+1) then
 some (.inl (i2+1,o2.set i2 (Knot.mk ((nth o2 i2).From) ((nth o2 i2).To) ((nth o2 i2).W) x7 ((nth o2 i2).Gone))))
 else none
 else none
 else none
 else none
 else none
 else
 some (.inr o2)
theorem FT (tA:Dual) (a:Int) (a1:Int) (o:Int) (o1:Int):∀σ:Nat×List Knot,aN Tryz.prog (nav [1,1,1,1,1,1,1,1,1,1,1,1,1,1,0,1,0,0,1,0,0] (ah Tryz.f18)) (fun (σ:Nat×List Knot)=>lq tA a a1 o o1 σ.1 σ.2) (fun (_:List Knot)=>(.exit 2)) (fun (y:List Knot)=>lC tA a a1 o o1 y) σ (fB tA a a1 o o1 σ.1 σ.2)
 | (i2,o2)=>aH 2010 (.op 330006 (.ln Knot.D o2) (.br 100000181 (.op 350012 (.el Knot.D o2 (.up i2)) (.op 350016 (.ld Knot.D o2) (.call [] [] (bQ ((nth o2 i2).Next) a) .no fun x7=>.op 350022 (.el Knot.D o2 (.up i2)) (.op 350026 (.st Knot.D o2 (Knot.mk ((nth o2 i2).From) ((nth o2 i2).To) ((nth o2 i2).W) x7 ((nth o2 i2).Gone))) (.ps 1000003 [.k [1,2,6,15,19] [11,1011,1015]] (.ret (.inl (i2+1,o2.set i2 (Knot.mk ((nth o2 i2).From) ((nth o2 i2).To) ((nth o2 i2).W) x7 ((nth o2 i2).Gone)))))))))) (.ps 1000003 [.k [1,2,6,15] [11,1011,1015]] (.ret (.inr o2))))) (by kernel_rfl)
def iC (tA:Dual) (a:Int) (a1:Int) (o:Int) (o1:Int) (i2:Nat) (o2:List Knot):Option (List Knot):=aK (fun (σ:Nat×List Knot)=>fB tA a a1 o o1 σ.1 σ.2) FU (i2,o2)
theorem qQ (tA:Dual) (a:Int) (a1:Int) (o:Int) (o1:Int) (i2:Nat) (o2:List Knot):∀y:List Knot,iC tA a a1 o o1 i2 o2=some y→Runs Tryz.prog (.loop (nav [1,1,1,1,1,1,1,1,1,1,1,1,1,1,0,1,0,0,1,0,0] (ah Tryz.f18))) (lq tA a a1 o o1 i2 o2) ((.exit 2)) ((fun (y:List Knot)=>lC tA a a1 o o1 y) y):=
 aX (head:=fun (σ:Nat×List Knot)=>lq tA a a1 o o1 σ.1 σ.2) (eo:=fun (_:List Knot)=>(.exit 2)) (so:=fun (y:List Knot)=>lC tA a a1 o o1 y) (FT tA a a1 o o1) (fun _ h=>by cases h) FU (i2,o2)
def pF (d:Dual) (b:Int) (out:List Int) (i:Nat):St:=⟨29,0,[(1,I b),(2,.ptr 10 0 0),(5,iH 0 out),(6,I ((i:Nat):Int))],[(0,je 1 (cI .i64) out),(10,BOX [I d.Ins,I d.aQ,SL Knot.D d.All])]⟩
def pz (d:Dual) (b:Int) (out:List Int):St:=⟨29,0,[(5,iH 0 out)],[(0,je 1 (cI .i64) out)]⟩
def gB (d:Dual) (b:Int) (out:List Int) (i:Nat):Option ((List Int×Nat)⊕(List Int)):=
 bif decide (((i:Nat):Int)<((d.All.length:Nat):Int)) then
 bif decide (i<d.All.length) then
 (zN ((nth d.All i).Next) b).bind fun x0=>
 bif x0 then
 bif decide (out.length+1≤2147483648) then
 bif inK .i64 (((i:Nat):Int)+1) then
 some (.inl (out++[((i:Nat):Int)],i+1))
 else none
 else none
 else
 bif inK .i64 (((i:Nat):Int)+1) then
 some (.inl (out,i+1))
 else none
 else none
 else
 some (.inr out)
theorem JC (d:Dual) (b:Int):∀σ:List Int×Nat,aN Tryz.prog (nav [1,1,0,1,0,0] (ah Tryz.f66)) (fun (σ:List Int×Nat)=>pF d b σ.1 σ.2) (fun (_:List Int)=>(.exit 0)) (fun (y:List Int)=>pz d b y) σ (gB d b σ.1 σ.2)
 | ([],i)=>aH 1010 (.op 30006 (.ln Knot.D d.All) (.br 100000012 (.op 50006 (.el Knot.D d.All (.up i)) (.call [] [] (mQ ((nth d.All i).Next) b) .no fun x0=>.br 100000023 (.op 70006 (.ap (cI .i64) [] [((i:Nat):Int)] 1 fun _=>⟨rfl,rfl⟩) (.ps 1000003 [.k [1,2,5,6] [1011,10],.m 1011 0] (.ret (.inl ([((i:Nat):Int)],i+1))))) (.ps 1000003 [.k [1,2,5,6] [0,10]] (.ret (.inl ([],i+1)))))) (.ps 1000003 [.k [5] [0]] (.ret (.inr []))))) (by kernel_rfl)
 | (fO::fP,i)=>aH 1010 (.op 30006 (.ln Knot.D d.All) (.br 100000012 (.op 50006 (.el Knot.D d.All (.up i)) (.call [] [] (mQ ((nth d.All i).Next) b) .no fun x0=>.br 100000023 (.op 70006 (.ap (cI .i64) (fO::fP) [((i:Nat):Int)] 1 fun _=>⟨rfl,rfl⟩) (.ps 1000003 [.k [1,2,5,6] [1011,10],.m 1011 0] (.ret (.inl ((fO::fP)++[((i:Nat):Int)],i+1))))) (.ps 1000003 [.k [1,2,5,6] [0,10]] (.ret (.inl ((fO::fP),i+1)))))) (.ps 1000003 [.k [5] [0]] (.ret (.inr (fO::fP)))))) (by kernel_rfl)
def oM (d:Dual) (b:Int) (out:List Int) (i:Nat):Option (List Int):=aK (fun (σ:List Int×Nat)=>gB d b σ.1 σ.2) FU (out,i)
theorem Jr (d:Dual) (b:Int) (out:List Int) (i:Nat):∀y:List Int,oM d b out i=some y→Runs Tryz.prog (.loop (nav [1,1,0,1,0,0] (ah Tryz.f66))) (pF d b out i) ((.exit 0)) ((fun (y:List Int)=>pz d b y) y):=
 aX (head:=fun (σ:List Int×Nat)=>pF d b σ.1 σ.2) (eo:=fun (_:List Int)=>(.exit 0)) (so:=fun (y:List Int)=>pz d b y) (JC d b) (fun _ h=>by cases h) FU (out,i)
def gK (d:Dual) (b:Int):Option (Unit⊕List Int):=
 (oM d b [] 0).bind fun x0=>
 bif x0.isEmpty then
 some (.inl ())
 else
 some (.inr x0)
theorem jc (d:Dual) (b:Int):∀r,gK d b=some r→au Tryz.prog 66 0 [AG Dual.D d,I b] [] (acC 0 r) [(0,ae7 1 (cI .i64) r)]:=
 ay (enc:=fun r=>acC 0 r) (aU:=fun r=>[(0,ae7 1 (cI .i64) r)]) 10 (.ps 1000001 [.k [1,2,5,6] [0,10]] (.lp1 0 (Jr d b [] 0) fun x0=>.cl 1 5 0 1 (cI .i64) x0 (.ps 1 [.k [5] []] (.ret (.inl ()))) (.ps 1 [.k [5] [0]] (.ret (.inr x0))))) Tryz.func66 (by kernel_rfl) (by kernel_rfl) (by kernel_rfl) (fun _=>ab5 _ _)
def Hu (tA:Dual) (a:Int) (a1:Int) (i:Int) (i1:List Int) (o:Int) (o1:Int):St:=⟨222,0,[(1,I a),(2,I a1),(3,.ptr 10 0 0),(6,.ptr 11 0 0),(12,I i),(13,SL (cI .i64) i1)],[(10,BOX [I tA.Ins,I tA.aQ,SL Knot.D tA.All]),(11,BOX [I o,I o1,Dy])]⟩
def vX (tA:Dual) (a:Int) (a1:Int) (o:List Knot):St:=⟨222,0,[(6,.ptr 11 0 0),(7,I 1),(8,I 0)],[(11,BOX [I tA.Ins,I tA.aQ,.msl 1015 0 none none]),(1015,ROW 7 Knot.D o 0)]⟩
def mD (tA:Dual) (a:Int) (a1:Int) (i:Int) (i1:List Int) (o:Int) (o1:Int):Option (List Knot):=
 bif decide (0≤a) then
 bif decide (a.toNat<tA.All.length) then
 bif decide (0≤a1) then
 bif decide (a1.toNat<tA.All.length) then
 (DZ ((nth tA.All a.toNat).W) ((nth tA.All a1.toNat).W)).bind fun x5=>
 (mF tA a a1 i i1 o o1 x5 0 []).bind fun x6=>
 bif x6.isEmpty then
 none
 else
 bif decide (i<0) then
 bif decide (0≤a) then
 bif decide (a.toNat<tA.All.length) then
 bif decide (0≤a1) then
 bif decide (a1.toNat<tA.All.length) then
 bif decide (0≤a1) then
 bif decide (a1.toNat<tA.All.length) then
 bif decide (0+((nth tA.All a1.toNat).Next).length≤2147483648) then
 bif decide (x6.length+1≤2147483648) then
 bif decide (0≤a) then
 bif decide (a.toNat<(x6++[Knot.mk ((nth tA.All a.toNat).From) ((nth tA.All a1.toNat).To) x5 ([]++((nth tA.All a1.toNat).Next)) false]).length) then
 bif decide (a.toNat<(x6++[Knot.mk ((nth tA.All a.toNat).From) ((nth tA.All a1.toNat).To) x5 ([]++((nth tA.All a1.toNat).Next)) false]).length) then
 bif ((nth (x6++[Knot.mk ((nth tA.All a.toNat).From) ((nth tA.All a1.toNat).To) x5 ([]++((nth tA.All a1.toNat).Next)) false]) a.toNat).To)==(-1) then
 bif decide (0≤a) then
 bif decide (a.toNat<(x6++[Knot.mk ((nth tA.All a.toNat).From) ((nth tA.All a1.toNat).To) x5 ([]++((nth tA.All a1.toNat).Next)) false]).length) then
 bif decide (a.toNat<(x6++[Knot.mk ((nth tA.All a.toNat).From) ((nth tA.All a1.toNat).To) x5 ([]++((nth tA.All a1.toNat).Next)) false]).length) then
 bif ((((nth (x6++[Knot.mk ((nth tA.All a.toNat).From) ((nth tA.All a1.toNat).To) x5 ([]++((nth tA.All a1.toNat).Next)) false]) a.toNat).Next).length:Nat):Int)==0 then
 (iC tA a a1 o o1 0 (x6++[Knot.mk ((nth tA.All a.toNat).From) ((nth tA.All a1.toNat).To) x5 ([]++((nth tA.All a1.toNat).Next)) false])).bind fun x7=>
 bif decide (0≤a) then
 bif decide (a.toNat<x7.length) then
 bif decide (a.toNat<x7.length) then
 bif decide (0≤a1) then
 bif decide (a1.toNat<(x7.set a.toNat z0K).length) then
 bif decide (a1.toNat<(x7.set a.toNat z0K).length) then
 bif ((nth (x7.set a.toNat z0K) a1.toNat).From)==(-1) then
 (gK (Dual.mk tA.Ins tA.aQ (x7.set a.toNat z0K)) a1).bind fun y_=>aC y_ (fun x8=>
 bif decide (0≤a1) then
 bif decide (a1.toNat<(x7.set a.toNat z0K).length) then
 bif decide (a1.toNat<(x7.set a.toNat z0K).length) then
 some ((x7.set a.toNat z0K).set a1.toNat z0K)
 else none
 else none
 else none)
 (fun x9=>
 bif ((x9.length:Nat):Int)==0 then
 bif decide (0≤a1) then
 bif decide (a1.toNat<(x7.set a.toNat z0K).length) then
 bif decide (a1.toNat<(x7.set a.toNat z0K).length) then
 some ((x7.set a.toNat z0K).set a1.toNat z0K)
 else none
 else none
 else none
 else
 some (x7.set a.toNat z0K))
 else
 some (x7.set a.toNat z0K)
 else none
 else none
 else none
 else none
 else none
 else none
 else
 bif decide (0≤a1) then
 bif decide (a1.toNat<(x6++[Knot.mk ((nth tA.All a.toNat).From) ((nth tA.All a1.toNat).To) x5 ([]++((nth tA.All a1.toNat).Next)) false]).length) then
 bif decide (a1.toNat<(x6++[Knot.mk ((nth tA.All a.toNat).From) ((nth tA.All a1.toNat).To) x5 ([]++((nth tA.All a1.toNat).Next)) false]).length) then
 bif ((nth (x6++[Knot.mk ((nth tA.All a.toNat).From) ((nth tA.All a1.toNat).To) x5 ([]++((nth tA.All a1.toNat).Next)) false]) a1.toNat).From)==(-1) then
 (gK (Dual.mk tA.Ins tA.aQ (x6++[Knot.mk ((nth tA.All a.toNat).From) ((nth tA.All a1.toNat).To) x5 ([]++((nth tA.All a1.toNat).Next)) false])) a1).bind fun y_=>aC y_ (fun x7=>
 bif decide (0≤a1) then
 bif decide (a1.toNat<(x6++[Knot.mk ((nth tA.All a.toNat).From) ((nth tA.All a1.toNat).To) x5 ([]++((nth tA.All a1.toNat).Next)) false]).length) then
 bif decide (a1.toNat<(x6++[Knot.mk ((nth tA.All a.toNat).From) ((nth tA.All a1.toNat).To) x5 ([]++((nth tA.All a1.toNat).Next)) false]).length) then
 some ((x6++[Knot.mk ((nth tA.All a.toNat).From) ((nth tA.All a1.toNat).To) x5 ([]++((nth tA.All a1.toNat).Next)) false]).set a1.toNat z0K)
 else none
 else none
 else none)
 (fun x8=>
 bif ((x8.length:Nat):Int)==0 then
 bif decide (0≤a1) then
 bif decide (a1.toNat<(x6++[Knot.mk ((nth tA.All a.toNat).From) ((nth tA.All a1.toNat).To) x5 ([]++((nth tA.All a1.toNat).Next)) false]).length) then
 bif decide (a1.toNat<(x6++[Knot.mk ((nth tA.All a.toNat).From) ((nth tA.All a1.toNat).To) x5 ([]++((nth tA.All a1.toNat).Next)) false]).length) then
 some ((x6++[Knot.mk ((nth tA.All a.toNat).From) ((nth tA.All a1.toNat).To) x5 ([]++((nth tA.All a1.toNat).Next)) false]).set a1.toNat z0K)
 else none
 else none
 else none
 else
 some (x6++[Knot.mk ((nth tA.All a.toNat).From) ((nth tA.All a1.toNat).To) x5 ([]++((nth tA.All a1.toNat).Next)) false]))
 else
 some (x6++[Knot.mk ((nth tA.All a.toNat).From) ((nth tA.All a1.toNat).To) x5 ([]++((nth tA.All a1.toNat).Next)) false])
 else none
 else none
 else none
 else none
 else none
 else none
 else
 bif decide (0≤a1) then
 bif decide (a1.toNat<(x6++[Knot.mk ((nth tA.All a.toNat).From) ((nth tA.All a1.toNat).To) x5 ([]++((nth tA.All a1.toNat).Next)) false]).length) then
 bif decide (a1.toNat<(x6++[Knot.mk ((nth tA.All a.toNat).From) ((nth tA.All a1.toNat).To) x5 ([]++((nth tA.All a1.toNat).Next)) false]).length) then
 bif ((nth (x6++[Knot.mk ((nth tA.All a.toNat).From) ((nth tA.All a1.toNat).To) x5 ([]++((nth tA.All a1.toNat).Next)) false]) a1.toNat).From)==(-1) then
 (gK (Dual.mk tA.Ins tA.aQ (x6++[Knot.mk ((nth tA.All a.toNat).From) ((nth tA.All a1.toNat).To) x5 ([]++((nth tA.All a1.toNat).Next)) false])) a1).bind fun y_=>aC y_ (fun x7=>
 bif decide (0≤a1) then
 bif decide (a1.toNat<(x6++[Knot.mk ((nth tA.All a.toNat).From) ((nth tA.All a1.toNat).To) x5 ([]++((nth tA.All a1.toNat).Next)) false]).length) then
 bif decide (a1.toNat<(x6++[Knot.mk ((nth tA.All a.toNat).From) ((nth tA.All a1.toNat).To) x5 ([]++((nth tA.All a1.toNat).Next)) false]).length) then
 some ((x6++[Knot.mk ((nth tA.All a.toNat).From) ((nth tA.All a1.toNat).To) x5 ([]++((nth tA.All a1.toNat).Next)) false]).set a1.toNat z0K)
 else none
 else none
 else none)
 (fun x8=>
 bif ((x8.length:Nat):Int)==0 then
 bif decide (0≤a1) then
 bif decide (a1.toNat<(x6++[Knot.mk ((nth tA.All a.toNat).From) ((nth tA.All a1.toNat).To) x5 ([]++((nth tA.All a1.toNat).Next)) false]).length) then
 bif decide (a1.toNat<(x6++[Knot.mk ((nth tA.All a.toNat).From) ((nth tA.All a1.toNat).To) x5 ([]++((nth tA.All a1.toNat).Next)) false]).length) then
 some ((x6++[Knot.mk ((nth tA.All a.toNat).From) ((nth tA.All a1.toNat).To) x5 ([]++((nth tA.All a1.toNat).Next)) false]).set a1.toNat z0K)
 else none
 else none
 else none
 else
 some (x6++[Knot.mk ((nth tA.All a.toNat).From) ((nth tA.All a1.toNat).To) x5 ([]++((nth tA.All a1.toNat).Next)) false]))
 else
 some (x6++[Knot.mk ((nth tA.All a.toNat).From) ((nth tA.All a1.toNat).To) x5 ([]++((nth tA.All a1.toNat).Next)) false])
 else none
 else none
 else none
 else none
 else none
 else none
 else none
 else none
 else none
 else none
 else none
 else none
 else none
 else none
 else
 bif decide (0≤a) then
 bif decide (a.toNat<x6.length) then
 bif decide (a.toNat<x6.length) then
 bif ((nth x6 a.toNat).To)==(-1) then
 bif decide (0≤a) then
 bif decide (a.toNat<x6.length) then
 bif decide (a.toNat<x6.length) then
 bif ((((nth x6 a.toNat).Next).length:Nat):Int)==0 then
 (iC tA a a1 o o1 0 x6).bind fun x7=>
 bif decide (0≤a) then
 bif decide (a.toNat<x7.length) then
 bif decide (a.toNat<x7.length) then
 bif decide (0≤a1) then
 bif decide (a1.toNat<(x7.set a.toNat z0K).length) then
 bif decide (a1.toNat<(x7.set a.toNat z0K).length) then
 bif ((nth (x7.set a.toNat z0K) a1.toNat).From)==(-1) then
 (gK (Dual.mk tA.Ins tA.aQ (x7.set a.toNat z0K)) a1).bind fun y_=>aC y_ (fun x8=>
 bif decide (0≤a1) then
 bif decide (a1.toNat<(x7.set a.toNat z0K).length) then
 bif decide (a1.toNat<(x7.set a.toNat z0K).length) then
 some ((x7.set a.toNat z0K).set a1.toNat z0K)
 else none
 else none
 else none)
 (fun x9=>
 bif ((x9.length:Nat):Int)==0 then
 bif decide (0≤a1) then
 bif decide (a1.toNat<(x7.set a.toNat z0K).length) then
 bif decide (a1.toNat<(x7.set a.toNat z0K).length) then
 some ((x7.set a.toNat z0K).set a1.toNat z0K)
 else none
 else none
 else none
 else
 some (x7.set a.toNat z0K))
 else
 some (x7.set a.toNat z0K)
 else none
 else none
 else none
 else none
 else none
 else none
 else
 bif decide (0≤a1) then
 bif decide (a1.toNat<x6.length) then
 bif decide (a1.toNat<x6.length) then
 bif ((nth x6 a1.toNat).From)==(-1) then
 (gK (Dual.mk tA.Ins tA.aQ x6) a1).bind fun y_=>aC y_ (fun x7=>
 bif decide (0≤a1) then
 bif decide (a1.toNat<x6.length) then
 bif decide (a1.toNat<x6.length) then
 some (x6.set a1.toNat z0K)
 else none
 else none
 else none)
 (fun x8=>
 bif ((x8.length:Nat):Int)==0 then
 bif decide (0≤a1) then
 bif decide (a1.toNat<x6.length) then
 bif decide (a1.toNat<x6.length) then
 some (x6.set a1.toNat z0K)
 else none
 else none
 else none
 else
 some x6)
 else
 some x6
 else none
 else none
 else none
 else none
 else none
 else none
 else
 bif decide (0≤a1) then
 bif decide (a1.toNat<x6.length) then
 bif decide (a1.toNat<x6.length) then
 bif ((nth x6 a1.toNat).From)==(-1) then
 (gK (Dual.mk tA.Ins tA.aQ x6) a1).bind fun y_=>aC y_ (fun x7=>
 bif decide (0≤a1) then
 bif decide (a1.toNat<x6.length) then
 bif decide (a1.toNat<x6.length) then
 some (x6.set a1.toNat z0K)
 else none
 else none
 else none)
 (fun x8=>
 bif ((x8.length:Nat):Int)==0 then
 bif decide (0≤a1) then
 bif decide (a1.toNat<x6.length) then
 bif decide (a1.toNat<x6.length) then
 some (x6.set a1.toNat z0K)
 else none
 else none
 else none
 else
 some x6)
 else
 some x6
 else none
 else none
 else none
 else none
 else none
 else none
 else none
 else none
 else none
 else none
theorem vZ (tA:Dual) (a:Int) (a1:Int) (i:Int) (i1:List Int) (o:Int) (o1:Int):∀y:List Knot,mD tA a a1 i i1 o o1=some y→Runs Tryz.prog (nav [1,1,1,1,1,1,1,1,1,1] (ah Tryz.f18)) (Hu tA a a1 i i1 o o1) ((fun (_:List Knot)=>.ret) y) ((fun (y:List Knot)=>vX tA a a1 y) y):=
 fK (eo:=fun (_:List Knot)=>.ret) (so:=fun (y:List Knot)=>vX tA a a1 y) 1010 (.op 140006 (.el Knot.D tA.All .dn) (.op 140018 (.el Knot.D tA.All .dn) (.call [] [] (Vf ((nth tA.All a.toNat).W) ((nth tA.All a1.toNat).W)) .no fun x5=>.ps 1000001 [.k [1,2,3,6,12,13,14,15,16] [10,11,1010,1011,100055]] (.lp1 0 (G7 tA a a1 i i1 o o1 x5 0 []) fun x6=>.cb 1 1011 2 100055 7 Knot.D x6 (.wb 1 99999 0 .nil) (.ps 1 [.k [1,2,3,6,12,14,15] [10,11,1010,1011,100055]] (.br 100000132 (.op 300010 (.el Knot.D tA.All .dn) (.op 300022 (.el Knot.D tA.All .dn) (.op 300038 (.el Knot.D tA.All .dn) (.op 300044 (.ap (cI .i64) [] ((nth tA.All a1.toNat).Next) 1 fun _=>⟨rfl,rfl⟩) (.op 300050 (.ap Knot.D x6 [Knot.mk ((nth tA.All a.toNat).From) ((nth tA.All a1.toNat).To) x5 ([]++((nth tA.All a1.toNat).Next)) false] 7 fun _=>⟨rfl,rfl⟩) (.op 310006 (.el Knot.D (x6++[Knot.mk ((nth tA.All a.toNat).From) ((nth tA.All a1.toNat).To) x5 ([]++((nth tA.All a1.toNat).Next)) false]) .dn) (.op 310010 (.ld Knot.D (x6++[Knot.mk ((nth tA.All a.toNat).From) ((nth tA.All a1.toNat).To) x5 ([]++((nth tA.All a1.toNat).Next)) false])) (.br 310016 (.op 310022 (.el Knot.D (x6++[Knot.mk ((nth tA.All a.toNat).From) ((nth tA.All a1.toNat).To) x5 ([]++((nth tA.All a1.toNat).Next)) false]) .dn) (.op 310026 (.ld Knot.D (x6++[Knot.mk ((nth tA.All a.toNat).From) ((nth tA.All a1.toNat).To) x5 ([]++((nth tA.All a1.toNat).Next)) false])) (.op 310028 (.ln (cI .i64) ((nth (x6++[Knot.mk ((nth tA.All a.toNat).From) ((nth tA.All a1.toNat).To) x5 ([]++((nth tA.All a1.toNat).Next)) false]) a.toNat).Next)) (.br 100000176 (.ps 1000001 [.k [1,2,6,15,19] [11,1011,1015]] (.lp1 0 (qQ tA a a1 o o1 0 (x6++[Knot.mk ((nth tA.All a.toNat).From) ((nth tA.All a1.toNat).To) x5 ([]++((nth tA.All a1.toNat).Next)) false])) fun x7=>.op 360008 (.el Knot.D x7 .dn) (.op 360010 (.st Knot.D x7 z0K) (.op 370006 (.el Knot.D (x7.set a.toNat z0K) .dn) (.op 370010 (.ld Knot.D (x7.set a.toNat z0K)) (.br 370016 (.Sr [] [100056] (jc (Dual.mk tA.Ins tA.aQ (x7.set a.toNat z0K)) a1) (.yes fun x_=>by cases x_<;>first | exact ⟨rfl,trivial⟩ | exact ⟨rfl,D9 (fun _=>rfl),trivial⟩) (fun x8=>.op 380008 (.el Knot.D (x7.set a.toNat z0K) .dn) (.op 380010 (.st Knot.D (x7.set a.toNat z0K) z0K) (.ps 1000003 [.k [6,7,8] [11,1015]] (.ret ((x7.set a.toNat z0K).set a1.toNat z0K))))) (fun x9=>.op 370022 (.ln (cI .i64) x9) (.br 100000215 (.op 380008 (.el Knot.D (x7.set a.toNat z0K) .dn) (.op 380010 (.st Knot.D (x7.set a.toNat z0K) z0K) (.ps 1000003 [.k [6,7,8] [11,1015]] (.ret ((x7.set a.toNat z0K).set a1.toNat z0K))))) (.ps 1000003 [.k [6,7,8] [11,1015]] (.ret (x7.set a.toNat z0K)))))) (.ps 1000003 [.k [6,7,8] [11,1015]] (.ret (x7.set a.toNat z0K))))))))) (.op 370006 (.el Knot.D (x6++[Knot.mk ((nth tA.All a.toNat).From) ((nth tA.All a1.toNat).To) x5 ([]++((nth tA.All a1.toNat).Next)) false]) .dn) (.op 370010 (.ld Knot.D (x6++[Knot.mk ((nth tA.All a.toNat).From) ((nth tA.All a1.toNat).To) x5 ([]++((nth tA.All a1.toNat).Next)) false])) (.br 370016 (.Sr [] [100056] (jc (Dual.mk tA.Ins tA.aQ (x6++[Knot.mk ((nth tA.All a.toNat).From) ((nth tA.All a1.toNat).To) x5 ([]++((nth tA.All a1.toNat).Next)) false])) a1) (.yes fun x_=>by cases x_<;>first | exact ⟨rfl,trivial⟩ | exact ⟨rfl,D9 (fun _=>rfl),trivial⟩) (fun x7=>.op 380008 (.el Knot.D (x6++[Knot.mk ((nth tA.All a.toNat).From) ((nth tA.All a1.toNat).To) x5 ([]++((nth tA.All a1.toNat).Next)) false]) .dn) (.op 380010 (.st Knot.D (x6++[Knot.mk ((nth tA.All a.toNat).From) ((nth tA.All a1.toNat).To) x5 ([]++((nth tA.All a1.toNat).Next)) false]) z0K) (.ps 1000003 [.k [6,7,8] [11,1015]] (.ret ((x6++[Knot.mk ((nth tA.All a.toNat).From) ((nth tA.All a1.toNat).To) x5 ([]++((nth tA.All a1.toNat).Next)) false]).set a1.toNat z0K))))) (fun x8=>.op 370022 (.ln (cI .i64) x8) (.br 100000215 (.op 380008 (.el Knot.D (x6++[Knot.mk ((nth tA.All a.toNat).From) ((nth tA.All a1.toNat).To) x5 ([]++((nth tA.All a1.toNat).Next)) false]) .dn) (.op 380010 (.st Knot.D (x6++[Knot.mk ((nth tA.All a.toNat).From) ((nth tA.All a1.toNat).To) x5 ([]++((nth tA.All a1.toNat).Next)) false]) z0K) (.ps 1000003 [.k [6,7,8] [11,1015]] (.ret ((x6++[Knot.mk ((nth tA.All a.toNat).From) ((nth tA.All a1.toNat).To) x5 ([]++((nth tA.All a1.toNat).Next)) false]).set a1.toNat z0K))))) (.ps 1000003 [.k [6,7,8] [11,1015]] (.ret (x6++[Knot.mk ((nth tA.All a.toNat).From) ((nth tA.All a1.toNat).To) x5 ([]++((nth tA.All a1.toNat).Next)) false])))))) (.ps 1000003 [.k [6,7,8] [11,1015]] (.ret (x6++[Knot.mk ((nth tA.All a.toNat).From) ((nth tA.All a1.toNat).To) x5 ([]++((nth tA.All a1.toNat).Next)) false])))))))))) (.op 370006 (.el Knot.D (x6++[Knot.mk ((nth tA.All a.toNat).From) ((nth tA.All a1.toNat).To) x5 ([]++((nth tA.All a1.toNat).Next)) false]) .dn) (.op 370010 (.ld Knot.D (x6++[Knot.mk ((nth tA.All a.toNat).From) ((nth tA.All a1.toNat).To) x5 ([]++((nth tA.All a1.toNat).Next)) false])) (.br 370016 (.Sr [] [100056] (jc (Dual.mk tA.Ins tA.aQ (x6++[Knot.mk ((nth tA.All a.toNat).From) ((nth tA.All a1.toNat).To) x5 ([]++((nth tA.All a1.toNat).Next)) false])) a1) (.yes fun x_=>by cases x_<;>first | exact ⟨rfl,trivial⟩ | exact ⟨rfl,D9 (fun _=>rfl),trivial⟩) (fun x7=>.op 380008 (.el Knot.D (x6++[Knot.mk ((nth tA.All a.toNat).From) ((nth tA.All a1.toNat).To) x5 ([]++((nth tA.All a1.toNat).Next)) false]) .dn) (.op 380010 (.st Knot.D (x6++[Knot.mk ((nth tA.All a.toNat).From) ((nth tA.All a1.toNat).To) x5 ([]++((nth tA.All a1.toNat).Next)) false]) z0K) (.ps 1000003 [.k [6,7,8] [11,1015]] (.ret ((x6++[Knot.mk ((nth tA.All a.toNat).From) ((nth tA.All a1.toNat).To) x5 ([]++((nth tA.All a1.toNat).Next)) false]).set a1.toNat z0K))))) (fun x8=>.op 370022 (.ln (cI .i64) x8) (.br 100000215 (.op 380008 (.el Knot.D (x6++[Knot.mk ((nth tA.All a.toNat).From) ((nth tA.All a1.toNat).To) x5 ([]++((nth tA.All a1.toNat).Next)) false]) .dn) (.op 380010 (.st Knot.D (x6++[Knot.mk ((nth tA.All a.toNat).From) ((nth tA.All a1.toNat).To) x5 ([]++((nth tA.All a1.toNat).Next)) false]) z0K) (.ps 1000003 [.k [6,7,8] [11,1015]] (.ret ((x6++[Knot.mk ((nth tA.All a.toNat).From) ((nth tA.All a1.toNat).To) x5 ([]++((nth tA.All a1.toNat).Next)) false]).set a1.toNat z0K))))) (.ps 1000003 [.k [6,7,8] [11,1015]] (.ret (x6++[Knot.mk ((nth tA.All a.toNat).From) ((nth tA.All a1.toNat).To) x5 ([]++((nth tA.All a1.toNat).Next)) false])))))) (.ps 1000003 [.k [6,7,8] [11,1015]] (.ret (x6++[Knot.mk ((nth tA.All a.toNat).From) ((nth tA.All a1.toNat).To) x5 ([]++((nth tA.All a1.toNat).Next)) false])))))))))))))) (.op 310006 (.el Knot.D x6 .dn) (.op 310010 (.ld Knot.D x6) (.br 310016 (.op 310022 (.el Knot.D x6 .dn) (.op 310026 (.ld Knot.D x6) (.op 310028 (.ln (cI .i64) ((nth x6 a.toNat).Next)) (.br 100000176 (.ps 1000001 [.k [1,2,6,15,19] [11,1011,100055],.m 100055 1015] (.lp1 0 (qQ tA a a1 o o1 0 x6) fun x7=>.op 360008 (.el Knot.D x7 .dn) (.op 360010 (.st Knot.D x7 z0K) (.op 370006 (.el Knot.D (x7.set a.toNat z0K) .dn) (.op 370010 (.ld Knot.D (x7.set a.toNat z0K)) (.br 370016 (.Sr [] [100056] (jc (Dual.mk tA.Ins tA.aQ (x7.set a.toNat z0K)) a1) (.yes fun x_=>by cases x_<;>first | exact ⟨rfl,trivial⟩ | exact ⟨rfl,D9 (fun _=>rfl),trivial⟩) (fun x8=>.op 380008 (.el Knot.D (x7.set a.toNat z0K) .dn) (.op 380010 (.st Knot.D (x7.set a.toNat z0K) z0K) (.ps 1000003 [.k [6,7,8] [11,1015]] (.ret ((x7.set a.toNat z0K).set a1.toNat z0K))))) (fun x9=>.op 370022 (.ln (cI .i64) x9) (.br 100000215 (.op 380008 (.el Knot.D (x7.set a.toNat z0K) .dn) (.op 380010 (.st Knot.D (x7.set a.toNat z0K) z0K) (.ps 1000003 [.k [6,7,8] [11,1015]] (.ret ((x7.set a.toNat z0K).set a1.toNat z0K))))) (.ps 1000003 [.k [6,7,8] [11,1015]] (.ret (x7.set a.toNat z0K)))))) (.ps 1000003 [.k [6,7,8] [11,1015]] (.ret (x7.set a.toNat z0K))))))))) (.op 370006 (.el Knot.D x6 .dn) (.op 370010 (.ld Knot.D x6) (.br 370016 (.Sr [] [100056] (jc (Dual.mk tA.Ins tA.aQ x6) a1) (.yes fun x_=>by cases x_<;>first | exact ⟨rfl,trivial⟩ | exact ⟨rfl,D9 (fun _=>rfl),trivial⟩) (fun x7=>.op 380008 (.el Knot.D x6 .dn) (.op 380010 (.st Knot.D x6 z0K) (.ps 1000003 [.k [6,7,8] [11,100055],.m 100055 1015] (.ret (x6.set a1.toNat z0K))))) (fun x8=>.op 370022 (.ln (cI .i64) x8) (.br 100000215 (.op 380008 (.el Knot.D x6 .dn) (.op 380010 (.st Knot.D x6 z0K) (.ps 1000003 [.k [6,7,8] [11,100055],.m 100055 1015] (.ret (x6.set a1.toNat z0K))))) (.ps 1000003 [.k [6,7,8] [11,100055],.m 100055 1015] (.ret x6))))) (.ps 1000003 [.k [6,7,8] [11,100055],.m 100055 1015] (.ret x6))))))))) (.op 370006 (.el Knot.D x6 .dn) (.op 370010 (.ld Knot.D x6) (.br 370016 (.Sr [] [100056] (jc (Dual.mk tA.Ins tA.aQ x6) a1) (.yes fun x_=>by cases x_<;>first | exact ⟨rfl,trivial⟩ | exact ⟨rfl,D9 (fun _=>rfl),trivial⟩) (fun x7=>.op 380008 (.el Knot.D x6 .dn) (.op 380010 (.st Knot.D x6 z0K) (.ps 1000003 [.k [6,7,8] [11,100055],.m 100055 1015] (.ret (x6.set a1.toNat z0K))))) (fun x8=>.op 370022 (.ln (cI .i64) x8) (.br 100000215 (.op 380008 (.el Knot.D x6 .dn) (.op 380010 (.st Knot.D x6 z0K) (.ps 1000003 [.k [6,7,8] [11,100055],.m 100055 1015] (.ret (x6.set a1.toNat z0K))))) (.ps 1000003 [.k [6,7,8] [11,100055],.m 100055 1015] (.ret x6))))) (.ps 1000003 [.k [6,7,8] [11,100055],.m 100055 1015] (.ret x6)))))))))))))) (by kernel_rfl)
def eu (tA:Dual) (a:Int) (a1:Int):Option (Dual×Int×Int):=
 (mV tA).bind fun x0=>
 bif !x0 then
 some (Dual.mk 0 0 [],0,1)
 else
 (Bf tA a).bind fun x1=>
 bif !x1 then
 some (Dual.mk 0 0 [],0,9)
 else
 bif decide (0≤a) then
 bif decide (a.toNat<tA.All.length) then
 (zN ((nth tA.All a.toNat).Next) a1).bind fun x2=>
 bif !x2 then
 some (Dual.mk 0 0 [],0,9)
 else
 (Fp tA a a1).bind fun x3=>
 bif decide (x3<0) then
 bif decide (((tA.All.length:Nat):Int)≥20000) then
 some (Dual.mk 0 0 [],0,4)
 else
 (jM tA a).bind fun x4=>
 (mD tA a a1 x3 x4 0 0).bind fun x5=>
 some (Dual.mk tA.Ins tA.aQ x5,1,0)
 else
 (jM tA a).bind fun x4=>
 (mD tA a a1 x3 x4 0 0).bind fun x5=>
 some (Dual.mk tA.Ins tA.aQ x5,1,0)
 else none
 else none
theorem JQ (tA:Dual) (a:Int) (a1:Int):∀r,eu tA a a1=some r→au Tryz.prog 18 0 [AG Dual.D tA,I a,I a1] [] (.tup [AG Dual.D r.1,I r.2.1,I r.2.2]) []:=
 ay (enc:=fun r=>.tup [AG Dual.D r.1,I r.2.1,I r.2.2]) (aU:=fun r=>[]) 10 (.call [] [] (QA tA) .no fun x0=>.br 100000023 (.ps 1000003 [.b 11] (.ret (Dual.mk 0 0 [],0,1))) (.call [] [] (Jl tA a) .no fun x1=>.br 100000029 (.ps 1000003 [.b 11] (.ret (Dual.mk 0 0 [],0,9))) (.op 70006 (.el Knot.D tA.All .dn) (.call [] [] (mQ ((nth tA.All a.toNat).Next) a1) .no fun x2=>.br 100000040 (.ps 1000003 [.b 11] (.ret (Dual.mk 0 0 [],0,9))) (.call [] [] (Tj tA a a1) .no fun x3=>.br 110006 (.op 110010 (.ln Knot.D tA.All) (.br 100000053 (.ps 1000003 [.b 11] (.ret (Dual.mk 0 0 [],0,4))) (.call [] [] (kV tA a) .no fun x4=>.ps 26 [.k [1,2,3,6,12,13] [10,11]] (.lp1 200000014 (vZ tA a a1 x3 x4 0 0) fun x5=>.ps 1000003 [.b 11] (.ret (Dual.mk tA.Ins tA.aQ x5,1,0)))))) (.call [] [] (kV tA a) .no fun x4=>.ps 26 [.k [1,2,3,6,12,13] [10,11]] (.lp1 200000014 (vZ tA a a1 x3 x4 0 0) fun x5=>.ps 1000003 [.b 11] (.ret (Dual.mk tA.Ins tA.aQ x5,1,0))))))))) Tryz.func18 (by kernel_rfl) (by kernel_rfl) (by kernel_rfl)
def Gi:Option Bool:=
 (Lu 6).bind fun x0=>
 (Lu 1).bind fun x1=>
 (YS (Graph.mk 1 1 1 [Edge.mk 0 1 x0,Edge.mk 1 2 x1] [])).bind fun x2=>
 (dK x2 0 1).bind fun x3=>
 (Lu 6).bind fun x4=>
 bif x3.2.2==0 then
 bif x3.2.1==1 then
 (zJ x3.1 (Dual.mk 1 1 [Knot.mk (-1) (-1) (Rat.mk false [] []) [] true,Knot.mk (-1) (-1) (Rat.mk false [] []) [] true,Knot.mk 0 0 x4 [] false])).bind fun x5=>
 bif x5 then
 (ku x2).bind fun x6=>
 bif x6 then
 (Rz x2).bind fun x7=>
 bif ((x7.length:Nat):Int)==1 then
 (DI x3.1).bind fun x8=>
 bif x8 then
 (DI x2).bind fun x9=>
 some (!x9)
 else
 some false
 else
 some false
 else
 some false
 else
 some false
 else
 some false
 else
 some false
theorem Rq:∀r,Gi=some r→au Tryz.prog 15 0 [] [] (B r) []:=
 ay (enc:=fun r=>B r) (aU:=fun r=>[]) 10 (.call [] [] (Gl 6) .no fun x0=>.call [] [] (Gl 1) .no fun x1=>.call [] [] (Yl (Graph.mk 1 1 1 [Edge.mk 0 1 x0,Edge.mk 1 2 x1] [])) .no fun x2=>.call [] [] (BX x2 0 1) .no fun x3=>.call [] [] (Gl 6) .no fun x4=>.br 60006 (.br 60014 (.call [] [] (Jc x3.1 (Dual.mk 1 1 [Knot.mk (-1) (-1) (Rat.mk false [] []) [] true,Knot.mk (-1) (-1) (Rat.mk false [] []) [] true,Knot.mk 0 0 x4 [] false])) (.yes fun _=>⟨rfl,trivial⟩) fun x5=>.br 60024 (.call [] [] (vG x2) .no fun x6=>.br 60032 (.call [] [] (Td x2) .no fun x7=>.op 60036 (.ln Step.D x7) (.br 60044 (.call [] [] (Ec x3.1) .no fun x8=>.br 60052 (.call [] [] (Ec x2) .no fun x9=>.ret (!x9)) (.ret false)) (.ret false))) (.ret false)) (.ret false)) (.ret false)) (.ret false)) Tryz.func15 (by kernel_rfl) (by kernel_rfl) (by kernel_rfl)
end Go.Ab.M
