import Derived.Test.YtjboagogechleaaGreatTX
import Derived.Test.YtjboagogechleaaGreatCN
import Derived.Test.YtjboagogechleaaGreatCO
namespace Go.Ab.M
open Go.Proofs
set_option linter.unusedVariables false
set_option maxRecDepth 100000
abbrev kv1:Int→Value:=fun n=>Value.int .i64 n
theorem kx1:BI Tryz.prog 102 kv1:=iD Tryz.underlying102 Tryz.underlying3
def EX (tA:Graph) (x1:List (Int×(List Int))) (i:Nat) (o:List Knot):St:=⟨87,0,[(1,.ptr 10 0 0),(2,.ptr 11 0 0),(3,.ptr 12 0 0),(4,.map 13),(40,SL Edge.D tA.aj),(41,I ((tA.aj.length:Nat):Int)),(42,I ((i:Nat):Int))],[(10,BOX [I tA.Ins,I tA.jB,I tA.aQ,SL Edge.D tA.aj,SL (cI .i64) tA.Gone]),(11,BOX [I 0,I 0,Dy]),(12,BOX [I tA.Ins,I tA.aQ,iH 100047 o]),(13,MAP false kv1 (cL (cI .i64)) x1),(100047,je 7 Knot.D o)]⟩
def FD (tA:Graph) (x1:List (Int×(List Int))) (o:List Knot):St:=⟨87,0,[(2,.ptr 11 0 0),(3,.ptr 12 0 0)],[(11,BOX [I 0,I 0,Dy]),(12,BOX [I tA.Ins,I tA.aQ,iH 100047 o]),(100047,je 7 Knot.D o)]⟩
def J3 (tA:Graph) (x1:List (Int×(List Int))) (i:Nat) (o:List Knot):Option ((Nat×List Knot)⊕(List Knot)):=
 bif decide (((i:Nat):Int)<((tA.aj.length:Nat):Int)) then
 bif decide (i<tA.aj.length) then
 (cO (dO x1 ((nth tA.aj i).To) [])).bind fun x2=>
 bif decide (((nth tA.aj i).From)<tA.Ins) then
 bif inK .i64 (tA.Ins+tA.jB) then
 bif decide (((nth tA.aj i).To)≥(tA.Ins+tA.jB)) then
 bif inK .i64 (((nth tA.aj i).To)-tA.Ins) then
 bif inK .i64 ((((nth tA.aj i).To)-tA.Ins)-tA.jB) then
 bif decide (o.length+1≤2147483648) then
 bif inK .i64 (((i:Nat):Int)+1) then
 some (.inl (i+1,o++[Knot.mk ((nth tA.aj i).From) ((((nth tA.aj i).To)-tA.Ins)-tA.jB) ((nth tA.aj i).W) x2 false]))
 else none
 else none
 else none
 else none
 else
 bif decide (o.length+1≤2147483648) then
 bif inK .i64 (((i:Nat):Int)+1) then
 some (.inl (i+1,o++[Knot.mk ((nth tA.aj i).From) (-1) ((nth tA.aj i).W) x2 false]))
 else none
 else none
 else none
 else
 bif inK .i64 (tA.Ins+tA.jB) then
 bif decide (((nth tA.aj i).To)≥(tA.Ins+tA.jB)) then
 bif inK .i64 (((nth tA.aj i).To)-tA.Ins) then
 bif inK .i64 ((((nth tA.aj i).To)-tA.Ins)-tA.jB) then
 bif decide (o.length+1≤2147483648) then
 bif inK .i64 (((i:Nat):Int)+1) then
 some (.inl (i+1,o++[Knot.mk (-1) ((((nth tA.aj i).To)-tA.Ins)-tA.jB) ((nth tA.aj i).W) x2 false]))
 else none
 else none
 else none
 else none
 else
 bif decide (o.length+1≤2147483648) then
 bif inK .i64 (((i:Nat):Int)+1) then
 some (.inl (i+1,o++[Knot.mk (-1) (-1) ((nth tA.aj i).W) x2 false]))
 else none
 else none
 else none
 else none
 else
 some (.inr o)
theorem VN (tA:Graph) (x1:List (Int×(List Int))):∀σ:Nat×List Knot,aN Tryz.prog (nav [1,1,1,1,1,0,1,0,0] (ah Tryz.f21)) (fun (σ:Nat×List Knot)=>EX tA x1 σ.1 σ.2) (fun (_:List Knot)=>(.exit 2)) (fun (y:List Knot)=>FD tA x1 y) σ (J3 tA x1 σ.1 σ.2)
 | (i,[])=>aH 1010 (.br 100000043 (.op 120000 (.el Edge.D tA.aj (.up i)) (.op 130010 (.lu Tryz.prog 102 false kv1 (cL (cI .i64)) [] kx1 x1 ((nth tA.aj i).To)) (.call [] [] (kG (dO x1 ((nth tA.aj i).To) [])) .no fun x2=>.br 100000058 (.br 100000069 (.op 180008 (.ap Knot.D [] [Knot.mk ((nth tA.aj i).From) ((((nth tA.aj i).To)-tA.Ins)-tA.jB) ((nth tA.aj i).W) x2 false] 7 fun _=>⟨rfl,rfl⟩) (.ps 1000003 [.k [1,2,3,4,40,41,42] [10,11,12,13,1013],.m 1013 100047] (.ret (.inl (i+1,[Knot.mk ((nth tA.aj i).From) ((((nth tA.aj i).To)-tA.Ins)-tA.jB) ((nth tA.aj i).W) x2 false]))))) (.op 180008 (.ap Knot.D [] [Knot.mk ((nth tA.aj i).From) (-1) ((nth tA.aj i).W) x2 false] 7 fun _=>⟨rfl,rfl⟩) (.ps 1000003 [.k [1,2,3,4,40,41,42] [10,11,12,13,1013],.m 1013 100047] (.ret (.inl (i+1,[Knot.mk ((nth tA.aj i).From) (-1) ((nth tA.aj i).W) x2 false])))))) (.br 100000069 (.op 180008 (.ap Knot.D [] [Knot.mk (-1) ((((nth tA.aj i).To)-tA.Ins)-tA.jB) ((nth tA.aj i).W) x2 false] 7 fun _=>⟨rfl,rfl⟩) (.ps 1000003 [.k [1,2,3,4,40,41,42] [10,11,12,13,1013],.m 1013 100047] (.ret (.inl (i+1,[Knot.mk (-1) ((((nth tA.aj i).To)-tA.Ins)-tA.jB) ((nth tA.aj i).W) x2 false]))))) (.op 180008 (.ap Knot.D [] [Knot.mk (-1) (-1) ((nth tA.aj i).W) x2 false] 7 fun _=>⟨rfl,rfl⟩) (.ps 1000003 [.k [1,2,3,4,40,41,42] [10,11,12,13,1013],.m 1013 100047] (.ret (.inl (i+1,[Knot.mk (-1) (-1) ((nth tA.aj i).W) x2 false]))))))))) (.ps 1000003 [.k [2,3] [11,12,100047]] (.ret (.inr [])))) (by kernel_rfl)
 | (i,o_h::o_t)=>aH 1010 (.br 100000043 (.op 120000 (.el Edge.D tA.aj (.up i)) (.op 130010 (.lu Tryz.prog 102 false kv1 (cL (cI .i64)) [] kx1 x1 ((nth tA.aj i).To)) (.call [] [] (kG (dO x1 ((nth tA.aj i).To) [])) .no fun x2=>.br 100000058 (.br 100000069 (.op 180008 (.ap Knot.D (o_h::o_t) [Knot.mk ((nth tA.aj i).From) ((((nth tA.aj i).To)-tA.Ins)-tA.jB) ((nth tA.aj i).W) x2 false] 7 fun _=>⟨rfl,rfl⟩) (.ps 1000003 [.k [1,2,3,4,40,41,42] [10,11,12,13,1013],.m 1013 100047] (.ret (.inl (i+1,(o_h::o_t)++[Knot.mk ((nth tA.aj i).From) ((((nth tA.aj i).To)-tA.Ins)-tA.jB) ((nth tA.aj i).W) x2 false]))))) (.op 180008 (.ap Knot.D (o_h::o_t) [Knot.mk ((nth tA.aj i).From) (-1) ((nth tA.aj i).W) x2 false] 7 fun _=>⟨rfl,rfl⟩) (.ps 1000003 [.k [1,2,3,4,40,41,42] [10,11,12,13,1013],.m 1013 100047] (.ret (.inl (i+1,(o_h::o_t)++[Knot.mk ((nth tA.aj i).From) (-1) ((nth tA.aj i).W) x2 false])))))) (.br 100000069 (.op 180008 (.ap Knot.D (o_h::o_t) [Knot.mk (-1) ((((nth tA.aj i).To)-tA.Ins)-tA.jB) ((nth tA.aj i).W) x2 false] 7 fun _=>⟨rfl,rfl⟩) (.ps 1000003 [.k [1,2,3,4,40,41,42] [10,11,12,13,1013],.m 1013 100047] (.ret (.inl (i+1,(o_h::o_t)++[Knot.mk (-1) ((((nth tA.aj i).To)-tA.Ins)-tA.jB) ((nth tA.aj i).W) x2 false]))))) (.op 180008 (.ap Knot.D (o_h::o_t) [Knot.mk (-1) (-1) ((nth tA.aj i).W) x2 false] 7 fun _=>⟨rfl,rfl⟩) (.ps 1000003 [.k [1,2,3,4,40,41,42] [10,11,12,13,1013],.m 1013 100047] (.ret (.inl (i+1,(o_h::o_t)++[Knot.mk (-1) (-1) ((nth tA.aj i).W) x2 false]))))))))) (.ps 1000003 [.k [2,3] [11,12,100047]] (.ret (.inr (o_h::o_t))))) (by kernel_rfl)
def Ub (tA:Graph) (x1:List (Int×(List Int))) (i:Nat) (o:List Knot):Option (List Knot):=aK (fun (σ:Nat×List Knot)=>J3 tA x1 σ.1 σ.2) FU (i,o)
theorem WE (tA:Graph) (x1:List (Int×(List Int))) (i:Nat) (o:List Knot):∀y:List Knot,Ub tA x1 i o=some y→Runs Tryz.prog (.loop (nav [1,1,1,1,1,0,1,0,0] (ah Tryz.f21))) (EX tA x1 i o) ((.exit 2)) ((fun (y:List Knot)=>FD tA x1 y) y):=
 aX (head:=fun (σ:Nat×List Knot)=>EX tA x1 σ.1 σ.2) (eo:=fun (_:List Knot)=>(.exit 2)) (so:=fun (y:List Knot)=>FD tA x1 y) (VN tA x1) (fun _ h=>by cases h) FU (i,o)
def YS (tA:Graph):Option Dual:=
 (NU tA).bind fun x0=>
 bif !x0 then
 some (Dual.mk 0 0 [])
 else
 (ND tA).bind fun x1=>
 (Ub tA x1 0 []).bind fun x2=>
 some (Dual.mk tA.Ins tA.aQ x2)
theorem Yl (tA:Graph):∀r,YS tA=some r→au Tryz.prog 21 0 [AG Graph.D tA] [] (AG Dual.D r) []:=
 ay (enc:=fun r=>AG Dual.D r) (aU:=fun r=>[]) 10 (.call [] [] (Qk tA) .no fun x0=>.br 100000012 (.ps 1000003 [.b 11] (.ret (Dual.mk 0 0 []))) (.op 50004 (.ln Edge.D tA.aj) (.ps 1000001 [.k [1,2,3,4,21,22,23] [10,11,12,13]] (.lp1 0 (VG tA) fun x1=>.op 100004 (.ln Edge.D tA.aj) (.ps 1000001 [.k [1,2,3,4,40,41,42] [10,11,12,13,100047]] (.lp1 0 (WE tA x1 0 []) fun x2=>.ob 5 12 2 100047 7 Knot.D x2 (.ps 5 [.k [2,3] [11,12]] (.ret (Dual.mk tA.Ins tA.aQ x2))))))))) Tryz.func21 (by kernel_rfl) (by kernel_rfl) (by kernel_rfl)
def wV (tA:Dual) (x0:List (List Int)) (i:List Int) (i1:Nat) (o:List Int):St:=⟨79,0,[(1,.ptr 10 0 0),(4,.msl 11 0 none (some tA.All.length)),(5,iH 100048 i),(16,SL (cL (cI .i64)) x0),(17,I ((x0.length:Nat):Int)),(18,I ((i1:Nat):Int))],[(10,BOX [I tA.Ins,I tA.aQ,SL Knot.D tA.All]),(11,ROW 1 (cI .i64) o 0),(100048,je 1 (cI .i64) i)]⟩
def wK (tA:Dual) (x0:List (List Int)) (i:List Int) (o:List Int):St:=⟨79,0,[(1,.ptr 10 0 0),(4,.msl 11 0 none (some tA.All.length)),(5,iH 100048 i)],[(10,BOX [I tA.Ins,I tA.aQ,SL Knot.D tA.All]),(11,ROW 1 (cI .i64) o 0),(100048,je 1 (cI .i64) i)]⟩
def jD (tA:Dual) (x0:List (List Int)) (i:List Int) (i1:Nat) (o:List Int):Option ((List Int×Nat×List Int)⊕(List Int×List Int)):=
 bif decide (((i1:Nat):Int)<((x0.length:Nat):Int)) then
 bif decide (i1<x0.length) then
 bif decide (i1<o.length) then
 bif decide (i1<o.length) then
 bif (((nth x0 i1).length:Nat):Int)==0 then
 bif decide (i.length+1≤2147483648) then
 bif inK .i64 (((i1:Nat):Int)+1) then
 some (.inl (i++[((i1:Nat):Int)],i1+1,o.set i1 (((nth x0 i1).length:Nat):Int)))
 else none
 else none
 else
 bif inK .i64 (((i1:Nat):Int)+1) then
 some (.inl (i,i1+1,o.set i1 (((nth x0 i1).length:Nat):Int)))
 else none
 else none
 else none
 else none
 else
 some (.inr (i,o))
theorem O0 (tA:Dual) (x0:List (List Int)):∀σ:List Int×Nat×List Int,aN Tryz.prog (nav [1,1,1,0,1,0,0] (ah Tryz.f75)) (fun (σ:List Int×Nat×List Int)=>wV tA x0 σ.1 σ.2.1 σ.2.2) (fun (_:List Int×List Int)=>(.exit 0)) (fun (y:List Int×List Int)=>wK tA x0 y.1 y.2) σ (jD tA x0 σ.1 σ.2.1 σ.2.2)
 | ([],i1,o)=>aH 1010 (.br 100000019 (.op 50002 (.el (cL (cI .i64)) x0 (.up i1)) (.op 60006 (.ln (cI .i64) (nth x0 i1)) (.op 60008 (.el (cI .i64) o (.up i1)) (.op 60010 (.st (cI .i64) o (((nth x0 i1).length:Nat):Int)) (.op 70002 (.ln (cI .i64) (nth x0 i1)) (.br 100000030 (.op 80006 (.ap (cI .i64) [] [((i1:Nat):Int)] 1 fun _=>⟨rfl,rfl⟩) (.ps 1000003 [.k [1,4,5,16,17,18] [10,11,1011],.m 1011 100048] (.ret (.inl ([((i1:Nat):Int)],i1+1,o.set i1 (((nth x0 i1).length:Nat):Int)))))) (.ps 1000003 [.k [1,4,5,16,17,18] [10,11,100048]] (.ret (.inl ([],i1+1,o.set i1 (((nth x0 i1).length:Nat):Int))))))))))) (.ps 1000003 [.k [1,4,5] [10,11,100048]] (.ret (.inr ([],o))))) (by kernel_rfl)
 | (i_h::i_t,i1,o)=>aH 1010 (.br 100000019 (.op 50002 (.el (cL (cI .i64)) x0 (.up i1)) (.op 60006 (.ln (cI .i64) (nth x0 i1)) (.op 60008 (.el (cI .i64) o (.up i1)) (.op 60010 (.st (cI .i64) o (((nth x0 i1).length:Nat):Int)) (.op 70002 (.ln (cI .i64) (nth x0 i1)) (.br 100000030 (.op 80006 (.ap (cI .i64) (i_h::i_t) [((i1:Nat):Int)] 1 fun _=>⟨rfl,rfl⟩) (.ps 1000003 [.k [1,4,5,16,17,18] [10,11,1011],.m 1011 100048] (.ret (.inl ((i_h::i_t)++[((i1:Nat):Int)],i1+1,o.set i1 (((nth x0 i1).length:Nat):Int)))))) (.ps 1000003 [.k [1,4,5,16,17,18] [10,11,100048]] (.ret (.inl ((i_h::i_t),i1+1,o.set i1 (((nth x0 i1).length:Nat):Int))))))))))) (.ps 1000003 [.k [1,4,5] [10,11,100048]] (.ret (.inr ((i_h::i_t),o))))) (by kernel_rfl)
def yM (tA:Dual) (x0:List (List Int)) (i:List Int) (i1:Nat) (o:List Int):Option (List Int×List Int):=aK (fun (σ:List Int×Nat×List Int)=>jD tA x0 σ.1 σ.2.1 σ.2.2) FU (i,i1,o)
theorem OI (tA:Dual) (x0:List (List Int)) (i:List Int) (i1:Nat) (o:List Int):∀y:List Int×List Int,yM tA x0 i i1 o=some y→Runs Tryz.prog (.loop (nav [1,1,1,0,1,0,0] (ah Tryz.f75))) (wV tA x0 i i1 o) ((.exit 0)) ((fun (y:List Int×List Int)=>wK tA x0 y.1 y.2) y):=
 aX (head:=fun (σ:List Int×Nat×List Int)=>wV tA x0 σ.1 σ.2.1 σ.2.2) (eo:=fun (_:List Int×List Int)=>(.exit 0)) (so:=fun (y:List Int×List Int)=>wK tA x0 y.1 y.2) (O0 tA x0) (fun _ h=>by cases h) FU (i,i1,o)
def rH (tA:Dual) (i:List Int) (i1:Nat) (i2:List Int) (i3:Nat) (o1:List Int):St:=⟨79,0,[(1,.ptr 10 0 0),(4,.msl 11 0 none (some tA.All.length)),(5,iH 100048 i2),(8,I ((i1:Nat):Int)),(50,SL (cI .i64) ((nth tA.All ((nth i i1).toNat)).Next)),(51,I ((((nth tA.All ((nth i i1).toNat)).Next).length:Nat):Int)),(52,I ((i3:Nat):Int))],[(10,BOX [I tA.Ins,I tA.aQ,SL Knot.D tA.All]),(11,ROW 1 (cI .i64) o1 0),(100048,je 1 (cI .i64) i2)]⟩
def rM (tA:Dual) (i:List Int) (i1:Nat) (i2:List Int) (o1:List Int):St:=⟨79,0,[(1,.ptr 10 0 0),(4,.msl 11 0 none (some tA.All.length)),(5,iH 100048 i2),(8,I ((i1:Nat):Int))],[(10,BOX [I tA.Ins,I tA.aQ,SL Knot.D tA.All]),(11,ROW 1 (cI .i64) o1 0),(100048,je 1 (cI .i64) i2)]⟩
def iw (tA:Dual) (i:List Int) (i1:Nat) (i2:List Int) (i3:Nat) (o1:List Int):Option ((List Int×Nat×List Int)⊕(List Int×List Int)):=
 bif decide (((i3:Nat):Int)<((((nth tA.All ((nth i i1).toNat)).Next).length:Nat):Int)) then
 bif decide (i3<((nth tA.All ((nth i i1).toNat)).Next).length) then
 bif decide (0≤nth ((nth tA.All ((nth i i1).toNat)).Next) i3) then
 bif decide ((nth ((nth tA.All ((nth i i1).toNat)).Next) i3).toNat<o1.length) then
 bif decide ((nth ((nth tA.All ((nth i i1).toNat)).Next) i3).toNat<o1.length) then
 bif inK .i64 ((nth o1 ((nth ((nth tA.All ((nth i i1).toNat)).Next) i3).toNat))-1) then
 bif decide (0≤nth ((nth tA.All ((nth i i1).toNat)).Next) i3) then
 bif decide ((nth ((nth tA.All ((nth i i1).toNat)).Next) i3).toNat<o1.length) then
 bif decide ((nth ((nth tA.All ((nth i i1).toNat)).Next) i3).toNat<o1.length) then
 bif decide (0≤nth ((nth tA.All ((nth i i1).toNat)).Next) i3) then
 bif decide ((nth ((nth tA.All ((nth i i1).toNat)).Next) i3).toNat<(o1.set ((nth ((nth tA.All ((nth i i1).toNat)).Next) i3).toNat) ((nth o1 ((nth ((nth tA.All ((nth i i1).toNat)).Next) i3).toNat))-1)).length) then
 bif decide ((nth ((nth tA.All ((nth i i1).toNat)).Next) i3).toNat<(o1.set ((nth ((nth tA.All ((nth i i1).toNat)).Next) i3).toNat) ((nth o1 ((nth ((nth tA.All ((nth i i1).toNat)).Next) i3).toNat))-1)).length) then
 bif (nth (o1.set ((nth ((nth tA.All ((nth i i1).toNat)).Next) i3).toNat) ((nth o1 ((nth ((nth tA.All ((nth i i1).toNat)).Next) i3).toNat))-1)) ((nth ((nth tA.All ((nth i i1).toNat)).Next) i3).toNat))==0 then
 bif decide (i2.length+1≤2147483648) then
 bif inK .i64 (((i3:Nat):Int)+1) then
 some (.inl (i2++[nth ((nth tA.All ((nth i i1).toNat)).Next) i3],i3+1,o1.set ((nth ((nth tA.All ((nth i i1).toNat)).Next) i3).toNat) ((nth o1 ((nth ((nth tA.All ((nth i i1).toNat)).Next) i3).toNat))-1)))
 else none
 else none
 else
 bif inK .i64 (((i3:Nat):Int)+1) then
 some (.inl (i2,i3+1,o1.set ((nth ((nth tA.All ((nth i i1).toNat)).Next) i3).toNat) ((nth o1 ((nth ((nth tA.All ((nth i i1).toNat)).Next) i3).toNat))-1)))
 else none
 else none
 else none
 else none
 else none
 else none
 else none
 else none
 else none
 else none
 else none
 else none
 else
 some (.inr (i2,o1))
theorem KZ (tA:Dual) (i:List Int) (i1:Nat):∀σ:List Int×Nat×List Int,aN Tryz.prog (nav [1,1,1,1,0,1,0,0,1,0,0,1,0,0] (ah Tryz.f75)) (fun (σ:List Int×Nat×List Int)=>rH tA i i1 σ.1 σ.2.1 σ.2.2) (fun (_:List Int×List Int)=>(.exit 4)) (fun (y:List Int×List Int)=>rM tA i i1 y.1 y.2) σ (iw tA i i1 σ.1 σ.2.1 σ.2.2)
 | ([],i3,o1)=>aH 2010 (.br 100000053 (.op 150000 (.el (cI .i64) ((nth tA.All ((nth i i1).toNat)).Next) (.up i3)) (.op 160004 (.el (cI .i64) o1 .dn) (.op 160006 (.ld (cI .i64) o1) (.op 160010 (.el (cI .i64) o1 .dn) (.op 160012 (.st (cI .i64) o1 ((nth o1 ((nth ((nth tA.All ((nth i i1).toNat)).Next) i3).toNat))-1)) (.op 170004 (.el (cI .i64) (o1.set ((nth ((nth tA.All ((nth i i1).toNat)).Next) i3).toNat) ((nth o1 ((nth ((nth tA.All ((nth i i1).toNat)).Next) i3).toNat))-1)) .dn) (.op 170006 (.ld (cI .i64) (o1.set ((nth ((nth tA.All ((nth i i1).toNat)).Next) i3).toNat) ((nth o1 ((nth ((nth tA.All ((nth i i1).toNat)).Next) i3).toNat))-1))) (.br 100000066 (.op 180006 (.ap (cI .i64) [] [nth ((nth tA.All ((nth i i1).toNat)).Next) i3] 1 fun _=>⟨rfl,rfl⟩) (.ps 1000003 [.k [1,4,5,8,50,51,52] [10,11,2011],.m 2011 100048] (.ret (.inl ([nth ((nth tA.All ((nth i i1).toNat)).Next) i3],i3+1,o1.set ((nth ((nth tA.All ((nth i i1).toNat)).Next) i3).toNat) ((nth o1 ((nth ((nth tA.All ((nth i i1).toNat)).Next) i3).toNat))-1)))))) (.ps 1000003 [.k [1,4,5,8,50,51,52] [10,11,100048]] (.ret (.inl ([],i3+1,o1.set ((nth ((nth tA.All ((nth i i1).toNat)).Next) i3).toNat) ((nth o1 ((nth ((nth tA.All ((nth i i1).toNat)).Next) i3).toNat))-1))))))))))))) (.ps 1000003 [.k [1,4,5,8] [10,11,100048]] (.ret (.inr ([],o1))))) (by kernel_rfl)
 | (acG::acO,i3,o1)=>aH 2010 (.br 100000053 (.op 150000 (.el (cI .i64) ((nth tA.All ((nth i i1).toNat)).Next) (.up i3)) (.op 160004 (.el (cI .i64) o1 .dn) (.op 160006 (.ld (cI .i64) o1) (.op 160010 (.el (cI .i64) o1 .dn) (.op 160012 (.st (cI .i64) o1 ((nth o1 ((nth ((nth tA.All ((nth i i1).toNat)).Next) i3).toNat))-1)) (.op 170004 (.el (cI .i64) (o1.set ((nth ((nth tA.All ((nth i i1).toNat)).Next) i3).toNat) ((nth o1 ((nth ((nth tA.All ((nth i i1).toNat)).Next) i3).toNat))-1)) .dn) (.op 170006 (.ld (cI .i64) (o1.set ((nth ((nth tA.All ((nth i i1).toNat)).Next) i3).toNat) ((nth o1 ((nth ((nth tA.All ((nth i i1).toNat)).Next) i3).toNat))-1))) (.br 100000066 (.op 180006 (.ap (cI .i64) (acG::acO) [nth ((nth tA.All ((nth i i1).toNat)).Next) i3] 1 fun _=>⟨rfl,rfl⟩) (.ps 1000003 [.k [1,4,5,8,50,51,52] [10,11,2011],.m 2011 100048] (.ret (.inl ((acG::acO)++[nth ((nth tA.All ((nth i i1).toNat)).Next) i3],i3+1,o1.set ((nth ((nth tA.All ((nth i i1).toNat)).Next) i3).toNat) ((nth o1 ((nth ((nth tA.All ((nth i i1).toNat)).Next) i3).toNat))-1)))))) (.ps 1000003 [.k [1,4,5,8,50,51,52] [10,11,100048]] (.ret (.inl ((acG::acO),i3+1,o1.set ((nth ((nth tA.All ((nth i i1).toNat)).Next) i3).toNat) ((nth o1 ((nth ((nth tA.All ((nth i i1).toNat)).Next) i3).toNat))-1))))))))))))) (.ps 1000003 [.k [1,4,5,8] [10,11,100048]] (.ret (.inr ((acG::acO),o1))))) (by kernel_rfl)
def rC (tA:Dual) (i:List Int) (i1:Nat) (i2:List Int) (i3:Nat) (o1:List Int):Option (List Int×List Int):=aK (fun (σ:List Int×Nat×List Int)=>iw tA i i1 σ.1 σ.2.1 σ.2.2) FU (i2,i3,o1)
theorem KH (tA:Dual) (i:List Int) (i1:Nat) (i2:List Int) (i3:Nat) (o1:List Int):∀y:List Int×List Int,rC tA i i1 i2 i3 o1=some y→Runs Tryz.prog (.loop (nav [1,1,1,1,0,1,0,0,1,0,0,1,0,0] (ah Tryz.f75))) (rH tA i i1 i2 i3 o1) ((.exit 4)) ((fun (y:List Int×List Int)=>rM tA i i1 y.1 y.2) y):=
 aX (head:=fun (σ:List Int×Nat×List Int)=>rH tA i i1 σ.1 σ.2.1 σ.2.2) (eo:=fun (_:List Int×List Int)=>(.exit 4)) (so:=fun (y:List Int×List Int)=>rM tA i i1 y.1 y.2) (KZ tA i i1) (fun _ h=>by cases h) FU (i2,i3,o1)
def qY (tA:Dual) (i:List Int) (i1:Nat) (o:List Int):St:=⟨79,0,[(1,.ptr 10 0 0),(4,.msl 11 0 none (some tA.All.length)),(5,iH 100048 i),(8,I ((i1:Nat):Int))],[(10,BOX [I tA.Ins,I tA.aQ,SL Knot.D tA.All]),(11,ROW 1 (cI .i64) o 0),(100048,je 1 (cI .i64) i)]⟩
def rZ (tA:Dual) (i:List Int):St:=⟨79,0,[(1,.ptr 10 0 0),(5,iH 100048 i)],[(10,BOX [I tA.Ins,I tA.aQ,SL Knot.D tA.All]),(100048,je 1 (cI .i64) i)]⟩
def jV (tA:Dual) (i:List Int) (i1:Nat) (o:List Int):Option ((List Int×Nat×List Int)⊕(List Int)):=
 bif decide (((i1:Nat):Int)<((i.length:Nat):Int)) then
 bif decide (i1<i.length) then
 bif decide (i1<i.length) then
 bif decide (0≤nth i i1) then
 bif decide ((nth i i1).toNat<tA.All.length) then
 (rC tA i i1 i 0 o).bind fun x2=>
 bif inK .i64 (((i1:Nat):Int)+1) then
 some (.inl (x2.1,i1+1,x2.2))
 else none
 else none
 else none
 else none
 else none
 else
 some (.inr i)
theorem J7 (tA:Dual):∀σ:List Int×Nat×List Int,aN Tryz.prog (nav [1,1,1,1,0,1,0,0] (ah Tryz.f75)) (fun (σ:List Int×Nat×List Int)=>qY tA σ.1 σ.2.1 σ.2.2) (fun (_:List Int)=>(.exit 2)) (fun (y:List Int)=>rZ tA y) σ (jV tA σ.1 σ.2.1 σ.2.2)
 | ([],i1,o)=>aH 1010 (.br 100000039 (.op 130008 (.el (cI .i64) ([]:List Int) (.up i1)) .nil) (.ps 1000003 [.k [1,5] [10,100048]] (.ret (.inr [])))) (by kernel_rfl)
 | (i_h::i_t,i1,o)=>aH 1010 (.op 110004 (.ln (cI .i64) (i_h::i_t)) (.br 100000039 (.op 130008 (.el (cI .i64) (i_h::i_t) (.up i1)) (.op 130010 (.ld (cI .i64) (i_h::i_t)) (.op 130012 (.el Knot.D tA.All .dn) (.op 130018 (.ln (cI .i64) ((nth tA.All ((nth (i_h::i_t) i1).toNat)).Next)) (.ps 1000001 [.k [1,4,5,8,50,51,52] [10,11,100048]] (.lp1 0 (KH tA (i_h::i_t) i1 (i_h::i_t) 0 o) fun x2=>.ps 1000003 [.k [1,4,5,8] [10,11,100048]] (.ret (.inl (x2.1,i1+1,x2.2))))))))) (.ps 1000003 [.k [1,5] [10,100048]] (.ret (.inr (i_h::i_t)))))) (by kernel_rfl)
def nJ (tA:Dual) (i:List Int) (i1:Nat) (o:List Int):Option (List Int):=aK (fun (σ:List Int×Nat×List Int)=>jV tA σ.1 σ.2.1 σ.2.2) FU (i,i1,o)
theorem CX (tA:Dual) (i:List Int) (i1:Nat) (o:List Int):∀y:List Int,nJ tA i i1 o=some y→Runs Tryz.prog (.loop (nav [1,1,1,1,0,1,0,0] (ah Tryz.f75))) (qY tA i i1 o) ((.exit 2)) ((fun (y:List Int)=>rZ tA y) y):=
 aX (head:=fun (σ:List Int×Nat×List Int)=>qY tA σ.1 σ.2.1 σ.2.2) (eo:=fun (_:List Int)=>(.exit 2)) (so:=fun (y:List Int)=>rZ tA y) (J7 tA) (fun _ h=>by cases h) FU (i,i1,o)
def uo (tA:Dual):Option (List Int×Bool):=
 bif decide (tA.All.length≤2147483648) then
 (uH tA).bind fun x0=>
 (yM tA x0 [] 0 (List.replicate tA.All.length 0)).bind fun x1=>
 bif x1.1.isEmpty then
 (nJ tA [] 0 x1.2).bind fun x2=>
 some (x2,((x2.length:Nat):Int)==((tA.All.length:Nat):Int))
 else
 bif !x1.1.isEmpty then
 (nJ tA x1.1 0 x1.2).bind fun x2=>
 some (x2,((x2.length:Nat):Int)==((tA.All.length:Nat):Int))
 else none
 else none
theorem Jh (tA:Dual):∀r,uo tA=some r→au Tryz.prog 75 0 [AG Dual.D tA] [] (.tup [SL (cI .i64) r.1,B r.2]) []:=
 ay (enc:=fun r=>.tup [SL (cI .i64) r.1,B r.2]) (aU:=fun r=>[]) 10 (.op 10004 (.ln Knot.D tA.All) (.op 10006 (.mk (cI .i64) 0 (.up tA.All.length)) (.call [] [] (Jo tA) .no fun x0=>.op 30004 (.ln (cL (cI .i64)) x0) (.ps 1000001 [.k [1,4,5,16,17,18] [10,11,100048]] (.lp1 0 (OI tA x0 [] 0 (List.replicate tA.All.length 0)) fun x1=>.cl 1 5 100048 1 (cI .i64) x1.1 (.ps 1 [.k [1,4,5] [10,11]] (.ps 1000001 [.k [1,4,5,8] [10,11,100048]] (.lp1 0 (CX tA [] 0 x1.2) fun x2=>.oz 5 5 100048 1 (cI .i64) x2 (.ps 5 [.k [1,5] [10]] (.op 200004 (.ln (cI .i64) x2) (.op 200010 (.ln Knot.D tA.All) (.ret (x2,((x2.length:Nat):Int)==((tA.All.length:Nat):Int))))))))) (.ps 1 [.k [1,4,5] [10,11,100048]] (.ps 1000001 [.k [1,4,5,8] [10,11,100048]] (.ow 1000001 5 100048 1 (cI .i64) x1.1 .no (.ps 1000001 [.k [1,4,5,8] [10,11,100048]] (.lp1 0 (CX tA x1.1 0 x1.2) fun x2=>.oz 5 5 100048 1 (cI .i64) x2 (.ps 5 [.k [1,5] [10]] (.op 200004 (.ln (cI .i64) x2) (.op 200010 (.ln Knot.D tA.All) (.ret (x2,((x2.length:Nat):Int)==((tA.All.length:Nat):Int)))))))))))))))) Tryz.func75 (by kernel_rfl) (by kernel_rfl) (by kernel_rfl)
def xw (d:Dual) (i:Nat):St:=⟨49,0,[(1,.ptr 10 0 0),(32,SL Knot.D d.All),(33,I ((d.All.length:Nat):Int)),(34,I ((i:Nat):Int))],[(10,BOX [I d.Ins,I d.aQ,SL Knot.D d.All])]⟩
def wY (d:Dual):St:=⟨49,0,[(2,B false)],[]⟩
def xu (d:Dual):St:=⟨49,0,[(1,.ptr 10 0 0)],[(10,BOX [I d.Ins,I d.aQ,SL Knot.D d.All])]⟩
def jE (d:Dual) (i:Nat):Option (Nat⊕(Unit⊕Unit)):=
 bif decide (((i:Nat):Int)<((d.All.length:Nat):Int)) then
 bif decide (i<d.All.length) then
 (IL d (nth d.All i)).bind fun x0=>
 bif !x0 then
 some (.inr (.inl ()))
 else
 bif inK .i64 (((i:Nat):Int)+1) then
 some (.inl (i+1))
 else none
 else none
 else
 some (.inr (.inr ()))
theorem Ot (d:Dual):∀σ:Nat,aN Tryz.prog (nav [1,1,0,1,0,0] (ah Tryz.f26)) (fun (σ:Nat)=>xw d σ) (fun (y:Unit⊕Unit)=>aC y (fun _=>.ret) (fun _=>(.exit 0))) (fun (y:Unit⊕Unit)=>aC y (fun y=>wY d) (fun y=>xu d)) σ (jE d σ)
 | i=>aH 1010 (.br 100000035 (.op 50000 (.el Knot.D d.All (.up i)) (.call [] [] (VI d (nth d.All i)) .no fun x0=>.br 100000041 (.ps 1000003 [.k [2] []] (.ret (.inr (.inl ())))) (.ps 1000003 [.k [1,32,33,34] [10]] (.ret (.inl (i+1)))))) (.ps 1000003 [.k [1] [10]] (.ret (.inr (.inr ()))))) (by kernel_rfl)
def yL (d:Dual) (i:Nat):Option (Unit⊕Unit):=aK (fun (σ:Nat)=>jE d σ) FU i
theorem O1 (d:Dual) (i:Nat):∀y:Unit⊕Unit,yL d i=some y→Runs Tryz.prog (.loop (nav [1,1,0,1,0,0] (ah Tryz.f26))) (xw d i) (aC y (fun _=>.ret) (fun _=>(.exit 0))) ((fun (y:Unit⊕Unit)=>aC y (fun y=>wY d) (fun y=>xu d)) y):=
 aX (head:=fun (σ:Nat)=>xw d σ) (eo:=fun (y:Unit⊕Unit)=>aC y (fun _=>.ret) (fun _=>(.exit 0))) (so:=fun (y:Unit⊕Unit)=>aC y (fun y=>wY d) (fun y=>xu d)) (Ot d) (fun y h=>by rcases y with y | y<;>cases h) FU i
def ku (d:Dual):Option Bool:=
 bif decide (d.Ins<1) then
 some false
 else
 bif decide (d.Ins>40) then
 some false
 else
 bif decide (d.aQ<1) then
 some false
 else
 bif decide (d.aQ>40) then
 some false
 else
 bif decide (((d.All.length:Nat):Int)>20000) then
 some false
 else
 (yL d 0).bind fun y_=>aC y_ (fun x0=>
 some false)
 (fun x1=>
 (uo d).bind fun x2=>
 some x2.2)
theorem vG (d:Dual):∀r,ku d=some r→au Tryz.prog 26 0 [AG Dual.D d] [] (B r) []:=
 ay (enc:=fun r=>B r) (aU:=fun r=>[]) 10 (.br 10008 (.ret false) (.br 10018 (.ret false) (.br 10028 (.ret false) (.br 10038 (.ret false) (.op 10042 (.ln Knot.D d.All) (.br 100000030 (.ret false) (.op 30004 (.ln Knot.D d.All) (.ps 1000001 [.k [1,32,33,34] [10]] (.lp2 0 (O1 d 0) (fun x0=>.ret false) (fun x1=>.call [] [] (Jh d) .no fun x2=>.ret x2.2)))))))))) Tryz.func26 (by kernel_rfl) (by kernel_rfl) (by kernel_rfl)
def qZ (d:Dual) (i:Nat) (out1:List Step) (i1:Nat):St:=⟨35,0,[(3,iH 100050 out1),(4,I ((i:Nat):Int)),(12,SL Knot.D d.All),(13,I ((d.All.length:Nat):Int)),(14,I ((i:Nat):Int)),(20,SL (cI .i64) ((nth d.All i).Next)),(21,I ((((nth d.All i).Next).length:Nat):Int)),(22,I ((i1:Nat):Int))],[(100050,je 3 Step.D out1)]⟩
def su (d:Dual) (i:Nat) (out1:List Step):St:=⟨35,0,[(3,iH 100050 out1),(12,SL Knot.D d.All),(13,I ((d.All.length:Nat):Int)),(14,I ((i:Nat):Int))],[(100050,je 3 Step.D out1)]⟩
def CQ (d:Dual) (i:Nat) (out1:List Step) (i1:Nat):Option ((List Step×Nat)⊕(List Step)):=
 bif decide (((i1:Nat):Int)<((((nth d.All i).Next).length:Nat):Int)) then
 bif decide (i1<((nth d.All i).Next).length) then
 bif decide (out1.length+1≤2147483648) then
 bif inK .i64 (((i1:Nat):Int)+1) then
 some (.inl (out1++[Step.mk 3 ((i:Nat):Int) (nth ((nth d.All i).Next) i1)],i1+1))
 else none
 else none
 else none
 else
 some (.inr out1)
theorem LP (d:Dual) (i:Nat):∀σ:List Step×Nat,aN Tryz.prog (nav [1,1,1,0,1,0,0,1,1,0,0,1,1,0,0] (ah Tryz.f23)) (fun (σ:List Step×Nat)=>qZ d i σ.1 σ.2) (fun (_:List Step)=>(.exit 2)) (fun (y:List Step)=>su d i y) σ (CQ d i σ.1 σ.2)
 | ([],i1)=>aH 2010 (.br 100000023 (.op 90000 (.el (cI .i64) ((nth d.All i).Next) (.up i1)) (.op 100010 (.ap Step.D [] [Step.mk 3 ((i:Nat):Int) (nth ((nth d.All i).Next) i1)] 3 fun _=>⟨rfl,rfl⟩) (.ps 1000003 [.k [3,4,12,13,14,20,21,22] [2011],.m 2011 100050] (.ret (.inl ([Step.mk 3 ((i:Nat):Int) (nth ((nth d.All i).Next) i1)],i1+1)))))) (.ps 1000003 [.k [3,12,13,14] [100050]] (.ret (.inr [])))) (by kernel_rfl)
 | (YF::Yv,i1)=>aH 2010 (.br 100000023 (.op 90000 (.el (cI .i64) ((nth d.All i).Next) (.up i1)) (.op 100010 (.ap Step.D (YF::Yv) [Step.mk 3 ((i:Nat):Int) (nth ((nth d.All i).Next) i1)] 3 fun _=>⟨rfl,rfl⟩) (.ps 1000003 [.k [3,4,12,13,14,20,21,22] [2011],.m 2011 100050] (.ret (.inl ((YF::Yv)++[Step.mk 3 ((i:Nat):Int) (nth ((nth d.All i).Next) i1)],i1+1)))))) (.ps 1000003 [.k [3,12,13,14] [100050]] (.ret (.inr (YF::Yv))))) (by kernel_rfl)
def Gv (d:Dual) (i:Nat) (out1:List Step) (i1:Nat):Option (List Step):=aK (fun (σ:List Step×Nat)=>CQ d i σ.1 σ.2) FU (out1,i1)
theorem Dn (d:Dual) (i:Nat) (out1:List Step) (i1:Nat):∀y:List Step,Gv d i out1 i1=some y→Runs Tryz.prog (.loop (nav [1,1,1,0,1,0,0,1,1,0,0,1,1,0,0] (ah Tryz.f23))) (qZ d i out1 i1) ((.exit 2)) ((fun (y:List Step)=>su d i y) y):=
 aX (head:=fun (σ:List Step×Nat)=>qZ d i σ.1 σ.2) (eo:=fun (_:List Step)=>(.exit 2)) (so:=fun (y:List Step)=>su d i y) (LP d i) (fun _ h=>by cases h) FU (out1,i1)
def xZ (d:Dual) (out:List Step) (i:Nat):St:=⟨35,0,[(3,iH 100050 out),(12,SL Knot.D d.All),(13,I ((d.All.length:Nat):Int)),(14,I ((i:Nat):Int))],[(100050,je 3 Step.D out)]⟩
def xR (d:Dual) (out:List Step):St:=⟨35,0,[(3,iH 100050 out)],[(100050,je 3 Step.D out)]⟩
def FZ (d:Dual) (out:List Step) (i:Nat):Option ((List Step×Nat)⊕(List Step)):=
 bif decide (((i:Nat):Int)<((d.All.length:Nat):Int)) then
 bif decide (i<d.All.length) then
 (Gv d i out 0).bind fun x1=>
 bif inK .i64 (((i:Nat):Int)+1) then
 some (.inl (x1,i+1))
 else none
 else none
 else
 some (.inr out)
theorem Oz (d:Dual):∀σ:List Step×Nat,aN Tryz.prog (nav [1,1,1,0,1,0,0] (ah Tryz.f23)) (fun (σ:List Step×Nat)=>xZ d σ.1 σ.2) (fun (_:List Step)=>(.exit 0)) (fun (y:List Step)=>xR d y) σ (FZ d σ.1 σ.2)
 | ([],i)=>aH 1010 (.br 100000015 (.op 60002 (.el Knot.D d.All (.up i)) (.op 70004 (.ln (cI .i64) ((nth d.All i).Next)) (.ps 1000001 [.k [3,4,12,13,14,20,21,22] [100050]] (.lp1 0 (Dn d i [] 0) fun x1=>.ps 1000003 [.k [3,12,13,14] [100050]] (.ret (.inl (x1,i+1))))))) (.ps 1000003 [.k [3] [100050]] (.ret (.inr [])))) (by kernel_rfl)
 | (fO::fP,i)=>aH 1010 (.br 100000015 (.op 60002 (.el Knot.D d.All (.up i)) (.op 70004 (.ln (cI .i64) ((nth d.All i).Next)) (.ps 1000001 [.k [3,4,12,13,14,20,21,22] [100050]] (.lp1 0 (Dn d i (fO::fP) 0) fun x1=>.ps 1000003 [.k [3,12,13,14] [100050]] (.ret (.inl (x1,i+1))))))) (.ps 1000003 [.k [3] [100050]] (.ret (.inr (fO::fP))))) (by kernel_rfl)
def LH (d:Dual) (out:List Step) (i:Nat):Option (List Step):=aK (fun (σ:List Step×Nat)=>FZ d σ.1 σ.2) FU (out,i)
theorem OB (d:Dual) (out:List Step) (i:Nat):∀y:List Step,LH d out i=some y→Runs Tryz.prog (.loop (nav [1,1,1,0,1,0,0] (ah Tryz.f23))) (xZ d out i) ((.exit 0)) ((fun (y:List Step)=>xR d y) y):=
 aX (head:=fun (σ:List Step×Nat)=>xZ d σ.1 σ.2) (eo:=fun (_:List Step)=>(.exit 0)) (so:=fun (y:List Step)=>xR d y) (Oz d) (fun _ h=>by cases h) FU (out,i)
def Rz (d:Dual):Option (List Step):=
 (ku d).bind fun x0=>
 bif !x0 then
 some []
 else
 (LH d [] 0).bind fun x1=>
 some x1
theorem Td (d:Dual):∀r,Rz d=some r→au Tryz.prog 23 0 [AG Dual.D d] [] (SL Step.D r) []:=
 ay (enc:=fun r=>SL Step.D r) (aU:=fun r=>[]) 10 (.call [] [] (vG d) .no fun x0=>.br 100000010 (.ps 1000003 [.n 2] (.ret [])) (.op 40004 (.ln Knot.D d.All) (.ps 1000001 [.k [3,12,13,14] [100050]] (.lp1 0 (OB d [] 0) fun x1=>.oz 1 3 100050 3 Step.D x1 (.ps 1 [.k [3] []] (.ret x1)))))) Tryz.func23 (by kernel_rfl) (by kernel_rfl) (by kernel_rfl)
def mY (tA:Dual) (x1:List Int×Bool) (i:Nat) (i1:Nat) (o1:List Bool):St:=⟨70,0,[(1,.ptr 10 0 0),(3,.msl 11 0 none (some tA.All.length)),(7,I (nth x1.1 i)),(8,.ptr 1010 0 0),(23,SL (cI .i64) x1.1),(24,I ((x1.1.length:Nat):Int)),(25,I ((i:Nat):Int)),(44,SL (cI .i64) ((nth tA.All ((nth x1.1 i).toNat)).Next)),(45,I ((((nth tA.All ((nth x1.1 i).toNat)).Next).length:Nat):Int)),(46,I ((i1:Nat):Int))],[(10,BOX [I tA.Ins,I tA.aQ,SL Knot.D tA.All]),(11,ROW 1 cB o1 0),(1010,BOX [I ((nth tA.All ((nth x1.1 i).toNat)).From),I ((nth tA.All ((nth x1.1 i).toNat)).To),B (((nth tA.All ((nth x1.1 i).toNat)).W).Neg),SL (cI .u32) (((nth tA.All ((nth x1.1 i).toNat)).W).Num),SL (cI .u32) (((nth tA.All ((nth x1.1 i).toNat)).W).Den),SL (cI .i64) ((nth tA.All ((nth x1.1 i).toNat)).Next),B ((nth tA.All ((nth x1.1 i).toNat)).Gone)])]⟩
def ny (tA:Dual) (x1:List Int×Bool) (i:Nat) (o1:List Bool):St:=⟨70,0,[(1,.ptr 10 0 0),(3,.msl 11 0 none (some tA.All.length)),(23,SL (cI .i64) x1.1),(24,I ((x1.1.length:Nat):Int)),(25,I ((i:Nat):Int))],[(10,BOX [I tA.Ins,I tA.aQ,SL Knot.D tA.All]),(11,ROW 1 cB o1 0)]⟩
def wC (tA:Dual) (x1:List Int×Bool) (i:Nat) (i1:Nat) (o1:List Bool):Option ((Nat×List Bool)⊕(List Bool)):=
 bif decide (((i1:Nat):Int)<((((nth tA.All ((nth x1.1 i).toNat)).Next).length:Nat):Int)) then
 bif decide (i1<((nth tA.All ((nth x1.1 i).toNat)).Next).length) then
 bif decide (0≤nth ((nth tA.All ((nth x1.1 i).toNat)).Next) i1) then
 bif decide ((nth ((nth tA.All ((nth x1.1 i).toNat)).Next) i1).toNat<o1.length) then
 bif decide ((nth ((nth tA.All ((nth x1.1 i).toNat)).Next) i1).toNat<o1.length) then
 bif nth o1 ((nth ((nth tA.All ((nth x1.1 i).toNat)).Next) i1).toNat) then
 bif decide (0≤nth ((nth tA.All ((nth x1.1 i).toNat)).Next) i1) then
 bif decide ((nth ((nth tA.All ((nth x1.1 i).toNat)).Next) i1).toNat<o1.length) then
 bif decide ((nth ((nth tA.All ((nth x1.1 i).toNat)).Next) i1).toNat<o1.length) then
 bif inK .i64 (((i1:Nat):Int)+1) then
 some (.inl (i1+1,o1.set ((nth ((nth tA.All ((nth x1.1 i).toNat)).Next) i1).toNat) true))
 else none
 else none
 else none
 else none
 else
 bif decide (0≤nth x1.1 i) then
 bif decide ((nth x1.1 i).toNat<o1.length) then
 bif decide ((nth x1.1 i).toNat<o1.length) then
 bif nth o1 ((nth x1.1 i).toNat) then
 bif decide (0≤nth ((nth tA.All ((nth x1.1 i).toNat)).Next) i1) then
 bif decide ((nth ((nth tA.All ((nth x1.1 i).toNat)).Next) i1).toNat<o1.length) then
 bif decide ((nth ((nth tA.All ((nth x1.1 i).toNat)).Next) i1).toNat<o1.length) then
 bif inK .i64 (((i1:Nat):Int)+1) then
 some (.inl (i1+1,o1.set ((nth ((nth tA.All ((nth x1.1 i).toNat)).Next) i1).toNat) true))
 else none
 else none
 else none
 else none
 else
 bif decide (0≤nth ((nth tA.All ((nth x1.1 i).toNat)).Next) i1) then
 bif decide ((nth ((nth tA.All ((nth x1.1 i).toNat)).Next) i1).toNat<o1.length) then
 bif decide ((nth ((nth tA.All ((nth x1.1 i).toNat)).Next) i1).toNat<o1.length) then
 bif inK .i64 (((i1:Nat):Int)+1) then
 some (.inl (i1+1,o1.set ((nth ((nth tA.All ((nth x1.1 i).toNat)).Next) i1).toNat) (((nth tA.All ((nth x1.1 i).toNat)).From) != (-1))))
 else none
 else none
 else none
 else none
 else none
 else none
 else none
 else none
 else none
 else none
 else none
 else
 some (.inr o1)
theorem GL (tA:Dual) (x1:List Int×Bool) (i:Nat):∀σ:Nat×List Bool,aN Tryz.prog (nav [1,1,1,1,0,1,0,0,1,1,0,0,1,1,1,1,0,0] (ah Tryz.f27)) (fun (σ:Nat×List Bool)=>mY tA x1 i σ.1 σ.2) (fun (_:List Bool)=>(.exit 2)) (fun (y:List Bool)=>ny tA x1 i y) σ (wC tA x1 i σ.1 σ.2)
 | (i1,o1)=>aH 2010 (.br 100000047 (.op 130000 (.el (cI .i64) ((nth tA.All ((nth x1.1 i).toNat)).Next) (.up i1)) (.op 140008 (.el cB o1 .dn) (.op 140010 (.ld cB o1) (.br 140014 (.op 140034 (.el cB o1 .dn) (.op 140036 (.st cB o1 true) (.ps 1000003 [.k [1,3,7,8,23,24,25,44,45,46] [10,11,1010]] (.ret (.inl (i1+1,o1.set ((nth ((nth tA.All ((nth x1.1 i).toNat)).Next) i1).toNat) true)))))) (.op 140018 (.el cB o1 .dn) (.op 140020 (.ld cB o1) (.br 140026 (.op 140034 (.el cB o1 .dn) (.op 140036 (.st cB o1 true) (.ps 1000003 [.k [1,3,7,8,23,24,25,44,45,46] [10,11,1010]] (.ret (.inl (i1+1,o1.set ((nth ((nth tA.All ((nth x1.1 i).toNat)).Next) i1).toNat) true)))))) (.op 140034 (.el cB o1 .dn) (.op 140036 (.st cB o1 (((nth tA.All ((nth x1.1 i).toNat)).From) != (-1))) (.ps 1000003 [.k [1,3,7,8,23,24,25,44,45,46] [10,11,1010]] (.ret (.inl (i1+1,o1.set ((nth ((nth tA.All ((nth x1.1 i).toNat)).Next) i1).toNat) (((nth tA.All ((nth x1.1 i).toNat)).From) != (-1))))))))))))))) (.ps 1000003 [.k [1,3,23,24,25] [10,11]] (.ret (.inr o1)))) (by kernel_rfl)
def sD (tA:Dual) (x1:List Int×Bool) (i:Nat) (i1:Nat) (o1:List Bool):Option (List Bool):=aK (fun (σ:Nat×List Bool)=>wC tA x1 i σ.1 σ.2) FU (i1,o1)
theorem vN (tA:Dual) (x1:List Int×Bool) (i:Nat) (i1:Nat) (o1:List Bool):∀y:List Bool,sD tA x1 i i1 o1=some y→Runs Tryz.prog (.loop (nav [1,1,1,1,0,1,0,0,1,1,0,0,1,1,1,1,0,0] (ah Tryz.f27))) (mY tA x1 i i1 o1) ((.exit 2)) ((fun (y:List Bool)=>ny tA x1 i y) y):=
 aX (head:=fun (σ:Nat×List Bool)=>mY tA x1 i σ.1 σ.2) (eo:=fun (_:List Bool)=>(.exit 2)) (so:=fun (y:List Bool)=>ny tA x1 i y) (GL tA x1 i) (fun _ h=>by cases h) FU (i1,o1)
def pJ (tA:Dual) (x1:List Int×Bool) (i:Nat) (o:List Bool):St:=⟨70,0,[(1,.ptr 10 0 0),(3,.msl 11 0 none (some tA.All.length)),(23,SL (cI .i64) x1.1),(24,I ((x1.1.length:Nat):Int)),(25,I ((i:Nat):Int))],[(10,BOX [I tA.Ins,I tA.aQ,SL Knot.D tA.All]),(11,ROW 1 cB o 0)]⟩
def pV (tA:Dual) (x1:List Int×Bool):St:=⟨70,0,[(2,B false)],[]⟩
def pI (tA:Dual) (x1:List Int×Bool):St:=⟨70,0,[],[]⟩
def Bz (tA:Dual) (x1:List Int×Bool) (i:Nat) (o:List Bool):Option ((Nat×List Bool)⊕(Unit⊕Unit)):=
 bif decide (((i:Nat):Int)<((x1.1.length:Nat):Int)) then
 bif decide (i<x1.1.length) then
 bif decide (0≤nth x1.1 i) then
 bif decide ((nth x1.1 i).toNat<tA.All.length) then
 bif decide (0≤nth x1.1 i) then
 bif decide ((nth x1.1 i).toNat<o.length) then
 bif decide ((nth x1.1 i).toNat<o.length) then
 bif nth o ((nth x1.1 i).toNat) then
 bif ((nth tA.All ((nth x1.1 i).toNat)).To) != (-1) then
 some (.inr (.inl ()))
 else
 (sD tA x1 i 0 o).bind fun x2=>
 bif inK .i64 (((i:Nat):Int)+1) then
 some (.inl (i+1,x2))
 else none
 else
 (sD tA x1 i 0 o).bind fun x2=>
 bif inK .i64 (((i:Nat):Int)+1) then
 some (.inl (i+1,x2))
 else none
 else none
 else none
 else none
 else none
 else none
 else none
 else
 some (.inr (.inr ()))
theorem JW (tA:Dual) (x1:List Int×Bool):∀σ:Nat×List Bool,aN Tryz.prog (nav [1,1,1,1,0,1,0,0] (ah Tryz.f27)) (fun (σ:Nat×List Bool)=>pJ tA x1 σ.1 σ.2) (fun (y:Unit⊕Unit)=>aC y (fun _=>.ret) (fun _=>(.exit 0))) (fun (y:Unit⊕Unit)=>aC y (fun y=>pV tA x1) (fun y=>pI tA x1)) σ (Bz tA x1 σ.1 σ.2)
 | (i,o)=>aH 1010 (.br 100000026 (.op 70000 (.el (cI .i64) x1.1 (.up i)) (.op 80006 (.el Knot.D tA.All .dn) (.op 90004 (.el cB o .dn) (.op 90006 (.ld cB o) (.br 90010 (.br 100000042 (.ps 1000003 [.k [2] []] (.ret (.inr (.inl ())))) (.op 110004 (.ln (cI .i64) ((nth tA.All ((nth x1.1 i).toNat)).Next)) (.ps 1000001 [.k [1,3,7,8,23,24,25,44,45,46] [10,11,1010]] (.lp1 0 (vN tA x1 i 0 o) fun x2=>.ps 1000003 [.k [1,3,23,24,25] [10,11]] (.ret (.inl (i+1,x2))))))) (.op 110004 (.ln (cI .i64) ((nth tA.All ((nth x1.1 i).toNat)).Next)) (.ps 1000001 [.k [1,3,7,8,23,24,25,44,45,46] [10,11,1010]] (.lp1 0 (vN tA x1 i 0 o) fun x2=>.ps 1000003 [.k [1,3,23,24,25] [10,11]] (.ret (.inl (i+1,x2))))))))))) (.ps 1000003 [.k [] []] (.ret (.inr (.inr ()))))) (by kernel_rfl)
def F8 (tA:Dual) (x1:List Int×Bool) (i:Nat) (o:List Bool):Option (Unit⊕Unit):=aK (fun (σ:Nat×List Bool)=>Bz tA x1 σ.1 σ.2) FU (i,o)
theorem JH (tA:Dual) (x1:List Int×Bool) (i:Nat) (o:List Bool):∀y:Unit⊕Unit,F8 tA x1 i o=some y→Runs Tryz.prog (.loop (nav [1,1,1,1,0,1,0,0] (ah Tryz.f27))) (pJ tA x1 i o) (aC y (fun _=>.ret) (fun _=>(.exit 0))) ((fun (y:Unit⊕Unit)=>aC y (fun y=>pV tA x1) (fun y=>pI tA x1)) y):=
 aX (head:=fun (σ:Nat×List Bool)=>pJ tA x1 σ.1 σ.2) (eo:=fun (y:Unit⊕Unit)=>aC y (fun _=>.ret) (fun _=>(.exit 0))) (so:=fun (y:Unit⊕Unit)=>aC y (fun y=>pV tA x1) (fun y=>pI tA x1)) (JW tA x1) (fun y h=>by rcases y with y | y<;>cases h) FU (i,o)
def DI (tA:Dual):Option Bool:=
 (ku tA).bind fun x0=>
 bif !x0 then
 some false
 else
 bif decide (tA.All.length≤2147483648) then
 (uo tA).bind fun x1=>
 (F8 tA x1 0 (List.replicate tA.All.length false)).bind fun y_=>aC y_ (fun x2=>
 some false)
 (fun x3=>
 some true)
 else none
theorem Ec (tA:Dual):∀r,DI tA=some r→au Tryz.prog 27 0 [AG Dual.D tA] [] (B r) []:=
 ay (enc:=fun r=>B r) (aU:=fun r=>[]) 10 (.call [] [] (vG tA) .no fun x0=>.br 100000013 (.ret false) (.op 30004 (.ln Knot.D tA.All) (.op 30006 (.mk cB false (.up tA.All.length)) (.call [] [] (Jh tA) .no fun x1=>.op 50002 (.ln (cI .i64) x1.1) (.ps 1000001 [.k [1,3,23,24,25] [10,11]] (.lp2 0 (JH tA x1 0 (List.replicate tA.All.length false)) (fun x2=>.ret false) (fun x3=>.ret true))))))) Tryz.func27 (by kernel_rfl) (by kernel_rfl) (by kernel_rfl)
def Bj (tA:Int) (toArray1:Int) (a:Int) (a1:Int) (a2:List (List Int)) (i:Nat) (o:List Knot):St:=⟨77,1,[(1,I a),(2,I a1),(3,SL (cL (cI .i64)) a2),(4,.ptr 10 0 0),(30,SL (cI .i64) (nth a2 a.toNat)),(31,I (((nth a2 a.toNat).length:Nat):Int)),(32,I ((i:Nat):Int))],[(0,ROW 7 Knot.D o 0),(10,BOX [I tA,I toArray1,.msl 0 0 none none])]⟩
def Ad (tA:Int) (toArray1:Int) (a:Int) (a1:Int) (a2:List (List Int)) (o:List Knot):St:=⟨77,1,[(1,I a),(2,I a1),(3,SL (cL (cI .i64)) a2),(4,.ptr 10 0 0)],[(0,ROW 7 Knot.D o 0),(10,BOX [I tA,I toArray1,.msl 0 0 none none])]⟩
def mX (tA:Int) (toArray1:Int) (a:Int) (a1:Int) (a2:List (List Int)) (i:Nat) (o:List Knot):Option ((Nat×List Knot)⊕(List Knot)):=
 bif decide (((i:Nat):Int)<(((nth a2 a.toNat).length:Nat):Int)) then
 bif decide (i<(nth a2 a.toNat).length) then
 bif decide (0≤nth (nth a2 a.toNat) i) then
 bif decide ((nth (nth a2 a.toNat) i).toNat<o.length) then
 bif decide ((nth (nth a2 a.toNat) i).toNat<o.length) then
 (jO ((nth o ((nth (nth a2 a.toNat) i).toNat)).Next) a).bind fun x0=>
 bif decide (0≤nth (nth a2 a.toNat) i) then
 bif decide ((nth (nth a2 a.toNat) i).toNat<o.length) then
 bif decide ((nth (nth a2 a.toNat) i).toNat<o.length) then
 bif inK .i64 (((i:Nat):Int)+1) then
 some (.inl (i+1,o.set ((nth (nth a2 a.toNat) i).toNat) (Knot.mk ((nth o ((nth (nth a2 a.toNat) i).toNat)).From) ((nth o ((nth (nth a2 a.toNat) i).toNat)).To) ((nth o ((nth (nth a2 a.toNat) i).toNat)).W) x0 ((nth o ((nth (nth a2 a.toNat) i).toNat)).Gone))))
 else none
 else none
 else none
 else none
 else none
 else none
 else none
 else none
 else
 some (.inr o)
theorem SG (tA:Int) (toArray1:Int) (a:Int) (a1:Int) (a2:List (List Int)):∀σ:Nat×List Knot,aN Tryz.prog (nav [1,0,1,0,0,1,0,0] (ah Tryz.f62)) (fun (σ:Nat×List Knot)=>Bj tA toArray1 a a1 a2 σ.1 σ.2) (fun (_:List Knot)=>(.exit 0)) (fun (y:List Knot)=>Ad tA toArray1 a a1 a2 y) σ (mX tA toArray1 a a1 a2 σ.1 σ.2)
 | (i,o)=>aH 1010 (.br 100000033 (.op 40000 (.el (cI .i64) (nth a2 a.toNat) (.up i)) (.op 50012 (.el Knot.D o .dn) (.op 50016 (.ld Knot.D o) (.call [] [] (lT ((nth o ((nth (nth a2 a.toNat) i).toNat)).Next) a) .no fun x0=>.op 50022 (.el Knot.D o .dn) (.op 50026 (.st Knot.D o (Knot.mk ((nth o ((nth (nth a2 a.toNat) i).toNat)).From) ((nth o ((nth (nth a2 a.toNat) i).toNat)).To) ((nth o ((nth (nth a2 a.toNat) i).toNat)).W) x0 ((nth o ((nth (nth a2 a.toNat) i).toNat)).Gone))) (.ps 1000003 [.k [1,2,3,4,30,31,32] [0,10]] (.ret (.inl (i+1,o.set ((nth (nth a2 a.toNat) i).toNat) (Knot.mk ((nth o ((nth (nth a2 a.toNat) i).toNat)).From) ((nth o ((nth (nth a2 a.toNat) i).toNat)).To) ((nth o ((nth (nth a2 a.toNat) i).toNat)).W) x0 ((nth o ((nth (nth a2 a.toNat) i).toNat)).Gone))))))))))) (.ps 1000003 [.k [1,2,3,4] [0,10]] (.ret (.inr o)))) (by kernel_rfl)
def CW (tA:Int) (toArray1:Int) (a:Int) (a1:Int) (a2:List (List Int)) (i:Nat) (o:List Knot):Option (List Knot):=aK (fun (σ:Nat×List Knot)=>mX tA toArray1 a a1 a2 σ.1 σ.2) FU (i,o)
theorem Sl (tA:Int) (toArray1:Int) (a:Int) (a1:Int) (a2:List (List Int)) (i:Nat) (o:List Knot):∀y:List Knot,CW tA toArray1 a a1 a2 i o=some y→Runs Tryz.prog (.loop (nav [1,0,1,0,0,1,0,0] (ah Tryz.f62))) (Bj tA toArray1 a a1 a2 i o) ((.exit 0)) ((fun (y:List Knot)=>Ad tA toArray1 a a1 a2 y) y):=
 aX (head:=fun (σ:Nat×List Knot)=>Bj tA toArray1 a a1 a2 σ.1 σ.2) (eo:=fun (_:List Knot)=>(.exit 0)) (so:=fun (y:List Knot)=>Ad tA toArray1 a a1 a2 y) (SG tA toArray1 a a1 a2) (fun _ h=>by cases h) FU (i,o)
def Ij (o0:List Knot) (tA:Int) (toArray1:Int) (a:Int) (a1:Int) (a2:List (List Int)):Option (List Knot):=
 bif decide (0≤a) then
 bif decide (a.toNat<o0.length) then
 bif decide (a.toNat<o0.length) then
 bif ((nth o0 a.toNat).To)==(-1) then
 bif decide (0≤a) then
 bif decide (a.toNat<o0.length) then
 bif decide (a.toNat<o0.length) then
 bif ((((nth o0 a.toNat).Next).length:Nat):Int)==0 then
 bif decide (0≤a) then
 bif decide (a.toNat<a2.length) then
 (CW tA toArray1 a a1 a2 0 o0).bind fun x0=>
 (zk).bind fun x1=>
 bif decide (0≤a) then
 bif decide (a.toNat<x0.length) then
 bif decide (a.toNat<x0.length) then
 bif decide (0≤a1) then
 bif decide (a1.toNat<(x0.set a.toNat x1).length) then
 bif decide (a1.toNat<(x0.set a.toNat x1).length) then
 bif ((nth (x0.set a.toNat x1) a1.toNat).From)==(-1) then
 bif decide (0≤a1) then
 bif decide (a1.toNat<a2.length) then
 (jO (nth a2 a1.toNat) a).bind fun x2=>
 bif ((x2.length:Nat):Int)==0 then
 (zk).bind fun x3=>
 bif decide (0≤a1) then
 bif decide (a1.toNat<(x0.set a.toNat x1).length) then
 bif decide (a1.toNat<(x0.set a.toNat x1).length) then
 some ((x0.set a.toNat x1).set a1.toNat x3)
 else none
 else none
 else none
 else
 some (x0.set a.toNat x1)
 else none
 else none
 else
 some (x0.set a.toNat x1)
 else none
 else none
 else none
 else none
 else none
 else none
 else none
 else none
 else
 bif decide (0≤a1) then
 bif decide (a1.toNat<o0.length) then
 bif decide (a1.toNat<o0.length) then
 bif ((nth o0 a1.toNat).From)==(-1) then
 bif decide (0≤a1) then
 bif decide (a1.toNat<a2.length) then
 (jO (nth a2 a1.toNat) a).bind fun x0=>
 bif ((x0.length:Nat):Int)==0 then
 (zk).bind fun x1=>
 bif decide (0≤a1) then
 bif decide (a1.toNat<o0.length) then
 bif decide (a1.toNat<o0.length) then
 some (o0.set a1.toNat x1)
 else none
 else none
 else none
 else
 some o0
 else none
 else none
 else
 some o0
 else none
 else none
 else none
 else none
 else none
 else none
 else
 bif decide (0≤a1) then
 bif decide (a1.toNat<o0.length) then
 bif decide (a1.toNat<o0.length) then
 bif ((nth o0 a1.toNat).From)==(-1) then
 bif decide (0≤a1) then
 bif decide (a1.toNat<a2.length) then
 (jO (nth a2 a1.toNat) a).bind fun x0=>
 bif ((x0.length:Nat):Int)==0 then
 (zk).bind fun x1=>
 bif decide (0≤a1) then
 bif decide (a1.toNat<o0.length) then
 bif decide (a1.toNat<o0.length) then
 some (o0.set a1.toNat x1)
 else none
 else none
 else none
 else
 some o0
 else none
 else none
 else
 some o0
 else none
 else none
 else none
 else none
 else none
 else none
theorem Ve (o0:List Knot) (tA:Int) (toArray1:Int) (a:Int) (a1:Int) (a2:List (List Int)):∀r,Ij o0 tA toArray1 a a1 a2=some r→au Tryz.prog 62 1 [.agg [I tA,I toArray1,.msl 0 0 none none],I a,I a1,SL (cL (cI .i64)) a2] [(0,ROW 7 Knot.D o0 0)] (.tup []) [(0,ROW 7 Knot.D r 0)]:=
 ay (enc:=fun r=>.tup []) (aU:=fun r=>[(0,ROW 7 Knot.D r 0)]) 10 (.op 10006 (.el Knot.D o0 .dn) (.op 10010 (.ld Knot.D o0) (.br 10016 (.op 10022 (.el Knot.D o0 .dn) (.op 10026 (.ld Knot.D o0) (.op 10028 (.ln (cI .i64) ((nth o0 a.toNat).Next)) (.br 100000026 (.op 20004 (.el (cL (cI .i64)) a2 .dn) (.op 20008 (.ln (cI .i64) (nth a2 a.toNat)) (.ps 1000001 [.k [1,2,3,4,30,31,32] [0,10]] (.lp1 0 (Sl tA toArray1 a a1 a2 0 o0) fun x0=>.call [] [] (yA) .no fun x1=>.op 70008 (.el Knot.D x0 .dn) (.op 70010 (.st Knot.D x0 x1) (.op 80006 (.el Knot.D (x0.set a.toNat x1) .dn) (.op 80010 (.ld Knot.D (x0.set a.toNat x1)) (.br 80016 (.op 80020 (.el (cL (cI .i64)) a2 .dn) (.call [] [] (lT (nth a2 a1.toNat) a) .no fun x2=>.op 80028 (.ln (cI .i64) x2) (.br 100000071 (.call [] [] (yA) .no fun x3=>.op 90008 (.el Knot.D (x0.set a.toNat x1) .dn) (.op 90010 (.st Knot.D (x0.set a.toNat x1) x3) (.ret ((x0.set a.toNat x1).set a1.toNat x3)))) (.ret (x0.set a.toNat x1))))) (.ret (x0.set a.toNat x1)))))))))) (.op 80006 (.el Knot.D o0 .dn) (.op 80010 (.ld Knot.D o0) (.br 80016 (.op 80020 (.el (cL (cI .i64)) a2 .dn) (.call [] [] (lT (nth a2 a1.toNat) a) .no fun x0=>.op 80028 (.ln (cI .i64) x0) (.br 100000071 (.call [] [] (yA) .no fun x1=>.op 90008 (.el Knot.D o0 .dn) (.op 90010 (.st Knot.D o0 x1) (.ret (o0.set a1.toNat x1)))) (.ret o0)))) (.ret o0)))))))) (.op 80006 (.el Knot.D o0 .dn) (.op 80010 (.ld Knot.D o0) (.br 80016 (.op 80020 (.el (cL (cI .i64)) a2 .dn) (.call [] [] (lT (nth a2 a1.toNat) a) .no fun x0=>.op 80028 (.ln (cI .i64) x0) (.br 100000071 (.call [] [] (yA) .no fun x1=>.op 90008 (.el Knot.D o0 .dn) (.op 90010 (.st Knot.D o0 x1) (.ret (o0.set a1.toNat x1)))) (.ret o0)))) (.ret o0))))))) Tryz.func62 (by kernel_rfl) (by kernel_rfl) (by kernel_rfl)
def gG (s:List Knot):Option (List Knot):=
 bif decide (0<s.length) then
 bif decide (0+s.length≤2147483648) then
 some ([]++s)
 else none
 else none
theorem qN (s:List Knot):∀r,gG s=some r→au Tryz.prog 118 0 [SL Knot.D s] [] (.msl 0 0 none none) [(0,ROW 7 Knot.D r 0)]:=
 ay (enc:=fun r=>.msl 0 0 none none) (aU:=fun r=>[(0,ROW 7 Knot.D r 0)]) 10 (.op 10002 (.ln Knot.D s) (.op 30004 (.ap Knot.D [] s 7 fun _=>⟨rfl,rfl⟩) (.ps 1000003 [.k [2] [11],.m 11 0] (.ret ([]++s))))) Tryz.func118 (by kernel_rfl) (by kernel_rfl) (by kernel_rfl)
end Go.Ab.M
