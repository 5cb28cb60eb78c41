import Derived.Test.YtpefcgiiigdcdaaGreatTH
namespace Go.Ab.M
open Go.Proofs
set_option linter.unusedVariables false
set_option maxRecDepth 100000
def sZ (t:Tape) (x0:List Rat×Int) (out:List Edge) (i:Nat):St:=⟨43,0,[(2,.ptr 10 0 0),(6,SL Rat.D x0.1),(8,bZ 0 out),(21,SL TOp.D t.Ops),(22,I ((t.Ops.length:Nat):Int)),(23,I ((i:Nat):Int))],[(0,dG 5 Edge.D out),(10,BOX [I t.Ins,SL TOp.D t.Ops,SL (cI .i64) t.aH])]⟩
def tH (t:Tape) (x0:List Rat×Int) (out:List Edge):St:=⟨43,0,[(8,bZ 0 out)],[(0,dG 5 Edge.D out)]⟩
def CZ (t:Tape) (x0:List Rat×Int) (out:List Edge) (i:Nat):Option ((List Edge×Nat)⊕(List Edge)):=
 bif decide (((i:Nat):Int)<((t.Ops.length:Nat):Int)) then
 bif decide (i<t.Ops.length) then
 (Ji (nth t.Ops i) x0.1).bind fun x1=>
 bif inK .i64 (t.Ins+((i:Nat):Int)) then
 (jL (nth t.Ops i) x1 (t.Ins+((i:Nat):Int))).bind fun y_=>aN y_ (fun x2=>
 bif decide (out.length+0≤2147483648) then
 bif inK .i64 (((i:Nat):Int)+1) then
 some (.inl (out++[],i+1))
 else none
 else none)
 (fun x3=>
 bif decide (out.length+x3.length≤2147483648) then
 bif inK .i64 (((i:Nat):Int)+1) then
 some (.inl (out++x3,i+1))
 else none
 else none)
 else none
 else none
 else
 some (.inr out)
theorem NS (t:Tape) (x0:List Rat×Int):∀σ:List Edge×Nat,aJ Tryz.prog (nav [1,1,1,1,0,1,0,0] (ah Tryz.f66)) (fun (σ:List Edge×Nat)=>sZ t x0 σ.1 σ.2) (fun (_:List Edge)=>(.exit 0)) (fun (y:List Edge)=>tH t x0 y) σ (CZ t x0 σ.1 σ.2)
 | ([],i)=>aB 1010 (.br 100000024 (.op 70002 (.el TOp.D t.Ops (.up i)) (.call [] [] (SB (nth t.Ops i) x0.1) .no fun x1=>.aa8 [] [100020] (F6 (nth t.Ops i) x1 (t.Ins+((i:Nat):Int))) .no (fun x2=>.op 80020 (.ao 0 Edge.D ([]:List Edge) 5 fun _=>⟨rfl,rfl⟩) (.ps 1000003 [.k [2,6,8,21,22,23] [0,10]] (.ret (.inl ([],i+1))))) (fun x3=>.op 80020 (.ao 0 Edge.D x3 5 fun _=>⟨rfl,rfl⟩) (.ps 1000003 [.k [2,6,8,21,22,23] [0,10]] (.ret (.inl (x3,i+1))))))) (.ps 1000003 [.k [8] [0]] (.ret (.inr [])))) (by kernel_rfl)
 | (dK::dM,i)=>aB 1010 (.br 100000024 (.op 70002 (.el TOp.D t.Ops (.up i)) (.call [] [] (SB (nth t.Ops i) x0.1) .no fun x1=>.aa8 [] [100020] (F6 (nth t.Ops i) x1 (t.Ins+((i:Nat):Int))) .no (fun x2=>.op 80020 (.ap Edge.D (dK::dM) [] 5 fun _=>⟨rfl,rfl⟩) (.ps 1000003 [.k [2,6,8,21,22,23] [1011,10],.m 1011 0] (.ret (.inl ((dK::dM)++[],i+1))))) (fun x3=>.op 80020 (.ap Edge.D (dK::dM) x3 5 fun _=>⟨rfl,rfl⟩) (.ps 1000003 [.k [2,6,8,21,22,23] [1011,10],.m 1011 0] (.ret (.inl ((dK::dM)++x3,i+1))))))) (.ps 1000003 [.k [8] [0]] (.ret (.inr (dK::dM))))) (by kernel_rfl)
def Ah (t:Tape) (x0:List Rat×Int) (out:List Edge) (i:Nat):Option (List Edge):=aK (fun (σ:List Edge×Nat)=>CZ t x0 σ.1 σ.2) FU (out,i)
theorem Nw (t:Tape) (x0:List Rat×Int) (out:List Edge) (i:Nat):∀y:List Edge,Ah t x0 out i=some y→Runs Tryz.prog (.loop (nav [1,1,1,1,0,1,0,0] (ah Tryz.f66))) (sZ t x0 out i) ((.exit 0)) ((fun (y:List Edge)=>tH t x0 y) y):=
 aU (head:=fun (σ:List Edge×Nat)=>sZ t x0 σ.1 σ.2) (eo:=fun (_:List Edge)=>(.exit 0)) (so:=fun (y:List Edge)=>tH t x0 y) (NS t x0) (fun _ h=>by cases h) FU (out,i)
def rY (t:Tape) (x:List Rat):Option (List Edge×Int):=
 (o9 t x).bind fun x0=>
 bif x0.2 != 0 then
 some ([],x0.2)
 else
 (Ah t x0 [] 0).bind fun x1=>
 bif x1.isEmpty then
 (wV).bind fun x2=>
 some ([],0)
 else
 (qX x1).bind fun x2=>
 bif !x2.isEmpty then
 some (x2,0)
 else none
theorem Qu (t:Tape) (x:List Rat):∀r,rY t x=some r→aj Tryz.prog 66 0 [AG Tape.D t,SL Rat.D x] [] (.tup [bZ 0 r.1,I r.2]) [(0,dG 5 Edge.D r.1)]:=
 ak (enc:=fun r=>.tup [bZ 0 r.1,I r.2]) (aP:=fun r=>[(0,dG 5 Edge.D r.1)]) 10 (.call [] [] (Xl t x) .no fun x0=>.br 100000018 (.ret ([],x0.2)) (.op 50004 (.ln TOp.D t.Ops) (.ps 1000001 [.k [2,6,8,21,22,23] [0,10]] (.lp1 0 (Nw t x0 [] 0) fun x1=>.cl 1 8 0 5 Edge.D x1 (.ps 1 [.k [8] []] (.call [] [] (L9) .no fun x2=>.ret ([],0))) (.ps 1 [.k [8] [0]] (.call [0] [] (WE x1) .no fun x2=>.ow 1000003 4 0 5 Edge.D x2 .no (.ret (x2,0)))))))) Tryz.func66 (by kernel_rfl) (by kernel_rfl) (by kernel_rfl) (fun r=>by generalize r.1=l0;cases l0<;>rfl)
def gG (t:Tape) (x:List Rat):Option ((List Edge×Int)⊕(List Edge×Int)):=(rY t x).bind fun r=>bif r.1.isEmpty then some (.inl r) else some (.inr r)
theorem NK (t:Tape) (x:List Rat):∀y,gG t x=some y→aj Tryz.prog 66 0 [AG Tape.D t,SL Rat.D x] [] (aN y (fun r=>.tup [gq,I r.2]) (fun r=>.tup [.msl 0 0 none none,I r.2])) (aN y (fun r=>[(0,none)]) (fun r=>[(0,ROW 5 Edge.D r.1 0)])):=by
 intro y h
 unfold gG at h
 cases hx:rY t x with
 | none=>rw[hx] at h;cases h
 | some r=>
  rw[hx] at h
  have hc:=Qu t x r hx
  obtain ⟨r0,r1⟩:=r
  cases r0 with
  | nil=>cases h;exact hc
  | cons a t=>cases h;exact hc
def yA (t:Tape) (i:Nat) (g:List Edge):St:=⟨60,0,[(4,.ptr 11 0 0),(8,.ptr 12 0 0),(32,SL (cI .i64) t.aH),(33,I ((t.aH.length:Nat):Int)),(34,I ((i:Nat):Int))],[(11,BOX [I 0,I 0,I 0,gq,gq]),(12,BOX [I t.Ins,I ((t.Ops.length:Nat):Int),I ((t.aH.length:Nat):Int),bZ 100025 g,gq]),(100025,dG 5 Edge.D g)]⟩
def yg (t:Tape) (g:List Edge):St:=⟨60,0,[(4,.ptr 11 0 0),(8,.ptr 12 0 0)],[(11,BOX [I 0,I 0,I 0,gq,gq]),(12,BOX [I t.Ins,I ((t.Ops.length:Nat):Int),I ((t.aH.length:Nat):Int),bZ 100025 g,gq]),(100025,dG 5 Edge.D g)]⟩
def jM (t:Tape) (i:Nat) (g:List Edge):Option ((Nat×List Edge)⊕(List Edge)):=
 bif decide (((i:Nat):Int)<((t.aH.length:Nat):Int)) then
 bif decide (i<t.aH.length) then
 bif inK .i64 (t.Ins+((t.Ops.length:Nat):Int)) then
 bif inK .i64 ((t.Ins+((t.Ops.length:Nat):Int))+((i:Nat):Int)) then
 (kC 1).bind fun x2=>
 bif decide (g.length+1≤2147483648) then
 bif inK .i64 (((i:Nat):Int)+1) then
 some (.inl (i+1,g++[Edge.mk (nth t.aH i) ((t.Ins+((t.Ops.length:Nat):Int))+((i:Nat):Int)) x2]))
 else none
 else none
 else none
 else none
 else none
 else
 some (.inr g)
theorem Qx (t:Tape):∀σ:Nat×List Edge,aJ Tryz.prog (nav [1,1,1,1,0,1,0,0] (ah Tryz.f40)) (fun (σ:Nat×List Edge)=>yA t σ.1 σ.2) (fun (_:List Edge)=>(.exit 0)) (fun (y:List Edge)=>yg t y) σ (jM t σ.1 σ.2)
 | (i,[])=>aB 1010 (.br 100000035 (.op 70002 (.el (cI .i64) t.aH (.up i)) (.call [] [] (jJ 1) .no fun x2=>.op 80026 (.ap Edge.D [] [Edge.mk (nth t.aH i) ((t.Ins+((t.Ops.length:Nat):Int))+((i:Nat):Int)) x2] 5 fun _=>⟨rfl,rfl⟩) (.ps 1000003 [.k [4,8,32,33,34] [11,12,1011],.m 1011 100025] (.ret (.inl (i+1,[Edge.mk (nth t.aH i) ((t.Ins+((t.Ops.length:Nat):Int))+((i:Nat):Int)) x2])))))) (.ps 1000003 [.k [4,8] [11,12,100025]] (.ret (.inr [])))) (by kernel_rfl)
 | (i,g_h::g_t)=>aB 1010 (.br 100000035 (.op 70002 (.el (cI .i64) t.aH (.up i)) (.call [] [] (jJ 1) .no fun x2=>.op 80026 (.ap Edge.D (g_h::g_t) [Edge.mk (nth t.aH i) ((t.Ins+((t.Ops.length:Nat):Int))+((i:Nat):Int)) x2] 5 fun _=>⟨rfl,rfl⟩) (.ps 1000003 [.k [4,8,32,33,34] [11,12,1011],.m 1011 100025] (.ret (.inl (i+1,(g_h::g_t)++[Edge.mk (nth t.aH i) ((t.Ins+((t.Ops.length:Nat):Int))+((i:Nat):Int)) x2])))))) (.ps 1000003 [.k [4,8] [11,12,100025]] (.ret (.inr (g_h::g_t))))) (by kernel_rfl)
def sO (t:Tape) (i:Nat) (g:List Edge):Option (List Edge):=aK (fun (σ:Nat×List Edge)=>jM t σ.1 σ.2) FU (i,g)
theorem GN (t:Tape) (i:Nat) (g:List Edge):∀y:List Edge,sO t i g=some y→Runs Tryz.prog (.loop (nav [1,1,1,1,0,1,0,0] (ah Tryz.f40))) (yA t i g) ((.exit 0)) ((fun (y:List Edge)=>yg t y) y):=
 aU (head:=fun (σ:Nat×List Edge)=>yA t σ.1 σ.2) (eo:=fun (_:List Edge)=>(.exit 0)) (so:=fun (y:List Edge)=>yg t y) (Qx t) (fun _ h=>by cases h) FU (i,g)
def xM (tA:Graph) (i:Nat) (o:List Bool) (o1:List Bool):St:=⟨112,0,[(1,.ptr 10 0 0),(2,.ptr 11 0 0),(4,.ptr 14 0 0),(5,.ptr 15 0 0),(26,I ((tA.Ins+tA.bJ)+tA.aH)),(27,I ((i:Nat):Int))],[(10,BOX [I tA.Ins,I tA.bJ,I tA.aH,SL Edge.D tA.Edges,SL (cI .i64) tA.Gone]),(11,BOX [I 0,I 0,I 0,gq,gq]),(12,ROW 1 cB o 0),(13,ROW 1 cB o1 0),(14,BOX [.msl 12 0 none (some (((tA.Ins+tA.bJ)+tA.aH).toNat))]),(15,BOX [.msl 13 0 none (some (((tA.Ins+tA.bJ)+tA.aH).toNat))])]⟩
def xR (tA:Graph) (o:List Bool) (o1:List Bool):St:=⟨112,0,[(1,.ptr 10 0 0),(2,.ptr 11 0 0),(4,.ptr 14 0 0),(5,.ptr 15 0 0)],[(10,BOX [I tA.Ins,I tA.bJ,I tA.aH,SL Edge.D tA.Edges,SL (cI .i64) tA.Gone]),(11,BOX [I 0,I 0,I 0,gq,gq]),(12,ROW 1 cB o 0),(13,ROW 1 cB o1 0),(14,BOX [.msl 12 0 none (some (((tA.Ins+tA.bJ)+tA.aH).toNat))]),(15,BOX [.msl 13 0 none (some (((tA.Ins+tA.bJ)+tA.aH).toNat))])]⟩
def jT (tA:Graph) (i:Nat) (o:List Bool) (o1:List Bool):Option ((Nat×List Bool×List Bool)⊕(List Bool×List Bool)):=
 bif decide (((i:Nat):Int)<((tA.Ins+tA.bJ)+tA.aH)) then
 bif inK .i64 (tA.Ins+tA.bJ) then
 bif decide (i<o.length) then
 bif decide (i<o.length) then
 bif decide (i<o1.length) then
 bif decide (i<o1.length) then
 bif inK .i64 (((i:Nat):Int)+1) then
 some (.inl (i+1,o.set i (decide (((i:Nat):Int)<tA.Ins)),o1.set i (decide (((i:Nat):Int)≥(tA.Ins+tA.bJ)))))
 else none
 else none
 else none
 else none
 else none
 else none
 else
 some (.inr (o,o1))
theorem Ri (tA:Graph):∀σ:Nat×List Bool×List Bool,aJ Tryz.prog (nav [1,1,1,1,0,1,0,0] (ah Tryz.f92)) (fun (σ:Nat×List Bool×List Bool)=>xM tA σ.1 σ.2.1 σ.2.2) (fun (_:List Bool×List Bool)=>(.exit 0)) (fun (y:List Bool×List Bool)=>xR tA y.1 y.2) σ (jT tA σ.1 σ.2.1 σ.2.2)
 | (i,o,o1)=>aB 1010 (.br 100000028 (.op 80030 (.el cB o (.up i)) (.op 80032 (.st cB o (decide (((i:Nat):Int)<tA.Ins))) (.op 80034 (.el cB o1 (.up i)) (.op 80036 (.st cB o1 (decide (((i:Nat):Int)≥(tA.Ins+tA.bJ)))) (.ps 1000003 [.k [1,2,4,5,26,27] [10,11,12,13,14,15]] (.ret (.inl (i+1,o.set i (decide (((i:Nat):Int)<tA.Ins)),o1.set i (decide (((i:Nat):Int)≥(tA.Ins+tA.bJ))))))))))) (.ps 1000003 [.k [1,2,4,5] [10,11,12,13,14,15]] (.ret (.inr (o,o1))))) (by kernel_rfl)
def FI (tA:Graph) (i:Nat) (o:List Bool) (o1:List Bool):Option (List Bool×List Bool):=aK (fun (σ:Nat×List Bool×List Bool)=>jT tA σ.1 σ.2.1 σ.2.2) FU (i,o,o1)
theorem QN (tA:Graph) (i:Nat) (o:List Bool) (o1:List Bool):∀y:List Bool×List Bool,FI tA i o o1=some y→Runs Tryz.prog (.loop (nav [1,1,1,1,0,1,0,0] (ah Tryz.f92))) (xM tA i o o1) ((.exit 0)) ((fun (y:List Bool×List Bool)=>xR tA y.1 y.2) y):=
 aU (head:=fun (σ:Nat×List Bool×List Bool)=>xM tA σ.1 σ.2.1 σ.2.2) (eo:=fun (_:List Bool×List Bool)=>(.exit 0)) (so:=fun (y:List Bool×List Bool)=>xR tA y.1 y.2) (Ri tA) (fun _ h=>by cases h) FU (i,o,o1)
def tZ (tA:Graph) (i:Nat) (o:List Bool) (o1:List Bool):St:=⟨112,0,[(1,.ptr 10 0 0),(2,.ptr 11 0 0),(4,.ptr 14 0 0),(5,.ptr 15 0 0),(50,I ((tA.Edges.length:Nat):Int)),(51,I ((i:Nat):Int))],[(10,BOX [I tA.Ins,I tA.bJ,I tA.aH,SL Edge.D tA.Edges,SL (cI .i64) tA.Gone]),(11,BOX [I 0,I 0,I 0,gq,gq]),(12,ROW 1 cB o 0),(13,ROW 1 cB o1 0),(14,BOX [.msl 12 0 none (some (((tA.Ins+tA.bJ)+tA.aH).toNat))]),(15,BOX [.msl 13 0 none (some (((tA.Ins+tA.bJ)+tA.aH).toNat))])]⟩
def tN (tA:Graph) (o:List Bool) (o1:List Bool):St:=⟨112,0,[(1,.ptr 10 0 0),(2,.ptr 11 0 0),(4,.ptr 14 0 0),(5,.ptr 15 0 0)],[(10,BOX [I tA.Ins,I tA.bJ,I tA.aH,SL Edge.D tA.Edges,SL (cI .i64) tA.Gone]),(11,BOX [I 0,I 0,I 0,gq,gq]),(12,ROW 1 cB o 0),(13,ROW 1 cB o1 0),(14,BOX [.msl 12 0 none (some (((tA.Ins+tA.bJ)+tA.aH).toNat))]),(15,BOX [.msl 13 0 none (some (((tA.Ins+tA.bJ)+tA.aH).toNat))])]⟩
def iK (tA:Graph) (i:Nat) (o:List Bool) (o1:List Bool):Option ((Nat×List Bool×List Bool)⊕(List Bool×List Bool)):=
 bif decide (((i:Nat):Int)<((tA.Edges.length:Nat):Int)) then
 bif decide (i<tA.Edges.length) then
 bif inK .i64 (((tA.Edges.length:Nat):Int)-1) then
 bif inK .i64 ((((tA.Edges.length:Nat):Int)-1)-((i:Nat):Int)) then
 bif decide (0≤(((tA.Edges.length:Nat):Int)-1)-((i:Nat):Int)) then
 bif decide (((((tA.Edges.length:Nat):Int)-1)-((i:Nat):Int)).toNat<tA.Edges.length) then
 bif decide (0≤(nth tA.Edges i).To) then
 bif decide (((nth tA.Edges i).To).toNat<o.length) then
 bif decide (((nth tA.Edges i).To).toNat<o.length) then
 bif nth o (((nth tA.Edges i).To).toNat) then
 bif decide (0≤(nth tA.Edges i).To) then
 bif decide (((nth tA.Edges i).To).toNat<o.length) then
 bif decide (((nth tA.Edges i).To).toNat<o.length) then
 bif decide (0≤(nth tA.Edges (((((tA.Edges.length:Nat):Int)-1)-((i:Nat):Int)).toNat)).From) then
 bif decide (((nth tA.Edges (((((tA.Edges.length:Nat):Int)-1)-((i:Nat):Int)).toNat)).From).toNat<o1.length) then
 bif decide (((nth tA.Edges (((((tA.Edges.length:Nat):Int)-1)-((i:Nat):Int)).toNat)).From).toNat<o1.length) then
 bif nth o1 (((nth tA.Edges (((((tA.Edges.length:Nat):Int)-1)-((i:Nat):Int)).toNat)).From).toNat) then
 bif decide (0≤(nth tA.Edges (((((tA.Edges.length:Nat):Int)-1)-((i:Nat):Int)).toNat)).From) then
 bif decide (((nth tA.Edges (((((tA.Edges.length:Nat):Int)-1)-((i:Nat):Int)).toNat)).From).toNat<o1.length) then
 bif decide (((nth tA.Edges (((((tA.Edges.length:Nat):Int)-1)-((i:Nat):Int)).toNat)).From).toNat<o1.length) then
 bif inK .i64 (((i:Nat):Int)+1) then
 some (.inl (i+1,o.set (((nth tA.Edges i).To).toNat) true,o1.set (((nth tA.Edges (((((tA.Edges.length:Nat):Int)-1)-((i:Nat):Int)).toNat)).From).toNat) true))
 else none
 else none
 else none
 else none
 else
 bif decide (0≤(nth tA.Edges (((((tA.Edges.length:Nat):Int)-1)-((i:Nat):Int)).toNat)).To) then
 bif decide (((nth tA.Edges (((((tA.Edges.length:Nat):Int)-1)-((i:Nat):Int)).toNat)).To).toNat<o1.length) then
 bif decide (((nth tA.Edges (((((tA.Edges.length:Nat):Int)-1)-((i:Nat):Int)).toNat)).To).toNat<o1.length) then
 bif decide (0≤(nth tA.Edges (((((tA.Edges.length:Nat):Int)-1)-((i:Nat):Int)).toNat)).From) then
 bif decide (((nth tA.Edges (((((tA.Edges.length:Nat):Int)-1)-((i:Nat):Int)).toNat)).From).toNat<o1.length) then
 bif decide (((nth tA.Edges (((((tA.Edges.length:Nat):Int)-1)-((i:Nat):Int)).toNat)).From).toNat<o1.length) then
 bif inK .i64 (((i:Nat):Int)+1) then
 some (.inl (i+1,o.set (((nth tA.Edges i).To).toNat) true,o1.set (((nth tA.Edges (((((tA.Edges.length:Nat):Int)-1)-((i:Nat):Int)).toNat)).From).toNat) (nth o1 (((nth tA.Edges (((((tA.Edges.length:Nat):Int)-1)-((i:Nat):Int)).toNat)).To).toNat))))
 else none
 else none
 else none
 else none
 else none
 else none
 else none
 else none
 else none
 else none
 else none
 else none
 else none
 else
 bif decide (0≤(nth tA.Edges i).From) then
 bif decide (((nth tA.Edges i).From).toNat<o.length) then
 bif decide (((nth tA.Edges i).From).toNat<o.length) then
 bif decide (0≤(nth tA.Edges i).To) then
 bif decide (((nth tA.Edges i).To).toNat<o.length) then
 bif decide (((nth tA.Edges i).To).toNat<o.length) then
 bif decide (0≤(nth tA.Edges (((((tA.Edges.length:Nat):Int)-1)-((i:Nat):Int)).toNat)).From) then
 bif decide (((nth tA.Edges (((((tA.Edges.length:Nat):Int)-1)-((i:Nat):Int)).toNat)).From).toNat<o1.length) then
 bif decide (((nth tA.Edges (((((tA.Edges.length:Nat):Int)-1)-((i:Nat):Int)).toNat)).From).toNat<o1.length) then
 bif nth o1 (((nth tA.Edges (((((tA.Edges.length:Nat):Int)-1)-((i:Nat):Int)).toNat)).From).toNat) then
 bif decide (0≤(nth tA.Edges (((((tA.Edges.length:Nat):Int)-1)-((i:Nat):Int)).toNat)).From) then
 bif decide (((nth tA.Edges (((((tA.Edges.length:Nat):Int)-1)-((i:Nat):Int)).toNat)).From).toNat<o1.length) then
 bif decide (((nth tA.Edges (((((tA.Edges.length:Nat):Int)-1)-((i:Nat):Int)).toNat)).From).toNat<o1.length) then
 bif inK .i64 (((i:Nat):Int)+1) then
 some (.inl (i+1,o.set (((nth tA.Edges i).To).toNat) (nth o (((nth tA.Edges i).From).toNat)),o1.set (((nth tA.Edges (((((tA.Edges.length:Nat):Int)-1)-((i:Nat):Int)).toNat)).From).toNat) true))
 else none
 else none
 else none
 else none
 else
 bif decide (0≤(nth tA.Edges (((((tA.Edges.length:Nat):Int)-1)-((i:Nat):Int)).toNat)).To) then
 bif decide (((nth tA.Edges (((((tA.Edges.length:Nat):Int)-1)-((i:Nat):Int)).toNat)).To).toNat<o1.length) then
 bif decide (((nth tA.Edges (((((tA.Edges.length:Nat):Int)-1)-((i:Nat):Int)).toNat)).To).toNat<o1.length) then
 bif decide (0≤(nth tA.Edges (((((tA.Edges.length:Nat):Int)-1)-((i:Nat):Int)).toNat)).From) then
 bif decide (((nth tA.Edges (((((tA.Edges.length:Nat):Int)-1)-((i:Nat):Int)).toNat)).From).toNat<o1.length) then
 bif decide (((nth tA.Edges (((((tA.Edges.length:Nat):Int)-1)-((i:Nat):Int)).toNat)).From).toNat<o1.length) then
 bif inK .i64 (((i:Nat):Int)+1) then
 some (.inl (i+1,o.set (((nth tA.Edges i).To).toNat) (nth o (((nth tA.Edges i).From).toNat)),o1.set (((nth tA.Edges (((((tA.Edges.length:Nat):Int)-1)-((i:Nat):Int)).toNat)).From).toNat) (nth o1 (((nth tA.Edges (((((tA.Edges.length:Nat):Int)-1)-((i:Nat):Int)).toNat)).To).toNat))))
 else none
 else none
 else none
 else none
 else none
 else none
 else none
 else none
 else none
 else none
 else none
 else none
 else none
 else none
 else none
 else none
 else none
 else none
 else none
 else none
 else none
 else none
 else none
 else none
 else
 some (.inr (o,o1))
theorem Ns (tA:Graph):∀σ:Nat×List Bool×List Bool,aJ Tryz.prog (nav [1,1,1,1,1,0,1,0,0] (ah Tryz.f92)) (fun (σ:Nat×List Bool×List Bool)=>tZ tA σ.1 σ.2.1 σ.2.2) (fun (_:List Bool×List Bool)=>(.exit 2)) (fun (y:List Bool×List Bool)=>tN tA y.1 y.2) σ (iK tA σ.1 σ.2.1 σ.2.2)
 | (i,o,o1)=>aB 1010 (.br 100000052 (.op 130006 (.el Edge.D tA.Edges (.up i)) (.op 130018 (.ln Edge.D tA.Edges) (.op 130026 (.el Edge.D tA.Edges .dn) (.op 140012 (.el cB o .dn) (.op 140014 (.ld cB o) (.br 140018 (.op 140030 (.el cB o .dn) (.op 140032 (.st cB o true) (.op 150012 (.el cB o1 .dn) (.op 150014 (.ld cB o1) (.br 150018 (.op 150030 (.el cB o1 .dn) (.op 150032 (.st cB o1 true) (.ps 1000003 [.k [1,2,4,5,50,51] [10,11,12,13,14,15]] (.ret (.inl (i+1,o.set (((nth tA.Edges i).To).toNat) true,o1.set (((nth tA.Edges (((((tA.Edges.length:Nat):Int)-1)-((i:Nat):Int)).toNat)).From).toNat) true)))))) (.op 150024 (.el cB o1 .dn) (.op 150026 (.ld cB o1) (.op 150030 (.el cB o1 .dn) (.op 150032 (.st cB o1 (nth o1 (((nth tA.Edges (((((tA.Edges.length:Nat):Int)-1)-((i:Nat):Int)).toNat)).To).toNat))) (.ps 1000003 [.k [1,2,4,5,50,51] [10,11,12,13,14,15]] (.ret (.inl (i+1,o.set (((nth tA.Edges i).To).toNat) true,o1.set (((nth tA.Edges (((((tA.Edges.length:Nat):Int)-1)-((i:Nat):Int)).toNat)).From).toNat) (nth o1 (((nth tA.Edges (((((tA.Edges.length:Nat):Int)-1)-((i:Nat):Int)).toNat)).To).toNat))))))))))))))) (.op 140024 (.el cB o .dn) (.op 140026 (.ld cB o) (.op 140030 (.el cB o .dn) (.op 140032 (.st cB o (nth o (((nth tA.Edges i).From).toNat))) (.op 150012 (.el cB o1 .dn) (.op 150014 (.ld cB o1) (.br 150018 (.op 150030 (.el cB o1 .dn) (.op 150032 (.st cB o1 true) (.ps 1000003 [.k [1,2,4,5,50,51] [10,11,12,13,14,15]] (.ret (.inl (i+1,o.set (((nth tA.Edges i).To).toNat) (nth o (((nth tA.Edges i).From).toNat)),o1.set (((nth tA.Edges (((((tA.Edges.length:Nat):Int)-1)-((i:Nat):Int)).toNat)).From).toNat) true)))))) (.op 150024 (.el cB o1 .dn) (.op 150026 (.ld cB o1) (.op 150030 (.el cB o1 .dn) (.op 150032 (.st cB o1 (nth o1 (((nth tA.Edges (((((tA.Edges.length:Nat):Int)-1)-((i:Nat):Int)).toNat)).To).toNat))) (.ps 1000003 [.k [1,2,4,5,50,51] [10,11,12,13,14,15]] (.ret (.inl (i+1,o.set (((nth tA.Edges i).To).toNat) (nth o (((nth tA.Edges i).From).toNat)),o1.set (((nth tA.Edges (((((tA.Edges.length:Nat):Int)-1)-((i:Nat):Int)).toNat)).From).toNat) (nth o1 (((nth tA.Edges (((((tA.Edges.length:Nat):Int)-1)-((i:Nat):Int)).toNat)).To).toNat))))))))))))))))))))))) (.ps 1000003 [.k [1,2,4,5] [10,11,12,13,14,15]] (.ret (.inr (o,o1))))) (by kernel_rfl)
def zW (tA:Graph) (i:Nat) (o:List Bool) (o1:List Bool):Option (List Bool×List Bool):=aK (fun (σ:Nat×List Bool×List Bool)=>iK tA σ.1 σ.2.1 σ.2.2) FU (i,o,o1)
theorem Nq (tA:Graph) (i:Nat) (o:List Bool) (o1:List Bool):∀y:List Bool×List Bool,zW tA i o o1=some y→Runs Tryz.prog (.loop (nav [1,1,1,1,1,0,1,0,0] (ah Tryz.f92))) (tZ tA i o o1) ((.exit 2)) ((fun (y:List Bool×List Bool)=>tN tA y.1 y.2) y):=
 aU (head:=fun (σ:Nat×List Bool×List Bool)=>tZ tA σ.1 σ.2.1 σ.2.2) (eo:=fun (_:List Bool×List Bool)=>(.exit 2)) (so:=fun (y:List Bool×List Bool)=>tN tA y.1 y.2) (Ns tA) (fun _ h=>by cases h) FU (i,o,o1)
def yP (o0:List Bool) (o1:List Bool) (w:Edge):Option Bool:=
 bif decide (0≤w.From) then
 bif decide (w.From.toNat<o0.length) then
 bif nth o0 w.From.toNat then
 bif decide (0≤w.To) then
 bif decide (w.To.toNat<o1.length) then
 some (nth o1 w.To.toNat)
 else none
 else none
 else
 some false
 else none
 else none
theorem Gn (o0:List Bool) (o1:List Bool) (w:Edge):∀r,yP o0 o1 w=some r→aj Tryz.prog 148 2 [AG Edge.D w,.ptr 0 0 0,.ptr 1 0 0] [(0,BOX [SL cB o0]),(1,BOX [SL cB o1])] (B r) [(0,BOX [SL cB o0]),(1,BOX [SL cB o1])]:=
 ak (enc:=fun r=>B r) (aP:=fun r=>[(0,BOX [SL cB o0]),(1,BOX [SL cB o1])]) 10 (.op 10006 (.el cB o0 .dn) (.br 10012 (.op 10018 (.el cB o1 .dn) (.ret (nth o1 w.To.toNat))) (.ret false))) Tryz.func148 (by kernel_rfl) (by kernel_rfl) (by kernel_rfl)
def jW (o0:List Bool) (o1:List Bool) (l:List Edge) (out:List Edge) (i:Nat):St:=⟨23,2,[(1,.fn (.func 148) [] [.ptr 0 0 0,.ptr 1 0 0]),(5,bZ 100026 out),(8,SL Edge.D l),(9,I ((l.length:Nat):Int)),(10,I ((i:Nat):Int))],[(0,BOX [SL cB o0]),(1,BOX [SL cB o1]),(100026,dG 5 Edge.D out)]⟩
def kD (o0:List Bool) (o1:List Bool) (l:List Edge) (out:List Edge):St:=⟨23,2,[(5,bZ 100026 out)],[(0,BOX [SL cB o0]),(1,BOX [SL cB o1]),(100026,dG 5 Edge.D out)]⟩
def bY (o0:List Bool) (o1:List Bool) (l:List Edge) (out:List Edge) (i:Nat):Option ((List Edge×Nat)⊕(List Edge)):=
 bif decide (((i:Nat):Int)<((l.length:Nat):Int)) then
 bif decide (i<l.length) then
 (yP o0 o1 (nth l i)).bind fun x0=>
 bif x0 then
 bif decide (out.length+1≤2147483648) then
 bif inK .i64 (((i:Nat):Int)+1) then
 some (.inl (out++[nth l i],i+1))
 else none
 else none
 else
 bif inK .i64 (((i:Nat):Int)+1) then
 some (.inl (out,i+1))
 else none
 else none
 else
 some (.inr out)
theorem Du (o0:List Bool) (o1:List Bool) (l:List Edge):∀σ:List Edge×Nat,aJ Tryz.prog (nav [1,1,0,1,0,0] (ah Tryz.f147)) (fun (σ:List Edge×Nat)=>jW o0 o1 l σ.1 σ.2) (fun (_:List Edge)=>(.exit 0)) (fun (y:List Edge)=>kD o0 o1 l y) σ (bY o0 o1 l σ.1 σ.2)
 | ([],i)=>aB 1010 (.br 100000011 (.op 40000 (.el Edge.D l (.up i)) (.call [0,1] [] (Gn o0 o1 (nth l i)) .no fun x0=>.br 100000016 (.op 60006 (.ap Edge.D [] [nth l i] 5 fun _=>⟨rfl,rfl⟩) (.ps 1000003 [.k [1,5,8,9,10] [0,1,1012],.m 1012 100026] (.ret (.inl ([nth l i],i+1))))) (.ps 1000003 [.k [1,5,8,9,10] [0,1,100026]] (.ret (.inl ([],i+1)))))) (.ps 1000003 [.k [5] [0,1,100026]] (.ret (.inr [])))) (by kernel_rfl)
 | (dK::dM,i)=>aB 1010 (.br 100000011 (.op 40000 (.el Edge.D l (.up i)) (.call [0,1] [] (Gn o0 o1 (nth l i)) .no fun x0=>.br 100000016 (.op 60006 (.ap Edge.D (dK::dM) [nth l i] 5 fun _=>⟨rfl,rfl⟩) (.ps 1000003 [.k [1,5,8,9,10] [0,1,1012],.m 1012 100026] (.ret (.inl ((dK::dM)++[nth l i],i+1))))) (.ps 1000003 [.k [1,5,8,9,10] [0,1,100026]] (.ret (.inl ((dK::dM),i+1)))))) (.ps 1000003 [.k [5] [0,1,100026]] (.ret (.inr (dK::dM))))) (by kernel_rfl)
def l7 (o0:List Bool) (o1:List Bool) (l:List Edge) (out:List Edge) (i:Nat):Option (List Edge):=aK (fun (σ:List Edge×Nat)=>bY o0 o1 l σ.1 σ.2) FU (out,i)
theorem DJ (o0:List Bool) (o1:List Bool) (l:List Edge) (out:List Edge) (i:Nat):∀y:List Edge,l7 o0 o1 l out i=some y→Runs Tryz.prog (.loop (nav [1,1,0,1,0,0] (ah Tryz.f147))) (jW o0 o1 l out i) ((.exit 0)) ((fun (y:List Edge)=>kD o0 o1 l y) y):=
 aU (head:=fun (σ:List Edge×Nat)=>jW o0 o1 l σ.1 σ.2) (eo:=fun (_:List Edge)=>(.exit 0)) (so:=fun (y:List Edge)=>kD o0 o1 l y) (Du o0 o1 l) (fun _ h=>by cases h) FU (out,i)
def kJ (o0:List Bool) (o1:List Bool) (l:List Edge):Option (List Edge):=
 (l7 o0 o1 l [] 0).bind fun x0=>
 some x0
theorem FN (o0:List Bool) (o1:List Bool) (l:List Edge):∀r,kJ o0 o1 l=some r→aj Tryz.prog 147 2 [SL Edge.D l,.fn (.func 148) [] [.ptr 0 0 0,.ptr 1 0 0]] [(0,BOX [SL cB o0]),(1,BOX [SL cB o1])] (SL Edge.D r) [(0,BOX [SL cB o0]),(1,BOX [SL cB o1])]:=
 ak (enc:=fun r=>SL Edge.D r) (aP:=fun r=>[(0,BOX [SL cB o0]),(1,BOX [SL cB o1])]) 10 (.op 20002 (.ln Edge.D l) (.ps 1000001 [.k [1,5,8,9,10] [0,1,100026]] (.lp1 0 (DJ o0 o1 l [] 0) fun x0=>.oz 1 5 100026 5 Edge.D x0 (.ps 1 [.k [5] [0,1]] (.ret x0))))) Tryz.func147 (by kernel_rfl) (by kernel_rfl) (by kernel_rfl)
def iW (tA:Graph):Option Graph:=
 (uF tA).bind fun x0=>
 bif !x0 then
 some (Graph.mk 0 0 0 [] [])
 else
 bif inK .i64 (tA.Ins+tA.bJ) then
 bif inK .i64 ((tA.Ins+tA.bJ)+tA.aH) then
 bif decide (0≤(tA.Ins+tA.bJ)+tA.aH) then
 bif decide (((tA.Ins+tA.bJ)+tA.aH).toNat≤2147483648) then
 bif decide (0≤(tA.Ins+tA.bJ)+tA.aH) then
 bif decide (((tA.Ins+tA.bJ)+tA.aH).toNat≤2147483648) then
 (FI tA 0 (List.replicate (((tA.Ins+tA.bJ)+tA.aH).toNat) false) (List.replicate (((tA.Ins+tA.bJ)+tA.aH).toNat) false)).bind fun x1=>
 (zW tA 0 x1.1 x1.2).bind fun x2=>
 (dQ tA.Gone).bind fun x3=>
 (kJ x2.1 x2.2 tA.Edges).bind fun x4=>
 some (Graph.mk tA.Ins tA.bJ tA.aH x4 x3)
 else none
 else none
 else none
 else none
 else none
 else none
theorem ng (tA:Graph):∀r,iW tA=some r→aj Tryz.prog 92 0 [AG Graph.D tA] [] (AG Graph.D r) []:=
 ak (enc:=fun r=>AG Graph.D r) (aP:=fun r=>[]) 10 (.call [] [] (KA tA) .no fun x0=>.br 100000012 (.ps 1000003 [.b 11] (.ret (Graph.mk 0 0 0 [] []))) (.op 40002 (.mk cB false .dn) (.op 40006 (.mk cB false .dn) (.ps 1000001 [.k [1,2,4,5,26,27] [10,11,12,13,14,15]] (.lp1 0 (QN tA 0 (List.replicate (((tA.Ins+tA.bJ)+tA.aH).toNat) false) (List.replicate (((tA.Ins+tA.bJ)+tA.aH).toNat) false)) fun x1=>.op 100004 (.ln Edge.D tA.Edges) (.ps 1000001 [.k [1,2,4,5,50,51] [10,11,12,13,14,15]] (.lp1 0 (Nq tA 0 x1.1 x1.2) fun x2=>.call [] [] (FZ tA.Gone) .no fun x3=>.call [14,15] [] (FN x2.1 x2.2 tA.Edges) .no fun x4=>.ret (Graph.mk tA.Ins tA.bJ tA.aH x4 x3)))))))) Tryz.func92 (by kernel_rfl) (by kernel_rfl) (by kernel_rfl)
def qo (t:Tape) (x:List Rat):Option (Graph×Int):=
 (gG t x).bind fun y_=>aN y_ (fun x0=>
 bif x0.2 != 0 then
 some (Graph.mk 0 0 0 [] [],x0.2)
 else
 (sO t 0 []).bind fun x2=>
 bif x2.isEmpty then
 (wV).bind fun x3=>
 (iW (Graph.mk t.Ins ((t.Ops.length:Nat):Int) ((t.aH.length:Nat):Int) [] [])).bind fun x4=>
 some (x4,0)
 else
 (qX x2).bind fun x3=>
 (iW (Graph.mk t.Ins ((t.Ops.length:Nat):Int) ((t.aH.length:Nat):Int) x3 [])).bind fun x4=>
 some (x4,0))
 (fun x1=>
 bif x1.2 != 0 then
 some (Graph.mk 0 0 0 [] [],x1.2)
 else
 bif !x1.1.isEmpty then
 (sO t 0 x1.1).bind fun x2=>
 bif x2.isEmpty then
 (wV).bind fun x3=>
 (iW (Graph.mk t.Ins ((t.Ops.length:Nat):Int) ((t.aH.length:Nat):Int) [] [])).bind fun x4=>
 some (x4,0)
 else
 (qX x2).bind fun x3=>
 (iW (Graph.mk t.Ins ((t.Ops.length:Nat):Int) ((t.aH.length:Nat):Int) x3 [])).bind fun x4=>
 some (x4,0)
 else none)
theorem WG (t:Tape) (x:List Rat):∀r,qo t x=some r→aj Tryz.prog 40 0 [AG Tape.D t,SL Rat.D x] [] (.tup [AG Graph.D r.1,I r.2]) []:=
 ak (enc:=fun r=>.tup [AG Graph.D r.1,I r.2]) (aP:=fun r=>[]) 10 (.aa8 [] [100024] (NK t x) .no (fun x0=>.br 100000018 (.ps 1000003 [.b 11] (.ret (Graph.mk 0 0 0 [] [],x0.2))) (.op 40008 (.ln TOp.D t.Ops) (.op 40014 (.ln (cI .i64) t.aH) (.op 50004 (.ln (cI .i64) t.aH) (.ps 1000001 [.k [4,8,32,33,34] [11,12,100025]] (.lp1 0 (GN t 0 []) fun x2=>.cb 1 12 3 100025 5 Edge.D x2 (.ps 1 [.k [4,8] [11,12]] (.call [] [] (A8) .no fun x3=>.call [] [] (ng (Graph.mk t.Ins ((t.Ops.length:Nat):Int) ((t.aH.length:Nat):Int) [] [])) .no fun x4=>.ret (x4,0))) (.ps 1 [.k [4,8] [11,12,100025]] (.call [100025] [] (J7 x2) .no fun x3=>.call [] [] (ng (Graph.mk t.Ins ((t.Ops.length:Nat):Int) ((t.aH.length:Nat):Int) x3 [])) .no fun x4=>.ret (x4,0))))))))) (fun x1=>.br 100000018 (.ps 1000003 [.b 11] (.ret (Graph.mk 0 0 0 [] [],x1.2))) (.op 40008 (.ln TOp.D t.Ops) (.op 40014 (.ln (cI .i64) t.aH) (.op 50004 (.ln (cI .i64) t.aH) (.ps 1000001 [.k [4,8,32,33,34] [11,12,100024],.m 100024 100025] (.oq 1000001 12 3 100025 5 Edge.D x1.1 .no (.ps 1000001 [.k [4,8,32,33,34] [11,12,100025]] (.lp1 0 (GN t 0 x1.1) fun x2=>.cb 1 12 3 100025 5 Edge.D x2 (.ps 1 [.k [4,8] [11,12]] (.call [] [] (A8) .no fun x3=>.call [] [] (ng (Graph.mk t.Ins ((t.Ops.length:Nat):Int) ((t.aH.length:Nat):Int) [] [])) .no fun x4=>.ret (x4,0))) (.ps 1 [.k [4,8] [11,12,100025]] (.call [100025] [] (J7 x2) .no fun x3=>.call [] [] (ng (Graph.mk t.Ins ((t.Ops.length:Nat):Int) ((t.aH.length:Nat):Int) x3 [])) .no fun x4=>.ret (x4,0)))))))))))) Tryz.func40 (by kernel_rfl) (by kernel_rfl) (by kernel_rfl)
end Go.Ab.M
