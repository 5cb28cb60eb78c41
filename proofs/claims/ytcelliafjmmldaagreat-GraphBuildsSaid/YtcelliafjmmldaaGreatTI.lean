import Derived.Test.YtcelliafjmmldaaGreatTH
namespace Go.Ab.M
open Go.Proofs
set_option linter.unusedVariables false
set_option maxRecDepth 100000
def uq (t:Tape) (x0:List Rat×Int) (out:List Edge) (i:Nat):St:=⟨43,0,[(2,.ptr 10 0 0),(6,SL Rat.D x0.1),(8,bI 0 out),(21,SL TOp.D t.Ops),(22,I ((t.Ops.length:Nat):Int)),(23,I ((i:Nat):Int))],[(0,bM 5 Edge.D out),(10,BOX [I t.Ins,SL TOp.D t.Ops,SL (cI .i64) t.aG])]⟩
def uj (t:Tape) (x0:List Rat×Int) (out:List Edge):St:=⟨43,0,[(8,bI 0 out)],[(0,bM 5 Edge.D out)]⟩
def DF (t:Tape) (x0:List Rat×Int) (out:List Edge) (i:Nat):Option ((List Edge×Nat)⊕(List Edge)):=
 bif decide (((i:Nat):Int)<((t.Ops.length:Nat):Int)) then
 bif decide (i<t.Ops.length) then
 (JM (nth t.Ops i) x0.1).bind fun x1=>
 bif inK .i64 (t.Ins+((i:Nat):Int)) then
 (jl (nth t.Ops i) x1 (t.Ins+((i:Nat):Int))).bind fun y_=>aH y_ (fun x2=>
 bif decide (out.length+0≤2147483648) then
 bif inK .i64 (((i:Nat):Int)+1) then
 some (.inl (out++[],i+1))
 else none
 else none)
 (fun x3=>
 bif decide (out.length+x3.length≤2147483648) then
 bif inK .i64 (((i:Nat):Int)+1) then
 some (.inl (out++x3,i+1))
 else none
 else none)
 else none
 else none
 else
 some (.inr out)
theorem N9 (t:Tape) (x0:List Rat×Int):∀σ:List Edge×Nat,aN Tryz.prog (nav [1,1,1,1,0,1,0,0] (ah Tryz.f27)) (fun (σ:List Edge×Nat)=>uq t x0 σ.1 σ.2) (fun (_:List Edge)=>(.exit 0)) (fun (y:List Edge)=>uj t x0 y) σ (DF t x0 σ.1 σ.2)
 | ([],i)=>aF 1010 (.br 100000024 (.op 70002 (.el TOp.D t.Ops (.up i)) (.call [] [] (SK (nth t.Ops i) x0.1) .no fun x1=>.acI [] [100020] (Hf (nth t.Ops i) x1 (t.Ins+((i:Nat):Int))) .no (fun x2=>.op 80020 (.ao 0 Edge.D ([]:List Edge) 5 fun _=>⟨rfl,rfl⟩) (.ps 1000003 [.k [2,6,8,21,22,23] [0,10]] (.ret (.inl ([],i+1))))) (fun x3=>.op 80020 (.ao 0 Edge.D x3 5 fun _=>⟨rfl,rfl⟩) (.ps 1000003 [.k [2,6,8,21,22,23] [0,10]] (.ret (.inl (x3,i+1))))))) (.ps 1000003 [.k [8] [0]] (.ret (.inr [])))) (by kernel_rfl)
 | (dP::dO,i)=>aF 1010 (.br 100000024 (.op 70002 (.el TOp.D t.Ops (.up i)) (.call [] [] (SK (nth t.Ops i) x0.1) .no fun x1=>.acI [] [100020] (Hf (nth t.Ops i) x1 (t.Ins+((i:Nat):Int))) .no (fun x2=>.op 80020 (.ap Edge.D (dP::dO) [] 5 fun _=>⟨rfl,rfl⟩) (.ps 1000003 [.k [2,6,8,21,22,23] [1011,10],.m 1011 0] (.ret (.inl ((dP::dO)++[],i+1))))) (fun x3=>.op 80020 (.ap Edge.D (dP::dO) x3 5 fun _=>⟨rfl,rfl⟩) (.ps 1000003 [.k [2,6,8,21,22,23] [1011,10],.m 1011 0] (.ret (.inl ((dP::dO)++x3,i+1))))))) (.ps 1000003 [.k [8] [0]] (.ret (.inr (dP::dO))))) (by kernel_rfl)
def zZ (t:Tape) (x0:List Rat×Int) (out:List Edge) (i:Nat):Option (List Edge):=aK (fun (σ:List Edge×Nat)=>DF t x0 σ.1 σ.2) FU (out,i)
theorem NT (t:Tape) (x0:List Rat×Int) (out:List Edge) (i:Nat):∀y:List Edge,zZ t x0 out i=some y→Runs Tryz.prog (.loop (nav [1,1,1,1,0,1,0,0] (ah Tryz.f27))) (uq t x0 out i) ((.exit 0)) ((fun (y:List Edge)=>uj t x0 y) y):=
 aS (head:=fun (σ:List Edge×Nat)=>uq t x0 σ.1 σ.2) (eo:=fun (_:List Edge)=>(.exit 0)) (so:=fun (y:List Edge)=>uj t x0 y) (N9 t x0) (fun _ h=>by cases h) FU (out,i)
def rQ (t:Tape) (x:List Rat):Option (List Edge×Int):=
 (pF t x).bind fun x0=>
 bif x0.2 != 0 then
 some ([],x0.2)
 else
 (zZ t x0 [] 0).bind fun x1=>
 bif x1.isEmpty then
 (xw).bind fun x2=>
 some ([],0)
 else
 (nC x1).bind fun x2=>
 bif !x2.isEmpty then
 some (x2,0)
 else none
theorem QS (t:Tape) (x:List Rat):∀r,rQ t x=some r→aj Tryz.prog 27 0 [AG Tape.D t,SL Rat.D x] [] (.tup [bI 0 r.1,I r.2]) [(0,bM 5 Edge.D r.1)]:=
 ak (enc:=fun r=>.tup [bI 0 r.1,I r.2]) (aP:=fun r=>[(0,bM 5 Edge.D r.1)]) 10 (.call [] [] (XD t x) .no fun x0=>.br 100000018 (.ret ([],x0.2)) (.op 50004 (.ln TOp.D t.Ops) (.ps 1000001 [.k [2,6,8,21,22,23] [0,10]] (.lp1 0 (NT t x0 [] 0) fun x1=>.cl 1 8 0 5 Edge.D x1 (.ps 1 [.k [8] []] (.call [] [] (MB) .no fun x2=>.ret ([],0))) (.ps 1 [.k [8] [0]] (.call [0] [] (Vp x1) .no fun x2=>.ow 1000003 4 0 5 Edge.D x2 .no (.ret (x2,0)))))))) Tryz.func27 (by kernel_rfl) (by kernel_rfl) (by kernel_rfl) (fun r=>by generalize r.1=l0;cases l0<;>rfl)
def eF (t:Tape) (x:List Rat):Option ((List Edge×Int)⊕(List Edge×Int)):=(rQ t x).bind fun r=>bif r.1.isEmpty then some (.inl r) else some (.inr r)
theorem N7 (t:Tape) (x:List Rat):∀y,eF t x=some y→aj Tryz.prog 27 0 [AG Tape.D t,SL Rat.D x] [] (aH y (fun r=>.tup [bZ,I r.2]) (fun r=>.tup [.msl 0 0 none none,I r.2])) (aH y (fun r=>[(0,none)]) (fun r=>[(0,ROW 5 Edge.D r.1 0)])):=by
 intro y h
 unfold eF at h
 cases hx:rQ t x with
 | none=>rw[hx] at h;cases h
 | some r=>
  rw[hx] at h
  have hc:=QS t x r hx
  obtain ⟨r0,r1⟩:=r
  cases r0 with
  | nil=>cases h;exact hc
  | cons a t=>cases h;exact hc
def xu (t:Tape) (i:Nat) (g:List Edge):St:=⟨60,0,[(4,.ptr 11 0 0),(8,.ptr 12 0 0),(32,SL (cI .i64) t.aG),(33,I ((t.aG.length:Nat):Int)),(34,I ((i:Nat):Int))],[(11,BOX [I 0,I 0,I 0,bZ,bZ]),(12,BOX [I t.Ins,I ((t.Ops.length:Nat):Int),I ((t.aG.length:Nat):Int),bI 100025 g,bZ]),(100025,bM 5 Edge.D g)]⟩
def yg (t:Tape) (g:List Edge):St:=⟨60,0,[(4,.ptr 11 0 0),(8,.ptr 12 0 0)],[(11,BOX [I 0,I 0,I 0,bZ,bZ]),(12,BOX [I t.Ins,I ((t.Ops.length:Nat):Int),I ((t.aG.length:Nat):Int),bI 100025 g,bZ]),(100025,bM 5 Edge.D g)]⟩
def jC (t:Tape) (i:Nat) (g:List Edge):Option ((Nat×List Edge)⊕(List Edge)):=
 bif decide (((i:Nat):Int)<((t.aG.length:Nat):Int)) then
 bif decide (i<t.aG.length) then
 bif inK .i64 (t.Ins+((t.Ops.length:Nat):Int)) then
 bif inK .i64 ((t.Ins+((t.Ops.length:Nat):Int))+((i:Nat):Int)) then
 (iK 1).bind fun x2=>
 bif decide (g.length+1≤2147483648) then
 bif inK .i64 (((i:Nat):Int)+1) then
 some (.inl (i+1,g++[Edge.mk (nth t.aG i) ((t.Ins+((t.Ops.length:Nat):Int))+((i:Nat):Int)) x2]))
 else none
 else none
 else none
 else none
 else none
 else
 some (.inr g)
theorem Ru (t:Tape):∀σ:Nat×List Edge,aN Tryz.prog (nav [1,1,1,1,0,1,0,0] (ah Tryz.f42)) (fun (σ:Nat×List Edge)=>xu t σ.1 σ.2) (fun (_:List Edge)=>(.exit 0)) (fun (y:List Edge)=>yg t y) σ (jC t σ.1 σ.2)
 | (i,[])=>aF 1010 (.br 100000035 (.op 70002 (.el (cI .i64) t.aG (.up i)) (.call [] [] (fQ 1) .no fun x2=>.op 80026 (.ap Edge.D [] [Edge.mk (nth t.aG i) ((t.Ins+((t.Ops.length:Nat):Int))+((i:Nat):Int)) x2] 5 fun _=>⟨rfl,rfl⟩) (.ps 1000003 [.k [4,8,32,33,34] [11,12,1011],.m 1011 100025] (.ret (.inl (i+1,[Edge.mk (nth t.aG i) ((t.Ins+((t.Ops.length:Nat):Int))+((i:Nat):Int)) x2])))))) (.ps 1000003 [.k [4,8] [11,12,100025]] (.ret (.inr [])))) (by kernel_rfl)
 | (i,g_h::g_t)=>aF 1010 (.br 100000035 (.op 70002 (.el (cI .i64) t.aG (.up i)) (.call [] [] (fQ 1) .no fun x2=>.op 80026 (.ap Edge.D (g_h::g_t) [Edge.mk (nth t.aG i) ((t.Ins+((t.Ops.length:Nat):Int))+((i:Nat):Int)) x2] 5 fun _=>⟨rfl,rfl⟩) (.ps 1000003 [.k [4,8,32,33,34] [11,12,1011],.m 1011 100025] (.ret (.inl (i+1,(g_h::g_t)++[Edge.mk (nth t.aG i) ((t.Ins+((t.Ops.length:Nat):Int))+((i:Nat):Int)) x2])))))) (.ps 1000003 [.k [4,8] [11,12,100025]] (.ret (.inr (g_h::g_t))))) (by kernel_rfl)
def nV (t:Tape) (i:Nat) (g:List Edge):Option (List Edge):=aK (fun (σ:Nat×List Edge)=>jC t σ.1 σ.2) FU (i,g)
theorem Hg (t:Tape) (i:Nat) (g:List Edge):∀y:List Edge,nV t i g=some y→Runs Tryz.prog (.loop (nav [1,1,1,1,0,1,0,0] (ah Tryz.f42))) (xu t i g) ((.exit 0)) ((fun (y:List Edge)=>yg t y) y):=
 aS (head:=fun (σ:Nat×List Edge)=>xu t σ.1 σ.2) (eo:=fun (_:List Edge)=>(.exit 0)) (so:=fun (y:List Edge)=>yg t y) (Ru t) (fun _ h=>by cases h) FU (i,g)
def yB (tA:Graph) (i:Nat) (o:List Bool) (o1:List Bool):St:=⟨112,0,[(1,.ptr 10 0 0),(2,.ptr 11 0 0),(4,.ptr 14 0 0),(5,.ptr 15 0 0),(26,I ((tA.Ins+tA.aY)+tA.aG)),(27,I ((i:Nat):Int))],[(10,BOX [I tA.Ins,I tA.aY,I tA.aG,SL Edge.D tA.Edges,SL (cI .i64) tA.Gone]),(11,BOX [I 0,I 0,I 0,bZ,bZ]),(12,ROW 1 cB o 0),(13,ROW 1 cB o1 0),(14,BOX [.msl 12 0 none (some (((tA.Ins+tA.aY)+tA.aG).toNat))]),(15,BOX [.msl 13 0 none (some (((tA.Ins+tA.aY)+tA.aG).toNat))])]⟩
def xM (tA:Graph) (o:List Bool) (o1:List Bool):St:=⟨112,0,[(1,.ptr 10 0 0),(2,.ptr 11 0 0),(4,.ptr 14 0 0),(5,.ptr 15 0 0)],[(10,BOX [I tA.Ins,I tA.aY,I tA.aG,SL Edge.D tA.Edges,SL (cI .i64) tA.Gone]),(11,BOX [I 0,I 0,I 0,bZ,bZ]),(12,ROW 1 cB o 0),(13,ROW 1 cB o1 0),(14,BOX [.msl 12 0 none (some (((tA.Ins+tA.aY)+tA.aG).toNat))]),(15,BOX [.msl 13 0 none (some (((tA.Ins+tA.aY)+tA.aG).toNat))])]⟩
def jw (tA:Graph) (i:Nat) (o:List Bool) (o1:List Bool):Option ((Nat×List Bool×List Bool)⊕(List Bool×List Bool)):=
 bif decide (((i:Nat):Int)<((tA.Ins+tA.aY)+tA.aG)) then
 bif inK .i64 (tA.Ins+tA.aY) then
 bif decide (i<o.length) then
 bif decide (i<o.length) then
 bif decide (i<o1.length) then
 bif decide (i<o1.length) then
 bif inK .i64 (((i:Nat):Int)+1) then
 some (.inl (i+1,o.set i (decide (((i:Nat):Int)<tA.Ins)),o1.set i (decide (((i:Nat):Int)≥(tA.Ins+tA.aY)))))
 else none
 else none
 else none
 else none
 else none
 else none
 else
 some (.inr (o,o1))
theorem QF (tA:Graph):∀σ:Nat×List Bool×List Bool,aN Tryz.prog (nav [1,1,1,1,0,1,0,0] (ah Tryz.f104)) (fun (σ:Nat×List Bool×List Bool)=>yB tA σ.1 σ.2.1 σ.2.2) (fun (_:List Bool×List Bool)=>(.exit 0)) (fun (y:List Bool×List Bool)=>xM tA y.1 y.2) σ (jw tA σ.1 σ.2.1 σ.2.2)
 | (i,o,o1)=>aF 1010 (.br 100000028 (.op 80030 (.el cB o (.up i)) (.op 80032 (.st cB o (decide (((i:Nat):Int)<tA.Ins))) (.op 80034 (.el cB o1 (.up i)) (.op 80036 (.st cB o1 (decide (((i:Nat):Int)≥(tA.Ins+tA.aY)))) (.ps 1000003 [.k [1,2,4,5,26,27] [10,11,12,13,14,15]] (.ret (.inl (i+1,o.set i (decide (((i:Nat):Int)<tA.Ins)),o1.set i (decide (((i:Nat):Int)≥(tA.Ins+tA.aY))))))))))) (.ps 1000003 [.k [1,2,4,5] [10,11,12,13,14,15]] (.ret (.inr (o,o1))))) (by kernel_rfl)
def F7 (tA:Graph) (i:Nat) (o:List Bool) (o1:List Bool):Option (List Bool×List Bool):=aK (fun (σ:Nat×List Bool×List Bool)=>jw tA σ.1 σ.2.1 σ.2.2) FU (i,o,o1)
theorem Rw (tA:Graph) (i:Nat) (o:List Bool) (o1:List Bool):∀y:List Bool×List Bool,F7 tA i o o1=some y→Runs Tryz.prog (.loop (nav [1,1,1,1,0,1,0,0] (ah Tryz.f104))) (yB tA i o o1) ((.exit 0)) ((fun (y:List Bool×List Bool)=>xM tA y.1 y.2) y):=
 aS (head:=fun (σ:Nat×List Bool×List Bool)=>yB tA σ.1 σ.2.1 σ.2.2) (eo:=fun (_:List Bool×List Bool)=>(.exit 0)) (so:=fun (y:List Bool×List Bool)=>xM tA y.1 y.2) (QF tA) (fun _ h=>by cases h) FU (i,o,o1)
def ug (tA:Graph) (i:Nat) (o:List Bool) (o1:List Bool):St:=⟨112,0,[(1,.ptr 10 0 0),(2,.ptr 11 0 0),(4,.ptr 14 0 0),(5,.ptr 15 0 0),(50,I ((tA.Edges.length:Nat):Int)),(51,I ((i:Nat):Int))],[(10,BOX [I tA.Ins,I tA.aY,I tA.aG,SL Edge.D tA.Edges,SL (cI .i64) tA.Gone]),(11,BOX [I 0,I 0,I 0,bZ,bZ]),(12,ROW 1 cB o 0),(13,ROW 1 cB o1 0),(14,BOX [.msl 12 0 none (some (((tA.Ins+tA.aY)+tA.aG).toNat))]),(15,BOX [.msl 13 0 none (some (((tA.Ins+tA.aY)+tA.aG).toNat))])]⟩
def tV (tA:Graph) (o:List Bool) (o1:List Bool):St:=⟨112,0,[(1,.ptr 10 0 0),(2,.ptr 11 0 0),(4,.ptr 14 0 0),(5,.ptr 15 0 0)],[(10,BOX [I tA.Ins,I tA.aY,I tA.aG,SL Edge.D tA.Edges,SL (cI .i64) tA.Gone]),(11,BOX [I 0,I 0,I 0,bZ,bZ]),(12,ROW 1 cB o 0),(13,ROW 1 cB o1 0),(14,BOX [.msl 12 0 none (some (((tA.Ins+tA.aY)+tA.aG).toNat))]),(15,BOX [.msl 13 0 none (some (((tA.Ins+tA.aY)+tA.aG).toNat))])]⟩
def iD (tA:Graph) (i:Nat) (o:List Bool) (o1:List Bool):Option ((Nat×List Bool×List Bool)⊕(List Bool×List Bool)):=
 bif decide (((i:Nat):Int)<((tA.Edges.length:Nat):Int)) then
 bif decide (i<tA.Edges.length) then
 bif inK .i64 (((tA.Edges.length:Nat):Int)-1) then
 bif inK .i64 ((((tA.Edges.length:Nat):Int)-1)-((i:Nat):Int)) then
 bif decide (0≤(((tA.Edges.length:Nat):Int)-1)-((i:Nat):Int)) then
 bif decide (((((tA.Edges.length:Nat):Int)-1)-((i:Nat):Int)).toNat<tA.Edges.length) then
 bif decide (0≤(nth tA.Edges i).To) then
 bif decide (((nth tA.Edges i).To).toNat<o.length) then
 bif decide (((nth tA.Edges i).To).toNat<o.length) then
 bif nth o (((nth tA.Edges i).To).toNat) then
 bif decide (0≤(nth tA.Edges i).To) then
 bif decide (((nth tA.Edges i).To).toNat<o.length) then
 bif decide (((nth tA.Edges i).To).toNat<o.length) then
 bif decide (0≤(nth tA.Edges (((((tA.Edges.length:Nat):Int)-1)-((i:Nat):Int)).toNat)).From) then
 bif decide (((nth tA.Edges (((((tA.Edges.length:Nat):Int)-1)-((i:Nat):Int)).toNat)).From).toNat<o1.length) then
 bif decide (((nth tA.Edges (((((tA.Edges.length:Nat):Int)-1)-((i:Nat):Int)).toNat)).From).toNat<o1.length) then
 bif nth o1 (((nth tA.Edges (((((tA.Edges.length:Nat):Int)-1)-((i:Nat):Int)).toNat)).From).toNat) then
 bif decide (0≤(nth tA.Edges (((((tA.Edges.length:Nat):Int)-1)-((i:Nat):Int)).toNat)).From) then
 bif decide (((nth tA.Edges (((((tA.Edges.length:Nat):Int)-1)-((i:Nat):Int)).toNat)).From).toNat<o1.length) then
 bif decide (((nth tA.Edges (((((tA.Edges.length:Nat):Int)-1)-((i:Nat):Int)).toNat)).From).toNat<o1.length) then
 bif inK .i64 (((i:Nat):Int)+1) then
 some (.inl (i+1,o.set (((nth tA.Edges i).To).toNat) true,o1.set (((nth tA.Edges (((((tA.Edges.length:Nat):Int)-1)-((i:Nat):Int)).toNat)).From).toNat) true))
 else none
 else none
 else none
 else none
 else
 bif decide (0≤(nth tA.Edges (((((tA.Edges.length:Nat):Int)-1)-((i:Nat):Int)).toNat)).To) then
 bif decide (((nth tA.Edges (((((tA.Edges.length:Nat):Int)-1)-((i:Nat):Int)).toNat)).To).toNat<o1.length) then
 bif decide (((nth tA.Edges (((((tA.Edges.length:Nat):Int)-1)-((i:Nat):Int)).toNat)).To).toNat<o1.length) then
 bif decide (0≤(nth tA.Edges (((((tA.Edges.length:Nat):Int)-1)-((i:Nat):Int)).toNat)).From) then
 bif decide (((nth tA.Edges (((((tA.Edges.length:Nat):Int)-1)-((i:Nat):Int)).toNat)).From).toNat<o1.length) then
 bif decide (((nth tA.Edges (((((tA.Edges.length:Nat):Int)-1)-((i:Nat):Int)).toNat)).From).toNat<o1.length) then
 bif inK .i64 (((i:Nat):Int)+1) then
 some (.inl (i+1,o.set (((nth tA.Edges i).To).toNat) true,o1.set (((nth tA.Edges (((((tA.Edges.length:Nat):Int)-1)-((i:Nat):Int)).toNat)).From).toNat) (nth o1 (((nth tA.Edges (((((tA.Edges.length:Nat):Int)-1)-((i:Nat):Int)).toNat)).To).toNat))))
 else none
 else none
 else none
 else none
 else none
 else none
 else none
 else none
 else none
 else none
 else none
 else none
 else none
 else
 bif decide (0≤(nth tA.Edges i).From) then
 bif decide (((nth tA.Edges i).From).toNat<o.length) then
 bif decide (((nth tA.Edges i).From).toNat<o.length) then
 bif decide (0≤(nth tA.Edges i).To) then
 bif decide (((nth tA.Edges i).To).toNat<o.length) then
 bif decide (((nth tA.Edges i).To).toNat<o.length) then
 bif decide (0≤(nth tA.Edges (((((tA.Edges.length:Nat):Int)-1)-((i:Nat):Int)).toNat)).From) then
 bif decide (((nth tA.Edges (((((tA.Edges.length:Nat):Int)-1)-((i:Nat):Int)).toNat)).From).toNat<o1.length) then
 bif decide (((nth tA.Edges (((((tA.Edges.length:Nat):Int)-1)-((i:Nat):Int)).toNat)).From).toNat<o1.length) then
 bif nth o1 (((nth tA.Edges (((((tA.Edges.length:Nat):Int)-1)-((i:Nat):Int)).toNat)).From).toNat) then
 bif decide (0≤(nth tA.Edges (((((tA.Edges.length:Nat):Int)-1)-((i:Nat):Int)).toNat)).From) then
 bif decide (((nth tA.Edges (((((tA.Edges.length:Nat):Int)-1)-((i:Nat):Int)).toNat)).From).toNat<o1.length) then
 bif decide (((nth tA.Edges (((((tA.Edges.length:Nat):Int)-1)-((i:Nat):Int)).toNat)).From).toNat<o1.length) then
 bif inK .i64 (((i:Nat):Int)+1) then
 some (.inl (i+1,o.set (((nth tA.Edges i).To).toNat) (nth o (((nth tA.Edges i).From).toNat)),o1.set (((nth tA.Edges (((((tA.Edges.length:Nat):Int)-1)-((i:Nat):Int)).toNat)).From).toNat) true))
 else none
 else none
 else none
 else none
 else
 bif decide (0≤(nth tA.Edges (((((tA.Edges.length:Nat):Int)-1)-((i:Nat):Int)).toNat)).To) then
 bif decide (((nth tA.Edges (((((tA.Edges.length:Nat):Int)-1)-((i:Nat):Int)).toNat)).To).toNat<o1.length) then
 bif decide (((nth tA.Edges (((((tA.Edges.length:Nat):Int)-1)-((i:Nat):Int)).toNat)).To).toNat<o1.length) then
 bif decide (0≤(nth tA.Edges (((((tA.Edges.length:Nat):Int)-1)-((i:Nat):Int)).toNat)).From) then
 bif decide (((nth tA.Edges (((((tA.Edges.length:Nat):Int)-1)-((i:Nat):Int)).toNat)).From).toNat<o1.length) then
 bif decide (((nth tA.Edges (((((tA.Edges.length:Nat):Int)-1)-((i:Nat):Int)).toNat)).From).toNat<o1.length) then
 bif inK .i64 (((i:Nat):Int)+1) then
 some (.inl (i+1,o.set (((nth tA.Edges i).To).toNat) (nth o (((nth tA.Edges i).From).toNat)),o1.set (((nth tA.Edges (((((tA.Edges.length:Nat):Int)-1)-((i:Nat):Int)).toNat)).From).toNat) (nth o1 (((nth tA.Edges (((((tA.Edges.length:Nat):Int)-1)-((i:Nat):Int)).toNat)).To).toNat))))
 else none
 else none
 else none
 else none
 else none
 else none
 else none
 else none
 else none
 else none
 else none
 else none
 else none
 else none
 else none
 else none
 else none
 else none
 else none
 else none
 else none
 else none
 else none
 else none
 else
 some (.inr (o,o1))
theorem NC (tA:Graph):∀σ:Nat×List Bool×List Bool,aN Tryz.prog (nav [1,1,1,1,1,0,1,0,0] (ah Tryz.f104)) (fun (σ:Nat×List Bool×List Bool)=>ug tA σ.1 σ.2.1 σ.2.2) (fun (_:List Bool×List Bool)=>(.exit 2)) (fun (y:List Bool×List Bool)=>tV tA y.1 y.2) σ (iD tA σ.1 σ.2.1 σ.2.2)
 | (i,o,o1)=>aF 1010 (.br 100000052 (.op 130006 (.el Edge.D tA.Edges (.up i)) (.op 130018 (.ln Edge.D tA.Edges) (.op 130026 (.el Edge.D tA.Edges .dn) (.op 140012 (.el cB o .dn) (.op 140014 (.ld cB o) (.br 140018 (.op 140030 (.el cB o .dn) (.op 140032 (.st cB o true) (.op 150012 (.el cB o1 .dn) (.op 150014 (.ld cB o1) (.br 150018 (.op 150030 (.el cB o1 .dn) (.op 150032 (.st cB o1 true) (.ps 1000003 [.k [1,2,4,5,50,51] [10,11,12,13,14,15]] (.ret (.inl (i+1,o.set (((nth tA.Edges i).To).toNat) true,o1.set (((nth tA.Edges (((((tA.Edges.length:Nat):Int)-1)-((i:Nat):Int)).toNat)).From).toNat) true)))))) (.op 150024 (.el cB o1 .dn) (.op 150026 (.ld cB o1) (.op 150030 (.el cB o1 .dn) (.op 150032 (.st cB o1 (nth o1 (((nth tA.Edges (((((tA.Edges.length:Nat):Int)-1)-((i:Nat):Int)).toNat)).To).toNat))) (.ps 1000003 [.k [1,2,4,5,50,51] [10,11,12,13,14,15]] (.ret (.inl (i+1,o.set (((nth tA.Edges i).To).toNat) true,o1.set (((nth tA.Edges (((((tA.Edges.length:Nat):Int)-1)-((i:Nat):Int)).toNat)).From).toNat) (nth o1 (((nth tA.Edges (((((tA.Edges.length:Nat):Int)-1)-((i:Nat):Int)).toNat)).To).toNat))))))))))))))) (.op 140024 (.el cB o .dn) (.op 140026 (.ld cB o) (.op 140030 (.el cB o .dn) (.op 140032 (.st cB o (nth o (((nth tA.Edges i).From).toNat))) (.op 150012 (.el cB o1 .dn) (.op 150014 (.ld cB o1) (.br 150018 (.op 150030 (.el cB o1 .dn) (.op 150032 (.st cB o1 true) (.ps 1000003 [.k [1,2,4,5,50,51] [10,11,12,13,14,15]] (.ret (.inl (i+1,o.set (((nth tA.Edges i).To).toNat) (nth o (((nth tA.Edges i).From).toNat)),o1.set (((nth tA.Edges (((((tA.Edges.length:Nat):Int)-1)-((i:Nat):Int)).toNat)).From).toNat) true)))))) (.op 150024 (.el cB o1 .dn) (.op 150026 (.ld cB o1) (.op 150030 (.el cB o1 .dn) (.op 150032 (.st cB o1 (nth o1 (((nth tA.Edges (((((tA.Edges.length:Nat):Int)-1)-((i:Nat):Int)).toNat)).To).toNat))) (.ps 1000003 [.k [1,2,4,5,50,51] [10,11,12,13,14,15]] (.ret (.inl (i+1,o.set (((nth tA.Edges i).To).toNat) (nth o (((nth tA.Edges i).From).toNat)),o1.set (((nth tA.Edges (((((tA.Edges.length:Nat):Int)-1)-((i:Nat):Int)).toNat)).From).toNat) (nth o1 (((nth tA.Edges (((((tA.Edges.length:Nat):Int)-1)-((i:Nat):Int)).toNat)).To).toNat))))))))))))))))))))))) (.ps 1000003 [.k [1,2,4,5] [10,11,12,13,14,15]] (.ret (.inr (o,o1))))) (by kernel_rfl)
def zX (tA:Graph) (i:Nat) (o:List Bool) (o1:List Bool):Option (List Bool×List Bool):=aK (fun (σ:Nat×List Bool×List Bool)=>iD tA σ.1 σ.2.1 σ.2.2) FU (i,o,o1)
theorem Nz (tA:Graph) (i:Nat) (o:List Bool) (o1:List Bool):∀y:List Bool×List Bool,zX tA i o o1=some y→Runs Tryz.prog (.loop (nav [1,1,1,1,1,0,1,0,0] (ah Tryz.f104))) (ug tA i o o1) ((.exit 2)) ((fun (y:List Bool×List Bool)=>tV tA y.1 y.2) y):=
 aS (head:=fun (σ:Nat×List Bool×List Bool)=>ug tA σ.1 σ.2.1 σ.2.2) (eo:=fun (_:List Bool×List Bool)=>(.exit 2)) (so:=fun (y:List Bool×List Bool)=>tV tA y.1 y.2) (NC tA) (fun _ h=>by cases h) FU (i,o,o1)
def yX (o0:List Bool) (o1:List Bool) (w:Edge):Option Bool:=
 bif decide (0≤w.From) then
 bif decide (w.From.toNat<o0.length) then
 bif nth o0 w.From.toNat then
 bif decide (0≤w.To) then
 bif decide (w.To.toNat<o1.length) then
 some (nth o1 w.To.toNat)
 else none
 else none
 else
 some false
 else none
 else none
theorem Gs (o0:List Bool) (o1:List Bool) (w:Edge):∀r,yX o0 o1 w=some r→aj Tryz.prog 166 2 [AG Edge.D w,.ptr 0 0 0,.ptr 1 0 0] [(0,BOX [SL cB o0]),(1,BOX [SL cB o1])] (B r) [(0,BOX [SL cB o0]),(1,BOX [SL cB o1])]:=
 ak (enc:=fun r=>B r) (aP:=fun r=>[(0,BOX [SL cB o0]),(1,BOX [SL cB o1])]) 10 (.op 10006 (.el cB o0 .dn) (.br 10012 (.op 10018 (.el cB o1 .dn) (.ret (nth o1 w.To.toNat))) (.ret false))) Tryz.func166 (by kernel_rfl) (by kernel_rfl) (by kernel_rfl)
def jP (o0:List Bool) (o1:List Bool) (l:List Edge) (out:List Edge) (i:Nat):St:=⟨23,2,[(1,.fn (.func 166) [] [.ptr 0 0 0,.ptr 1 0 0]),(5,bI 100026 out),(8,SL Edge.D l),(9,I ((l.length:Nat):Int)),(10,I ((i:Nat):Int))],[(0,BOX [SL cB o0]),(1,BOX [SL cB o1]),(100026,bM 5 Edge.D out)]⟩
def jO (o0:List Bool) (o1:List Bool) (l:List Edge) (out:List Edge):St:=⟨23,2,[(5,bI 100026 out)],[(0,BOX [SL cB o0]),(1,BOX [SL cB o1]),(100026,bM 5 Edge.D out)]⟩
def bW (o0:List Bool) (o1:List Bool) (l:List Edge) (out:List Edge) (i:Nat):Option ((List Edge×Nat)⊕(List Edge)):=
 bif decide (((i:Nat):Int)<((l.length:Nat):Int)) then
 bif decide (i<l.length) then
 (yX o0 o1 (nth l i)).bind fun x0=>
 bif x0 then
 bif decide (out.length+1≤2147483648) then
 bif inK .i64 (((i:Nat):Int)+1) then
 some (.inl (out++[nth l i],i+1))
 else none
 else none
 else
 bif inK .i64 (((i:Nat):Int)+1) then
 some (.inl (out,i+1))
 else none
 else none
 else
 some (.inr out)
theorem Ed (o0:List Bool) (o1:List Bool) (l:List Edge):∀σ:List Edge×Nat,aN Tryz.prog (nav [1,1,0,1,0,0] (ah Tryz.f117)) (fun (σ:List Edge×Nat)=>jP o0 o1 l σ.1 σ.2) (fun (_:List Edge)=>(.exit 0)) (fun (y:List Edge)=>jO o0 o1 l y) σ (bW o0 o1 l σ.1 σ.2)
 | ([],i)=>aF 1010 (.br 100000011 (.op 40000 (.el Edge.D l (.up i)) (.call [0,1] [] (Gs o0 o1 (nth l i)) .no fun x0=>.br 100000016 (.op 60006 (.ap Edge.D [] [nth l i] 5 fun _=>⟨rfl,rfl⟩) (.ps 1000003 [.k [1,5,8,9,10] [0,1,1012],.m 1012 100026] (.ret (.inl ([nth l i],i+1))))) (.ps 1000003 [.k [1,5,8,9,10] [0,1,100026]] (.ret (.inl ([],i+1)))))) (.ps 1000003 [.k [5] [0,1,100026]] (.ret (.inr [])))) (by kernel_rfl)
 | (dP::dO,i)=>aF 1010 (.br 100000011 (.op 40000 (.el Edge.D l (.up i)) (.call [0,1] [] (Gs o0 o1 (nth l i)) .no fun x0=>.br 100000016 (.op 60006 (.ap Edge.D (dP::dO) [nth l i] 5 fun _=>⟨rfl,rfl⟩) (.ps 1000003 [.k [1,5,8,9,10] [0,1,1012],.m 1012 100026] (.ret (.inl ((dP::dO)++[nth l i],i+1))))) (.ps 1000003 [.k [1,5,8,9,10] [0,1,100026]] (.ret (.inl ((dP::dO),i+1)))))) (.ps 1000003 [.k [5] [0,1,100026]] (.ret (.inr (dP::dO))))) (by kernel_rfl)
def lU (o0:List Bool) (o1:List Bool) (l:List Edge) (out:List Edge) (i:Nat):Option (List Edge):=aK (fun (σ:List Edge×Nat)=>bW o0 o1 l σ.1 σ.2) FU (out,i)
theorem Ef (o0:List Bool) (o1:List Bool) (l:List Edge) (out:List Edge) (i:Nat):∀y:List Edge,lU o0 o1 l out i=some y→Runs Tryz.prog (.loop (nav [1,1,0,1,0,0] (ah Tryz.f117))) (jP o0 o1 l out i) ((.exit 0)) ((fun (y:List Edge)=>jO o0 o1 l y) y):=
 aS (head:=fun (σ:List Edge×Nat)=>jP o0 o1 l σ.1 σ.2) (eo:=fun (_:List Edge)=>(.exit 0)) (so:=fun (y:List Edge)=>jO o0 o1 l y) (Ed o0 o1 l) (fun _ h=>by cases h) FU (out,i)
def jQ (o0:List Bool) (o1:List Bool) (l:List Edge):Option (List Edge):=
 (lU o0 o1 l [] 0).bind fun x0=>
 some x0
theorem Gm (o0:List Bool) (o1:List Bool) (l:List Edge):∀r,jQ o0 o1 l=some r→aj Tryz.prog 117 2 [SL Edge.D l,.fn (.func 166) [] [.ptr 0 0 0,.ptr 1 0 0]] [(0,BOX [SL cB o0]),(1,BOX [SL cB o1])] (SL Edge.D r) [(0,BOX [SL cB o0]),(1,BOX [SL cB o1])]:=
 ak (enc:=fun r=>SL Edge.D r) (aP:=fun r=>[(0,BOX [SL cB o0]),(1,BOX [SL cB o1])]) 10 (.op 20002 (.ln Edge.D l) (.ps 1000001 [.k [1,5,8,9,10] [0,1,100026]] (.lp1 0 (Ef o0 o1 l [] 0) fun x0=>.oz 1 5 100026 5 Edge.D x0 (.ps 1 [.k [5] [0,1]] (.ret x0))))) Tryz.func117 (by kernel_rfl) (by kernel_rfl) (by kernel_rfl)
def kK (tA:Graph):Option Graph:=
 (kM tA).bind fun x0=>
 bif !x0 then
 some (Graph.mk 0 0 0 [] [])
 else
 bif inK .i64 (tA.Ins+tA.aY) then
 bif inK .i64 ((tA.Ins+tA.aY)+tA.aG) then
 bif decide (0≤(tA.Ins+tA.aY)+tA.aG) then
 bif decide (((tA.Ins+tA.aY)+tA.aG).toNat≤2147483648) then
 bif decide (0≤(tA.Ins+tA.aY)+tA.aG) then
 bif decide (((tA.Ins+tA.aY)+tA.aG).toNat≤2147483648) then
 (F7 tA 0 (List.replicate (((tA.Ins+tA.aY)+tA.aG).toNat) false) (List.replicate (((tA.Ins+tA.aY)+tA.aG).toNat) false)).bind fun x1=>
 (zX tA 0 x1.1 x1.2).bind fun x2=>
 (dM tA.Gone).bind fun x3=>
 (jQ x2.1 x2.2 tA.Edges).bind fun x4=>
 some (Graph.mk tA.Ins tA.aY tA.aG x4 x3)
 else none
 else none
 else none
 else none
 else none
 else none
theorem wJ (tA:Graph):∀r,kK tA=some r→aj Tryz.prog 104 0 [AG Graph.D tA] [] (AG Graph.D r) []:=
 ak (enc:=fun r=>AG Graph.D r) (aP:=fun r=>[]) 10 (.call [] [] (qo tA) .no fun x0=>.br 100000012 (.ps 1000003 [.b 11] (.ret (Graph.mk 0 0 0 [] []))) (.op 40002 (.mk cB false .dn) (.op 40006 (.mk cB false .dn) (.ps 1000001 [.k [1,2,4,5,26,27] [10,11,12,13,14,15]] (.lp1 0 (Rw tA 0 (List.replicate (((tA.Ins+tA.aY)+tA.aG).toNat) false) (List.replicate (((tA.Ins+tA.aY)+tA.aG).toNat) false)) fun x1=>.op 100004 (.ln Edge.D tA.Edges) (.ps 1000001 [.k [1,2,4,5,50,51] [10,11,12,13,14,15]] (.lp1 0 (Nz tA 0 x1.1 x1.2) fun x2=>.call [] [] (Hl tA.Gone) .no fun x3=>.call [14,15] [] (Gm x2.1 x2.2 tA.Edges) .no fun x4=>.ret (Graph.mk tA.Ins tA.aY tA.aG x4 x3)))))))) Tryz.func104 (by kernel_rfl) (by kernel_rfl) (by kernel_rfl)
def iI (t:Tape) (x:List Rat):Option (Graph×Int):=
 (eF t x).bind fun y_=>aH y_ (fun x0=>
 bif x0.2 != 0 then
 some (Graph.mk 0 0 0 [] [],x0.2)
 else
 (nV t 0 []).bind fun x2=>
 bif x2.isEmpty then
 (xw).bind fun x3=>
 (kK (Graph.mk t.Ins ((t.Ops.length:Nat):Int) ((t.aG.length:Nat):Int) [] [])).bind fun x4=>
 some (x4,0)
 else
 (nC x2).bind fun x3=>
 (kK (Graph.mk t.Ins ((t.Ops.length:Nat):Int) ((t.aG.length:Nat):Int) x3 [])).bind fun x4=>
 some (x4,0))
 (fun x1=>
 bif x1.2 != 0 then
 some (Graph.mk 0 0 0 [] [],x1.2)
 else
 bif !x1.1.isEmpty then
 (nV t 0 x1.1).bind fun x2=>
 bif x2.isEmpty then
 (xw).bind fun x3=>
 (kK (Graph.mk t.Ins ((t.Ops.length:Nat):Int) ((t.aG.length:Nat):Int) [] [])).bind fun x4=>
 some (x4,0)
 else
 (nC x2).bind fun x3=>
 (kK (Graph.mk t.Ins ((t.Ops.length:Nat):Int) ((t.aG.length:Nat):Int) x3 [])).bind fun x4=>
 some (x4,0)
 else none)
theorem Kr (t:Tape) (x:List Rat):∀r,iI t x=some r→aj Tryz.prog 42 0 [AG Tape.D t,SL Rat.D x] [] (.tup [AG Graph.D r.1,I r.2]) []:=
 ak (enc:=fun r=>.tup [AG Graph.D r.1,I r.2]) (aP:=fun r=>[]) 10 (.acI [] [100024] (N7 t x) .no (fun x0=>.br 100000018 (.ps 1000003 [.b 11] (.ret (Graph.mk 0 0 0 [] [],x0.2))) (.op 40008 (.ln TOp.D t.Ops) (.op 40014 (.ln (cI .i64) t.aG) (.op 50004 (.ln (cI .i64) t.aG) (.ps 1000001 [.k [4,8,32,33,34] [11,12,100025]] (.lp1 0 (Hg t 0 []) fun x2=>.cb 1 12 3 100025 5 Edge.D x2 (.ps 1 [.k [4,8] [11,12]] (.call [] [] (AZ) .no fun x3=>.call [] [] (wJ (Graph.mk t.Ins ((t.Ops.length:Nat):Int) ((t.aG.length:Nat):Int) [] [])) .no fun x4=>.ret (x4,0))) (.ps 1 [.k [4,8] [11,12,100025]] (.call [100025] [] (JC x2) .no fun x3=>.call [] [] (wJ (Graph.mk t.Ins ((t.Ops.length:Nat):Int) ((t.aG.length:Nat):Int) x3 [])) .no fun x4=>.ret (x4,0))))))))) (fun x1=>.br 100000018 (.ps 1000003 [.b 11] (.ret (Graph.mk 0 0 0 [] [],x1.2))) (.op 40008 (.ln TOp.D t.Ops) (.op 40014 (.ln (cI .i64) t.aG) (.op 50004 (.ln (cI .i64) t.aG) (.ps 1000001 [.k [4,8,32,33,34] [11,12,100024],.m 100024 100025] (.oq 1000001 12 3 100025 5 Edge.D x1.1 .no (.ps 1000001 [.k [4,8,32,33,34] [11,12,100025]] (.lp1 0 (Hg t 0 x1.1) fun x2=>.cb 1 12 3 100025 5 Edge.D x2 (.ps 1 [.k [4,8] [11,12]] (.call [] [] (AZ) .no fun x3=>.call [] [] (wJ (Graph.mk t.Ins ((t.Ops.length:Nat):Int) ((t.aG.length:Nat):Int) [] [])) .no fun x4=>.ret (x4,0))) (.ps 1 [.k [4,8] [11,12,100025]] (.call [100025] [] (JC x2) .no fun x3=>.call [] [] (wJ (Graph.mk t.Ins ((t.Ops.length:Nat):Int) ((t.aG.length:Nat):Int) x3 [])) .no fun x4=>.ret (x4,0)))))))))))) Tryz.func42 (by kernel_rfl) (by kernel_rfl) (by kernel_rfl)
def Vt (o0:Int) (w:Edge):Option Bool:=
 some (w.To==o0)
theorem MN (o0:Int) (w:Edge):∀r,Vt o0 w=some r→aj Tryz.prog 118 1 [AG Edge.D w,.ptr 0 0 0] [(0,BOX [I o0])] (B r) [(0,BOX [I o0])]:=
 ak (enc:=fun r=>B r) (aP:=fun r=>[(0,BOX [I o0])]) 10 (.ret (w.To==o0)) Tryz.func118 (by kernel_rfl) (by kernel_rfl) (by kernel_rfl)
def iY (o0:Int) (l:List Edge) (out:List Edge) (i:Nat):St:=⟨23,1,[(1,.fn (.func 118) [] [.ptr 0 0 0]),(5,bI 100027 out),(8,SL Edge.D l),(9,I ((l.length:Nat):Int)),(10,I ((i:Nat):Int))],[(0,BOX [I o0]),(100027,bM 5 Edge.D out)]⟩
def iV (o0:Int) (l:List Edge) (out:List Edge):St:=⟨23,1,[(5,bI 100027 out)],[(0,BOX [I o0]),(100027,bM 5 Edge.D out)]⟩
def nJ (o0:Int) (l:List Edge) (out:List Edge) (i:Nat):Option ((List Edge×Nat)⊕(List Edge)):=
 bif decide (((i:Nat):Int)<((l.length:Nat):Int)) then
 bif decide (i<l.length) then
 (Vt o0 (nth l i)).bind fun x0=>
 bif x0 then
 bif decide (out.length+1≤2147483648) then
 bif inK .i64 (((i:Nat):Int)+1) then
 some (.inl (out++[nth l i],i+1))
 else none
 else none
 else
 bif inK .i64 (((i:Nat):Int)+1) then
 some (.inl (out,i+1))
 else none
 else none
 else
 some (.inr out)
theorem AO (o0:Int) (l:List Edge):∀σ:List Edge×Nat,aN Tryz.prog (nav [1,1,0,1,0,0] (ah Tryz.f117)) (fun (σ:List Edge×Nat)=>iY o0 l σ.1 σ.2) (fun (_:List Edge)=>(.exit 0)) (fun (y:List Edge)=>iV o0 l y) σ (nJ o0 l σ.1 σ.2)
 | ([],i)=>aF 1010 (.br 100000011 (.op 40000 (.el Edge.D l (.up i)) (.call [0] [] (MN o0 (nth l i)) .no fun x0=>.br 100000016 (.op 60006 (.ap Edge.D [] [nth l i] 5 fun _=>⟨rfl,rfl⟩) (.ps 1000003 [.k [1,5,8,9,10] [0,1012],.m 1012 100027] (.ret (.inl ([nth l i],i+1))))) (.ps 1000003 [.k [1,5,8,9,10] [0,100027]] (.ret (.inl ([],i+1)))))) (.ps 1000003 [.k [5] [0,100027]] (.ret (.inr [])))) (by kernel_rfl)
 | (dP::dO,i)=>aF 1010 (.br 100000011 (.op 40000 (.el Edge.D l (.up i)) (.call [0] [] (MN o0 (nth l i)) .no fun x0=>.br 100000016 (.op 60006 (.ap Edge.D (dP::dO) [nth l i] 5 fun _=>⟨rfl,rfl⟩) (.ps 1000003 [.k [1,5,8,9,10] [0,1012],.m 1012 100027] (.ret (.inl ((dP::dO)++[nth l i],i+1))))) (.ps 1000003 [.k [1,5,8,9,10] [0,100027]] (.ret (.inl ((dP::dO),i+1)))))) (.ps 1000003 [.k [5] [0,100027]] (.ret (.inr (dP::dO))))) (by kernel_rfl)
def qW (o0:Int) (l:List Edge) (out:List Edge) (i:Nat):Option (List Edge):=aK (fun (σ:List Edge×Nat)=>nJ o0 l σ.1 σ.2) FU (out,i)
theorem Aj (o0:Int) (l:List Edge) (out:List Edge) (i:Nat):∀y:List Edge,qW o0 l out i=some y→Runs Tryz.prog (.loop (nav [1,1,0,1,0,0] (ah Tryz.f117))) (iY o0 l out i) ((.exit 0)) ((fun (y:List Edge)=>iV o0 l y) y):=
 aS (head:=fun (σ:List Edge×Nat)=>iY o0 l σ.1 σ.2) (eo:=fun (_:List Edge)=>(.exit 0)) (so:=fun (y:List Edge)=>iV o0 l y) (AO o0 l) (fun _ h=>by cases h) FU (out,i)
def uH (o0:Int) (l:List Edge):Option (List Edge):=
 (qW o0 l [] 0).bind fun x0=>
 some x0
theorem EG (o0:Int) (l:List Edge):∀r,uH o0 l=some r→aj Tryz.prog 117 1 [SL Edge.D l,.fn (.func 118) [] [.ptr 0 0 0]] [(0,BOX [I o0])] (SL Edge.D r) [(0,BOX [I o0])]:=
 ak (enc:=fun r=>SL Edge.D r) (aP:=fun r=>[(0,BOX [I o0])]) 10 (.op 20002 (.ln Edge.D l) (.ps 1000001 [.k [1,5,8,9,10] [0,100027]] (.lp1 0 (Aj o0 l [] 0) fun x0=>.oz 1 5 100027 5 Edge.D x0 (.ps 1 [.k [5] [0]] (.ret x0))))) Tryz.func117 (by kernel_rfl) (by kernel_rfl) (by kernel_rfl)
def aa1 (g:Graph) (v:Int):Option (List Edge):=
 (kM g).bind fun x0=>
 bif !x0 then
 some []
 else
 (uH v g.Edges).bind fun x1=>
 some x1
theorem aaf (g:Graph) (v:Int):∀r,aa1 g v=some r→aj Tryz.prog 51 0 [AG Graph.D g,I v] [] (SL Edge.D r) []:=
 ak (enc:=fun r=>SL Edge.D r) (aP:=fun r=>[]) 10 (.call [] [] (qo g) .no fun x0=>.br 100000007 (.ps 1000003 [.n 4] (.ret [])) (.call [11] [] (EG v g.Edges) .no fun x1=>.ret x1)) Tryz.func51 (by kernel_rfl) (by kernel_rfl) (by kernel_rfl)
def rE (g:Graph) (i:Nat) (j:List Rat):St:=⟨24,0,[(2,.ptr 11 0 0),(3,.ptr 12 0 0),(13,I (g.aG*g.Ins)),(14,I ((i:Nat):Int))],[(0,bM 3 Rat.D j),(11,BOX [I 0,I 0,bZ]),(12,BOX [I g.aG,I g.Ins,bI 0 j])]⟩
def rM (g:Graph) (j:List Rat):St:=⟨24,0,[(2,.ptr 11 0 0),(3,.ptr 12 0 0)],[(0,bM 3 Rat.D j),(11,BOX [I 0,I 0,bZ]),(12,BOX [I g.aG,I g.Ins,bI 0 j])]⟩
def A8 (g:Graph) (i:Nat) (j:List Rat):Option ((Nat×List Rat)⊕(List Rat)):=
 bif decide (((i:Nat):Int)<(g.aG*g.Ins)) then
 (iK 0).bind fun x0=>
 bif decide (j.length+1≤2147483648) then
 bif inK .i64 (((i:Nat):Int)+1) then
 some (.inl (i+1,j++[x0]))
 else none
 else none
 else
 some (.inr j)
theorem MC (g:Graph):∀σ:Nat×List Rat,aN Tryz.prog (nav [1,1,0,1,0,0] (ah Tryz.f109)) (fun (σ:Nat×List Rat)=>rE g σ.1 σ.2) (fun (_:List Rat)=>(.exit 0)) (fun (y:List Rat)=>rM g y) σ (A8 g σ.1 σ.2)
 | (i,[])=>aF 1010 (.br 100000015 (.call [] [] (fQ 0) .no fun x0=>.op 40008 (.ap Rat.D [] [x0] 3 fun _=>⟨rfl,rfl⟩) (.ps 1000003 [.k [2,3,13,14] [1011,11,12],.m 1011 0] (.ret (.inl (i+1,[x0]))))) (.ps 1000003 [.k [2,3] [0,11,12]] (.ret (.inr [])))) (by kernel_rfl)
 | (i,j_h::j_t)=>aF 1010 (.br 100000015 (.call [] [] (fQ 0) .no fun x0=>.op 40008 (.ap Rat.D (j_h::j_t) [x0] 3 fun _=>⟨rfl,rfl⟩) (.ps 1000003 [.k [2,3,13,14] [1011,11,12],.m 1011 0] (.ret (.inl (i+1,(j_h::j_t)++[x0]))))) (.ps 1000003 [.k [2,3] [0,11,12]] (.ret (.inr (j_h::j_t))))) (by kernel_rfl)
def Ht (g:Graph) (i:Nat) (j:List Rat):Option (List Rat):=aK (fun (σ:Nat×List Rat)=>A8 g σ.1 σ.2) FU (i,j)
theorem MH (g:Graph) (i:Nat) (j:List Rat):∀y:List Rat,Ht g i j=some y→Runs Tryz.prog (.loop (nav [1,1,0,1,0,0] (ah Tryz.f109))) (rE g i j) ((.exit 0)) ((fun (y:List Rat)=>rM g y) y):=
 aS (head:=fun (σ:Nat×List Rat)=>rE g σ.1 σ.2) (eo:=fun (_:List Rat)=>(.exit 0)) (so:=fun (y:List Rat)=>rM g y) (MC g) (fun _ h=>by cases h) FU (i,j)
def JU (g:Graph):Option Jac:=
 bif inK .i64 (g.aG*g.Ins) then
 (Ht g 0 []).bind fun x0=>
 bif x0.isEmpty then
 none
 else
 some (Jac.mk g.aG g.Ins x0)
 else none
theorem OX (g:Graph):∀r,JU g=some r→aj Tryz.prog 109 0 [AG Graph.D g] [] (.agg [I r.Rows,I r.QU,.msl 0 0 none none]) [(0,ROW 3 Rat.D r.All 0)]:=
 ak (enc:=fun r=>.agg [I r.Rows,I r.QU,.msl 0 0 none none]) (aP:=fun r=>[(0,ROW 3 Rat.D r.All 0)]) 10 (.ps 1000001 [.k [2,3,13,14] [0,11,12]] (.lp1 0 (MH g 0 []) fun x0=>.cb 1 12 2 0 3 Rat.D x0 (.ps 1 [.k [2,3] [11,12]] .nil) (.ps 1 [.k [2,3] [0,11,12]] (.ret (Jac.mk g.aG g.Ins x0))))) Tryz.func109 (by kernel_rfl) (by kernel_rfl) (by kernel_rfl)
def tX (tA:Graph) (x1:Jac) (i:Nat) (o:List Rat) (i1:Nat) (o1:List Rat):St:=⟨87,0,[(1,.ptr 10 0 0),(2,.ptr 11 0 0),(3,.ptr 12 0 0),(4,I ((i:Nat):Int)),(5,.msl 1010 0 none (some (((tA.Ins+tA.aY)+tA.aG).toNat))),(16,I tA.Ins),(17,I ((i:Nat):Int)),(34,SL Edge.D tA.Edges),(35,I ((tA.Edges.length:Nat):Int)),(36,I ((i1:Nat):Int))],[(10,BOX [I tA.Ins,I tA.aY,I tA.aG,SL Edge.D tA.Edges,SL (cI .i64) tA.Gone]),(11,BOX [I 0,I 0,bZ]),(12,BOX [I x1.Rows,I x1.QU,.msl 100030 0 none none]),(1010,ROW 3 Rat.D o1 0),(100030,ROW 3 Rat.D o 0)]⟩
def sW (tA:Graph) (x1:Jac) (i:Nat) (o:List Rat) (o1:List Rat):St:=⟨87,0,[(1,.ptr 10 0 0),(2,.ptr 11 0 0),(3,.ptr 12 0 0),(4,I ((i:Nat):Int)),(5,.msl 1010 0 none (some (((tA.Ins+tA.aY)+tA.aG).toNat))),(16,I tA.Ins),(17,I ((i:Nat):Int))],[(10,BOX [I tA.Ins,I tA.aY,I tA.aG,SL Edge.D tA.Edges,SL (cI .i64) tA.Gone]),(11,BOX [I 0,I 0,bZ]),(12,BOX [I x1.Rows,I x1.QU,.msl 100030 0 none none]),(1010,ROW 3 Rat.D o1 0),(100030,ROW 3 Rat.D o 0)]⟩
def D9 (tA:Graph) (x1:Jac) (i:Nat) (o:List Rat) (i1:Nat) (o1:List Rat):Option ((Nat×List Rat)⊕(List Rat)):=
 bif decide (((i1:Nat):Int)<((tA.Edges.length:Nat):Int)) then
 bif decide (i1<tA.Edges.length) then
 bif decide (0≤(nth tA.Edges i1).To) then
 bif decide (((nth tA.Edges i1).To).toNat<o1.length) then
 bif decide (((nth tA.Edges i1).To).toNat<o1.length) then
 bif decide (0≤(nth tA.Edges i1).From) then
 bif decide (((nth tA.Edges i1).From).toNat<o1.length) then
 bif decide (((nth tA.Edges i1).From).toNat<o1.length) then
 (nU (nth o1 (((nth tA.Edges i1).From).toNat)) ((nth tA.Edges i1).W)).bind fun x3=>
 (qx (nth o1 (((nth tA.Edges i1).To).toNat)) x3).bind fun x4=>
 bif decide (0≤(nth tA.Edges i1).To) then
 bif decide (((nth tA.Edges i1).To).toNat<o1.length) then
 bif decide (((nth tA.Edges i1).To).toNat<o1.length) then
 bif inK .i64 (((i1:Nat):Int)+1) then
 some (.inl (i1+1,o1.set (((nth tA.Edges i1).To).toNat) x4))
 else none
 else none
 else none
 else none
 else none
 else none
 else none
 else none
 else none
 else none
 else none
 else
 some (.inr o1)
theorem NK (tA:Graph) (x1:Jac) (i:Nat) (o:List Rat):∀σ:Nat×List Rat,aN Tryz.prog (nav [1,1,1,0,1,0,0,1,1,0,0,1,1,1,0,1,0,0] (ah Tryz.f46)) (fun (σ:Nat×List Rat)=>tX tA x1 i o σ.1 σ.2) (fun (_:List Rat)=>(.exit 2)) (fun (y:List Rat)=>sW tA x1 i o y) σ (D9 tA x1 i o σ.1 σ.2)
 | (i1,o1)=>aF 2010 (.br 100000037 (.op 110000 (.el Edge.D tA.Edges (.up i1)) (.op 120012 (.el Rat.D o1 .dn) (.op 120014 (.ld Rat.D o1) (.op 120022 (.el Rat.D o1 .dn) (.op 120024 (.ld Rat.D o1) (.call [] [] (qC (nth o1 (((nth tA.Edges i1).From).toNat)) ((nth tA.Edges i1).W)) .no fun x3=>.call [] [] (vW (nth o1 (((nth tA.Edges i1).To).toNat)) x3) .no fun x4=>.op 120034 (.el Rat.D o1 .dn) (.op 120036 (.st Rat.D o1 x4) (.ps 1000003 [.k [1,2,3,4,5,16,17,34,35,36] [10,11,12,1010,100030]] (.ret (.inl (i1+1,o1.set (((nth tA.Edges i1).To).toNat) x4))))))))))) (.ps 1000003 [.k [1,2,3,4,5,16,17] [10,11,12,1010,100030]] (.ret (.inr o1)))) (by kernel_rfl)
def Jj (tA:Graph) (x1:Jac) (i:Nat) (o:List Rat) (i1:Nat) (o1:List Rat):Option (List Rat):=aK (fun (σ:Nat×List Rat)=>D9 tA x1 i o σ.1 σ.2) FU (i1,o1)
theorem NS (tA:Graph) (x1:Jac) (i:Nat) (o:List Rat) (i1:Nat) (o1:List Rat):∀y:List Rat,Jj tA x1 i o i1 o1=some y→Runs Tryz.prog (.loop (nav [1,1,1,0,1,0,0,1,1,0,0,1,1,1,0,1,0,0] (ah Tryz.f46))) (tX tA x1 i o i1 o1) ((.exit 2)) ((fun (y:List Rat)=>sW tA x1 i o y) y):=
 aS (head:=fun (σ:Nat×List Rat)=>tX tA x1 i o σ.1 σ.2) (eo:=fun (_:List Rat)=>(.exit 2)) (so:=fun (y:List Rat)=>sW tA x1 i o y) (NK tA x1 i o) (fun _ h=>by cases h) FU (i1,o1)
def tN (tA:Graph) (x1:Jac) (i:Nat) (x3:List Rat) (i1:Nat) (o1:List Rat):St:=⟨87,0,[(1,.ptr 10 0 0),(2,.ptr 11 0 0),(3,.ptr 12 0 0),(4,I ((i:Nat):Int)),(5,.msl 1010 0 none (some (((tA.Ins+tA.aY)+tA.aG).toNat))),(16,I tA.Ins),(17,I ((i:Nat):Int)),(60,I tA.aG),(61,I ((i1:Nat):Int))],[(10,BOX [I tA.Ins,I tA.aY,I tA.aG,SL Edge.D tA.Edges,SL (cI .i64) tA.Gone]),(11,BOX [I 0,I 0,bZ]),(12,BOX [I x1.Rows,I x1.QU,.msl 100030 0 none none]),(1010,ROW 3 Rat.D x3 0),(100030,ROW 3 Rat.D o1 0)]⟩
def uw (tA:Graph) (x1:Jac) (i:Nat) (x3:List Rat) (o1:List Rat):St:=⟨87,0,[(1,.ptr 10 0 0),(2,.ptr 11 0 0),(3,.ptr 12 0 0),(16,I tA.Ins),(17,I ((i:Nat):Int))],[(10,BOX [I tA.Ins,I tA.aY,I tA.aG,SL Edge.D tA.Edges,SL (cI .i64) tA.Gone]),(11,BOX [I 0,I 0,bZ]),(12,BOX [I x1.Rows,I x1.QU,.msl 100030 0 none none]),(100030,ROW 3 Rat.D o1 0)]⟩
def Dl (tA:Graph) (x1:Jac) (i:Nat) (x3:List Rat) (i1:Nat) (o1:List Rat):Option ((Nat×List Rat)⊕(List Rat)):=
 bif decide (((i1:Nat):Int)<tA.aG) then
 bif inK .i64 (((i1:Nat):Int)*tA.Ins) then
 bif inK .i64 ((((i1:Nat):Int)*tA.Ins)+((i:Nat):Int)) then
 bif inK .i64 (tA.Ins+tA.aY) then
 bif inK .i64 ((tA.Ins+tA.aY)+((i1:Nat):Int)) then
 bif decide (0≤(tA.Ins+tA.aY)+((i1:Nat):Int)) then
 bif decide (((tA.Ins+tA.aY)+((i1:Nat):Int)).toNat<x3.length) then
 bif decide (((tA.Ins+tA.aY)+((i1:Nat):Int)).toNat<x3.length) then
 (nY (nth x3 (((tA.Ins+tA.aY)+((i1:Nat):Int)).toNat))).bind fun x4=>
 bif decide (0≤(((i1:Nat):Int)*tA.Ins)+((i:Nat):Int)) then
 bif decide (((((i1:Nat):Int)*tA.Ins)+((i:Nat):Int)).toNat<o1.length) then
 bif decide (((((i1:Nat):Int)*tA.Ins)+((i:Nat):Int)).toNat<o1.length) then
 bif inK .i64 (((i1:Nat):Int)+1) then
 some (.inl (i1+1,o1.set (((((i1:Nat):Int)*tA.Ins)+((i:Nat):Int)).toNat) x4))
 else none
 else none
 else none
 else none
 else none
 else none
 else none
 else none
 else none
 else none
 else none
 else
 some (.inr o1)
theorem NH (tA:Graph) (x1:Jac) (i:Nat) (x3:List Rat):∀σ:Nat×List Rat,aN Tryz.prog (nav [1,1,1,0,1,0,0,1,1,0,0,1,1,1,1,1,0,0] (ah Tryz.f46)) (fun (σ:Nat×List Rat)=>tN tA x1 i x3 σ.1 σ.2) (fun (_:List Rat)=>(.exit 4)) (fun (y:List Rat)=>uw tA x1 i x3 y) σ (Dl tA x1 i x3 σ.1 σ.2)
 | (i1,o1)=>aF 2010 (.br 100000062 (.op 170032 (.el Rat.D x3 .dn) (.op 170034 (.ld Rat.D x3) (.call [] [] (kL (nth x3 (((tA.Ins+tA.aY)+((i1:Nat):Int)).toNat))) .no fun x4=>.op 170038 (.el Rat.D o1 .dn) (.op 170040 (.st Rat.D o1 x4) (.ps 1000003 [.k [1,2,3,4,5,16,17,60,61] [10,11,12,1010,100030]] (.ret (.inl (i1+1,o1.set (((((i1:Nat):Int)*tA.Ins)+((i:Nat):Int)).toNat) x4)))))))) (.ps 1000003 [.k [1,2,3,16,17] [10,11,12,100030]] (.ret (.inr o1)))) (by kernel_rfl)
def Jk (tA:Graph) (x1:Jac) (i:Nat) (x3:List Rat) (i1:Nat) (o1:List Rat):Option (List Rat):=aK (fun (σ:Nat×List Rat)=>Dl tA x1 i x3 σ.1 σ.2) FU (i1,o1)
theorem N8 (tA:Graph) (x1:Jac) (i:Nat) (x3:List Rat) (i1:Nat) (o1:List Rat):∀y:List Rat,Jk tA x1 i x3 i1 o1=some y→Runs Tryz.prog (.loop (nav [1,1,1,0,1,0,0,1,1,0,0,1,1,1,1,1,0,0] (ah Tryz.f46))) (tN tA x1 i x3 i1 o1) ((.exit 4)) ((fun (y:List Rat)=>uw tA x1 i x3 y) y):=
 aS (head:=fun (σ:Nat×List Rat)=>tN tA x1 i x3 σ.1 σ.2) (eo:=fun (_:List Rat)=>(.exit 4)) (so:=fun (y:List Rat)=>uw tA x1 i x3 y) (NH tA x1 i x3) (fun _ h=>by cases h) FU (i1,o1)
def wW (tA:Graph) (x1:Jac) (i:Nat) (o:List Rat):St:=⟨87,0,[(1,.ptr 10 0 0),(2,.ptr 11 0 0),(3,.ptr 12 0 0),(16,I tA.Ins),(17,I ((i:Nat):Int))],[(10,BOX [I tA.Ins,I tA.aY,I tA.aG,SL Edge.D tA.Edges,SL (cI .i64) tA.Gone]),(11,BOX [I 0,I 0,bZ]),(12,BOX [I x1.Rows,I x1.QU,.msl 100030 0 none none]),(100030,ROW 3 Rat.D o 0)]⟩
def xk (tA:Graph) (x1:Jac) (o:List Rat):St:=⟨87,0,[(2,.ptr 11 0 0),(3,.ptr 12 0 0)],[(11,BOX [I 0,I 0,bZ]),(12,BOX [I x1.Rows,I x1.QU,.msl 100030 0 none none]),(100030,ROW 3 Rat.D o 0)]⟩
def Gv (tA:Graph) (x1:Jac) (i:Nat) (o:List Rat):Option ((Nat×List Rat)⊕(List Rat)):=
 bif decide (((i:Nat):Int)<tA.Ins) then
 bif inK .i64 (tA.Ins+tA.aY) then
 bif inK .i64 ((tA.Ins+tA.aY)+tA.aG) then
 bif decide (0≤(tA.Ins+tA.aY)+tA.aG) then
 bif decide (((tA.Ins+tA.aY)+tA.aG).toNat≤2147483648) then
 (iK 1).bind fun x2=>
 bif decide (i<(List.replicate (((tA.Ins+tA.aY)+tA.aG).toNat) (Rat.mk false [] [])).length) then
 bif decide (i<(List.replicate (((tA.Ins+tA.aY)+tA.aG).toNat) (Rat.mk false [] [])).length) then
 (Jj tA x1 i o 0 ((List.replicate (((tA.Ins+tA.aY)+tA.aG).toNat) (Rat.mk false [] [])).set i x2)).bind fun x3=>
 (Jk tA x1 i x3 0 o).bind fun x4=>
 bif inK .i64 (((i:Nat):Int)+1) then
 some (.inl (i+1,x4))
 else none
 else none
 else none
 else none
 else none
 else none
 else none
 else
 some (.inr o)
theorem Rl (tA:Graph) (x1:Jac):∀σ:Nat×List Rat,aN Tryz.prog (nav [1,1,1,0,1,0,0] (ah Tryz.f46)) (fun (σ:Nat×List Rat)=>wW tA x1 σ.1 σ.2) (fun (_:List Rat)=>(.exit 0)) (fun (y:List Rat)=>xk tA x1 y) σ (Gv tA x1 σ.1 σ.2)
 | (i,o)=>aF 1010 (.br 100000018 (.op 70016 (.mk Rat.D (Rat.mk false [] []) .dn) (.call [] [] (fQ 1) .no fun x2=>.op 80006 (.el Rat.D (List.replicate (((tA.Ins+tA.aY)+tA.aG).toNat) (Rat.mk false [] [])) (.up i)) (.op 80008 (.st Rat.D (List.replicate (((tA.Ins+tA.aY)+tA.aG).toNat) (Rat.mk false [] [])) x2) (.op 90004 (.ln Edge.D tA.Edges) (.ps 1000001 [.k [1,2,3,4,5,16,17,34,35,36] [10,11,12,1010,100030]] (.lp1 0 (NS tA x1 i o 0 ((List.replicate (((tA.Ins+tA.aY)+tA.aG).toNat) (Rat.mk false [] [])).set i x2)) fun x3=>.ps 1000001 [.k [1,2,3,4,5,16,17,60,61] [10,11,12,1010,100030]] (.lp1 0 (N8 tA x1 i x3 0 o) fun x4=>.ps 1000003 [.k [1,2,3,16,17] [10,11,12,100030]] (.ret (.inl (i+1,x4)))))))))) (.ps 1000003 [.k [2,3] [11,12,100030]] (.ret (.inr o)))) (by kernel_rfl)
def Nb (tA:Graph) (x1:Jac) (i:Nat) (o:List Rat):Option (List Rat):=aK (fun (σ:Nat×List Rat)=>Gv tA x1 σ.1 σ.2) FU (i,o)
theorem RU (tA:Graph) (x1:Jac) (i:Nat) (o:List Rat):∀y:List Rat,Nb tA x1 i o=some y→Runs Tryz.prog (.loop (nav [1,1,1,0,1,0,0] (ah Tryz.f46))) (wW tA x1 i o) ((.exit 0)) ((fun (y:List Rat)=>xk tA x1 y) y):=
 aS (head:=fun (σ:Nat×List Rat)=>wW tA x1 σ.1 σ.2) (eo:=fun (_:List Rat)=>(.exit 0)) (so:=fun (y:List Rat)=>xk tA x1 y) (Rl tA x1) (fun _ h=>by cases h) FU (i,o)
def Sj (tA:Graph):Option Jac:=
 (kM tA).bind fun x0=>
 bif !x0 then
 some (Jac.mk 0 0 [])
 else
 (JU tA).bind fun x1=>
 (Nb tA x1 0 x1.All).bind fun x2=>
 some (Jac.mk x1.Rows x1.QU x2)
theorem Vl (tA:Graph):∀r,Sj tA=some r→aj Tryz.prog 46 0 [AG Graph.D tA] [] (AG Jac.D r) []:=
 ak (enc:=fun r=>AG Jac.D r) (aP:=fun r=>[]) 10 (.call [] [] (qo tA) .no fun x0=>.br 100000011 (.ps 1000003 [.b 11] (.ret (Jac.mk 0 0 []))) (.call [] [100030] (OX tA) .no fun x1=>.ps 1000001 [.k [1,2,3,16,17] [10,11,12,100030]] (.lp1 0 (RU tA x1 0 x1.All) fun x2=>.ps 1000003 [.b 11] (.ret (Jac.mk x1.Rows x1.QU x2))))) Tryz.func46 (by kernel_rfl) (by kernel_rfl) (by kernel_rfl)
def rH (tA:Graph) (i:Nat) (o:List Bool):St:=⟨71,0,[(1,.ptr 10 0 0),(3,.msl 11 0 none (some (((tA.Ins+tA.aY)+tA.aG).toNat))),(19,SL Edge.D tA.Edges),(20,I ((tA.Edges.length:Nat):Int)),(21,I ((i:Nat):Int))],[(10,BOX [I tA.Ins,I tA.aY,I tA.aG,SL Edge.D tA.Edges,SL (cI .i64) tA.Gone]),(11,ROW 1 cB o 0)]⟩
def rC (tA:Graph):St:=⟨71,0,[(2,B false)],[]⟩
def qZ (tA:Graph):St:=⟨71,0,[],[]⟩
def AV (tA:Graph) (i:Nat) (o:List Bool):Option ((Nat×List Bool)⊕(Unit⊕Unit)):=
 bif decide (((i:Nat):Int)<((tA.Edges.length:Nat):Int)) then
 bif decide (i<tA.Edges.length) then
 bif decide (((nth tA.Edges i).From)≥tA.Ins) then
 bif decide (0≤(nth tA.Edges i).From) then
 bif decide (((nth tA.Edges i).From).toNat<o.length) then
 bif decide (((nth tA.Edges i).From).toNat<o.length) then
 bif nth o (((nth tA.Edges i).From).toNat) then
 bif inK .i64 (tA.Ins+tA.aY) then
 bif decide (((nth tA.Edges i).To)≥(tA.Ins+tA.aY)) then
 some (.inr (.inl ()))
 else
 bif decide (0≤(nth tA.Edges i).To) then
 bif decide (((nth tA.Edges i).To).toNat<o.length) then
 bif decide (((nth tA.Edges i).To).toNat<o.length) then
 bif nth o (((nth tA.Edges i).To).toNat) then
 bif decide (0≤(nth tA.Edges i).To) then
 bif decide (((nth tA.Edges i).To).toNat<o.length) then
 bif decide (((nth tA.Edges i).To).toNat<o.length) then
 bif inK .i64 (((i:Nat):Int)+1) then
 some (.inl (i+1,o.set (((nth tA.Edges i).To).toNat) true))
 else none
 else none
 else none
 else none
 else
 bif decide (((nth tA.Edges i).From)<tA.Ins) then
 bif decide (0≤(nth tA.Edges i).To) then
 bif decide (((nth tA.Edges i).To).toNat<o.length) then
 bif decide (((nth tA.Edges i).To).toNat<o.length) then
 bif inK .i64 (((i:Nat):Int)+1) then
 some (.inl (i+1,o.set (((nth tA.Edges i).To).toNat) true))
 else none
 else none
 else none
 else none
 else
 bif decide (0≤(nth tA.Edges i).From) then
 bif decide (((nth tA.Edges i).From).toNat<o.length) then
 bif decide (((nth tA.Edges i).From).toNat<o.length) then
 bif decide (0≤(nth tA.Edges i).To) then
 bif decide (((nth tA.Edges i).To).toNat<o.length) then
 bif decide (((nth tA.Edges i).To).toNat<o.length) then
 bif inK .i64 (((i:Nat):Int)+1) then
 some (.inl (i+1,o.set (((nth tA.Edges i).To).toNat) (nth o (((nth tA.Edges i).From).toNat))))
 else none
 else none
 else none
 else none
 else none
 else none
 else none
 else none
 else none
 else none
 else none
 else
 bif decide (0≤(nth tA.Edges i).To) then
 bif decide (((nth tA.Edges i).To).toNat<o.length) then
 bif decide (((nth tA.Edges i).To).toNat<o.length) then
 bif nth o (((nth tA.Edges i).To).toNat) then
 bif decide (0≤(nth tA.Edges i).To) then
 bif decide (((nth tA.Edges i).To).toNat<o.length) then
 bif decide (((nth tA.Edges i).To).toNat<o.length) then
 bif inK .i64 (((i:Nat):Int)+1) then
 some (.inl (i+1,o.set (((nth tA.Edges i).To).toNat) true))
 else none
 else none
 else none
 else none
 else
 bif decide (((nth tA.Edges i).From)<tA.Ins) then
 bif decide (0≤(nth tA.Edges i).To) then
 bif decide (((nth tA.Edges i).To).toNat<o.length) then
 bif decide (((nth tA.Edges i).To).toNat<o.length) then
 bif inK .i64 (((i:Nat):Int)+1) then
 some (.inl (i+1,o.set (((nth tA.Edges i).To).toNat) true))
 else none
 else none
 else none
 else none
 else
 bif decide (0≤(nth tA.Edges i).From) then
 bif decide (((nth tA.Edges i).From).toNat<o.length) then
 bif decide (((nth tA.Edges i).From).toNat<o.length) then
 bif decide (0≤(nth tA.Edges i).To) then
 bif decide (((nth tA.Edges i).To).toNat<o.length) then
 bif decide (((nth tA.Edges i).To).toNat<o.length) then
 bif inK .i64 (((i:Nat):Int)+1) then
 some (.inl (i+1,o.set (((nth tA.Edges i).To).toNat) (nth o (((nth tA.Edges i).From).toNat))))
 else none
 else none
 else none
 else none
 else none
 else none
 else none
 else none
 else none
 else none
 else none
 else none
 else none
 else
 bif decide (0≤(nth tA.Edges i).To) then
 bif decide (((nth tA.Edges i).To).toNat<o.length) then
 bif decide (((nth tA.Edges i).To).toNat<o.length) then
 bif nth o (((nth tA.Edges i).To).toNat) then
 bif decide (0≤(nth tA.Edges i).To) then
 bif decide (((nth tA.Edges i).To).toNat<o.length) then
 bif decide (((nth tA.Edges i).To).toNat<o.length) then
 bif inK .i64 (((i:Nat):Int)+1) then
 some (.inl (i+1,o.set (((nth tA.Edges i).To).toNat) true))
 else none
 else none
 else none
 else none
 else
 bif decide (((nth tA.Edges i).From)<tA.Ins) then
 bif decide (0≤(nth tA.Edges i).To) then
 bif decide (((nth tA.Edges i).To).toNat<o.length) then
 bif decide (((nth tA.Edges i).To).toNat<o.length) then
 bif inK .i64 (((i:Nat):Int)+1) then
 some (.inl (i+1,o.set (((nth tA.Edges i).To).toNat) true))
 else none
 else none
 else none
 else none
 else
 bif decide (0≤(nth tA.Edges i).From) then
 bif decide (((nth tA.Edges i).From).toNat<o.length) then
 bif decide (((nth tA.Edges i).From).toNat<o.length) then
 bif decide (0≤(nth tA.Edges i).To) then
 bif decide (((nth tA.Edges i).To).toNat<o.length) then
 bif decide (((nth tA.Edges i).To).toNat<o.length) then
 bif inK .i64 (((i:Nat):Int)+1) then
 some (.inl (i+1,o.set (((nth tA.Edges i).To).toNat) (nth o (((nth tA.Edges i).From).toNat))))
 else none
 else none
 else none
 else none
 else none
 else none
 else none
 else none
 else none
 else none
 else none
 else
 some (.inr (.inr ()))
theorem MJ (tA:Graph):∀σ:Nat×List Bool,aN Tryz.prog (nav [1,1,1,0,1,0,0] (ah Tryz.f102)) (fun (σ:Nat×List Bool)=>rH tA σ.1 σ.2) (fun (y:Unit⊕Unit)=>aH y (fun _=>.ret) (fun _=>(.exit 0))) (fun (y:Unit⊕Unit)=>aH y (fun y=>rC tA) (fun y=>qZ tA)) σ (AV tA σ.1 σ.2)
 | (i,o)=>aF 1010 (.br 100000022 (.op 60000 (.el Edge.D tA.Edges (.up i)) (.br 70012 (.op 70018 (.el cB o .dn) (.op 70020 (.ld cB o) (.br 70026 (.br 100000046 (.ps 1000003 [.k [2] []] (.ret (.inr (.inl ())))) (.op 90012 (.el cB o .dn) (.op 90014 (.ld cB o) (.br 90018 (.op 90044 (.el cB o .dn) (.op 90046 (.st cB o true) (.ps 1000003 [.k [1,3,19,20,21] [10,11]] (.ret (.inl (i+1,o.set (((nth tA.Edges i).To).toNat) true)))))) (.br 90032 (.op 90044 (.el cB o .dn) (.op 90046 (.st cB o true) (.ps 1000003 [.k [1,3,19,20,21] [10,11]] (.ret (.inl (i+1,o.set (((nth tA.Edges i).To).toNat) true)))))) (.op 90038 (.el cB o .dn) (.op 90040 (.ld cB o) (.op 90044 (.el cB o .dn) (.op 90046 (.st cB o (nth o (((nth tA.Edges i).From).toNat))) (.ps 1000003 [.k [1,3,19,20,21] [10,11]] (.ret (.inl (i+1,o.set (((nth tA.Edges i).To).toNat) (nth o (((nth tA.Edges i).From).toNat))))))))))))))) (.op 90012 (.el cB o .dn) (.op 90014 (.ld cB o) (.br 90018 (.op 90044 (.el cB o .dn) (.op 90046 (.st cB o true) (.ps 1000003 [.k [1,3,19,20,21] [10,11]] (.ret (.inl (i+1,o.set (((nth tA.Edges i).To).toNat) true)))))) (.br 90032 (.op 90044 (.el cB o .dn) (.op 90046 (.st cB o true) (.ps 1000003 [.k [1,3,19,20,21] [10,11]] (.ret (.inl (i+1,o.set (((nth tA.Edges i).To).toNat) true)))))) (.op 90038 (.el cB o .dn) (.op 90040 (.ld cB o) (.op 90044 (.el cB o .dn) (.op 90046 (.st cB o (nth o (((nth tA.Edges i).From).toNat))) (.ps 1000003 [.k [1,3,19,20,21] [10,11]] (.ret (.inl (i+1,o.set (((nth tA.Edges i).To).toNat) (nth o (((nth tA.Edges i).From).toNat))))))))))))))))) (.op 90012 (.el cB o .dn) (.op 90014 (.ld cB o) (.br 90018 (.op 90044 (.el cB o .dn) (.op 90046 (.st cB o true) (.ps 1000003 [.k [1,3,19,20,21] [10,11]] (.ret (.inl (i+1,o.set (((nth tA.Edges i).To).toNat) true)))))) (.br 90032 (.op 90044 (.el cB o .dn) (.op 90046 (.st cB o true) (.ps 1000003 [.k [1,3,19,20,21] [10,11]] (.ret (.inl (i+1,o.set (((nth tA.Edges i).To).toNat) true)))))) (.op 90038 (.el cB o .dn) (.op 90040 (.ld cB o) (.op 90044 (.el cB o .dn) (.op 90046 (.st cB o (nth o (((nth tA.Edges i).From).toNat))) (.ps 1000003 [.k [1,3,19,20,21] [10,11]] (.ret (.inl (i+1,o.set (((nth tA.Edges i).To).toNat) (nth o (((nth tA.Edges i).From).toNat)))))))))))))))) (.ps 1000003 [.k [] []] (.ret (.inr (.inr ()))))) (by kernel_rfl)
def Hr (tA:Graph) (i:Nat) (o:List Bool):Option (Unit⊕Unit):=aK (fun (σ:Nat×List Bool)=>AV tA σ.1 σ.2) FU (i,o)
theorem MG (tA:Graph) (i:Nat) (o:List Bool):∀y:Unit⊕Unit,Hr tA i o=some y→Runs Tryz.prog (.loop (nav [1,1,1,0,1,0,0] (ah Tryz.f102))) (rH tA i o) (aH y (fun _=>.ret) (fun _=>(.exit 0))) ((fun (y:Unit⊕Unit)=>aH y (fun y=>rC tA) (fun y=>qZ tA)) y):=
 aS (head:=fun (σ:Nat×List Bool)=>rH tA σ.1 σ.2) (eo:=fun (y:Unit⊕Unit)=>aH y (fun _=>.ret) (fun _=>(.exit 0))) (so:=fun (y:Unit⊕Unit)=>aH y (fun y=>rC tA) (fun y=>qZ tA)) (MJ tA) (fun y h=>by rcases y with y | y<;>cases h) FU (i,o)
def JZ (tA:Graph):Option Bool:=
 (kM tA).bind fun x0=>
 bif !x0 then
 some false
 else
 bif inK .i64 (tA.Ins+tA.aY) then
 bif inK .i64 ((tA.Ins+tA.aY)+tA.aG) then
 bif decide (0≤(tA.Ins+tA.aY)+tA.aG) then
 bif decide (((tA.Ins+tA.aY)+tA.aG).toNat≤2147483648) then
 (Hr tA 0 (List.replicate (((tA.Ins+tA.aY)+tA.aG).toNat) false)).bind fun y_=>aH y_ (fun x1=>
 some false)
 (fun x2=>
 some true)
 else none
 else none
 else none
 else none
theorem P9 (tA:Graph):∀r,JZ tA=some r→aj Tryz.prog 102 0 [AG Graph.D tA] [] (B r) []:=
 ak (enc:=fun r=>B r) (aP:=fun r=>[]) 10 (.call [] [] (qo tA) .no fun x0=>.br 100000008 (.ret false) (.op 30016 (.mk cB false .dn) (.op 40004 (.ln Edge.D tA.Edges) (.ps 1000001 [.k [1,3,19,20,21] [10,11]] (.lp2 0 (MG tA 0 (List.replicate (((tA.Ins+tA.aY)+tA.aG).toNat) false)) (fun x1=>.ret false) (fun x2=>.ret true)))))) Tryz.func102 (by kernel_rfl) (by kernel_rfl) (by kernel_rfl)
def Gg (g:Graph) (v:Int) (out:List Edge) (i:Nat):St:=⟨31,0,[(1,I v),(2,.ptr 10 0 0),(5,bI 100031 out),(6,I ((i:Nat):Int))],[(10,BOX [I g.Ins,I g.aY,I g.aG,SL Edge.D g.Edges,SL (cI .i64) g.Gone]),(100031,bM 5 Edge.D out)]⟩
def F9 (g:Graph) (v:Int) (out:List Edge):St:=⟨31,0,[(5,bI 100031 out)],[(100031,bM 5 Edge.D out)]⟩
def lq (g:Graph) (v:Int) (out:List Edge) (i:Nat):Option ((List Edge×Nat)⊕(List Edge)):=
 bif decide (((i:Nat):Int)<((g.Edges.length:Nat):Int)) then
 bif decide (i<g.Edges.length) then
 bif ((nth g.Edges i).To)==v then
 bif decide (i<g.Edges.length) then
 bif decide (out.length+1≤2147483648) then
 bif inK .i64 (((i:Nat):Int)+1) then
 some (.inl (out++[nth g.Edges i],i+1))
 else none
 else none
 else none
 else
 bif inK .i64 (((i:Nat):Int)+1) then
 some (.inl (out,i+1))
 else none
 else none
 else
 some (.inr out)
theorem Xt (g:Graph) (v:Int):∀σ:List Edge×Nat,aN Tryz.prog (nav [1,1,0,1,0,0] (ah Tryz.f220)) (fun (σ:List Edge×Nat)=>Gg g v σ.1 σ.2) (fun (_:List Edge)=>(.exit 0)) (fun (y:List Edge)=>F9 g v y) σ (lq g v σ.1 σ.2)
 | ([],i)=>aF 1010 (.op 30006 (.ln Edge.D g.Edges) (.br 100000011 (.op 50006 (.el Edge.D g.Edges (.up i)) (.br 100000021 (.op 60008 (.el Edge.D g.Edges (.up i)) (.op 60014 (.ap Edge.D [] [nth g.Edges i] 5 fun _=>⟨rfl,rfl⟩) (.ps 1000003 [.k [1,2,5,6] [10,1011],.m 1011 100031] (.ret (.inl ([nth g.Edges i],i+1)))))) (.ps 1000003 [.k [1,2,5,6] [10,100031]] (.ret (.inl ([],i+1)))))) (.ps 1000003 [.k [5] [100031]] (.ret (.inr []))))) (by kernel_rfl)
 | (dP::dO,i)=>aF 1010 (.op 30006 (.ln Edge.D g.Edges) (.br 100000011 (.op 50006 (.el Edge.D g.Edges (.up i)) (.br 100000021 (.op 60008 (.el Edge.D g.Edges (.up i)) (.op 60014 (.ap Edge.D (dP::dO) [nth g.Edges i] 5 fun _=>⟨rfl,rfl⟩) (.ps 1000003 [.k [1,2,5,6] [10,1011],.m 1011 100031] (.ret (.inl ((dP::dO)++[nth g.Edges i],i+1)))))) (.ps 1000003 [.k [1,2,5,6] [10,100031]] (.ret (.inl ((dP::dO),i+1)))))) (.ps 1000003 [.k [5] [100031]] (.ret (.inr (dP::dO)))))) (by kernel_rfl)
def NP (g:Graph) (v:Int) (out:List Edge) (i:Nat):Option (List Edge):=aK (fun (σ:List Edge×Nat)=>lq g v σ.1 σ.2) FU (out,i)
theorem Xz (g:Graph) (v:Int) (out:List Edge) (i:Nat):∀y:List Edge,NP g v out i=some y→Runs Tryz.prog (.loop (nav [1,1,0,1,0,0] (ah Tryz.f220))) (Gg g v out i) ((.exit 0)) ((fun (y:List Edge)=>F9 g v y) y):=
 aS (head:=fun (σ:List Edge×Nat)=>Gg g v σ.1 σ.2) (eo:=fun (_:List Edge)=>(.exit 0)) (so:=fun (y:List Edge)=>F9 g v y) (Xt g v) (fun _ h=>by cases h) FU (out,i)
def Eb (g:Graph) (v:Int):Option (List Edge):=
 (NP g v [] 0).bind fun x0=>
 some x0
theorem Fg (g:Graph) (v:Int):∀r,Eb g v=some r→aj Tryz.prog 220 0 [AG Graph.D g,I v] [] (SL Edge.D r) []:=
 ak (enc:=fun r=>SL Edge.D r) (aP:=fun r=>[]) 10 (.ps 1000001 [.k [1,2,5,6] [10,100031]] (.lp1 0 (Xz g v [] 0) fun x0=>.oz 1 5 100031 5 Edge.D x0 (.ps 1 [.k [5] []] (.ret x0)))) Tryz.func220 (by kernel_rfl) (by kernel_rfl) (by kernel_rfl)
def Dp (g:Graph) (v:Int) (out:List Edge) (i:Nat):St:=⟨31,0,[(1,I v),(2,.ptr 10 0 0),(5,bI 100032 out),(6,I ((i:Nat):Int))],[(10,BOX [I g.Ins,I g.aY,I g.aG,SL Edge.D g.Edges,SL (cI .i64) g.Gone]),(100032,bM 5 Edge.D out)]⟩
def Dj (g:Graph) (v:Int) (out:List Edge):St:=⟨31,0,[(5,bI 100032 out)],[(100032,bM 5 Edge.D out)]⟩
def jK (g:Graph) (v:Int) (out:List Edge) (i:Nat):Option ((List Edge×Nat)⊕(List Edge)):=
 bif decide (((i:Nat):Int)<((g.Edges.length:Nat):Int)) then
 bif decide (i<g.Edges.length) then
 bif ((nth g.Edges i).From)==v then
 bif decide (i<g.Edges.length) then
 bif decide (out.length+1≤2147483648) then
 bif inK .i64 (((i:Nat):Int)+1) then
 some (.inl (out++[nth g.Edges i],i+1))
 else none
 else none
 else none
 else
 bif inK .i64 (((i:Nat):Int)+1) then
 some (.inl (out,i+1))
 else none
 else none
 else
 some (.inr out)
theorem WZ (g:Graph) (v:Int):∀σ:List Edge×Nat,aN Tryz.prog (nav [1,1,0,1,0,0] (ah Tryz.f219)) (fun (σ:List Edge×Nat)=>Dp g v σ.1 σ.2) (fun (_:List Edge)=>(.exit 0)) (fun (y:List Edge)=>Dj g v y) σ (jK g v σ.1 σ.2)
 | ([],i)=>aF 1010 (.op 30006 (.ln Edge.D g.Edges) (.br 100000011 (.op 50006 (.el Edge.D g.Edges (.up i)) (.br 100000021 (.op 60008 (.el Edge.D g.Edges (.up i)) (.op 60014 (.ap Edge.D [] [nth g.Edges i] 5 fun _=>⟨rfl,rfl⟩) (.ps 1000003 [.k [1,2,5,6] [10,1011],.m 1011 100032] (.ret (.inl ([nth g.Edges i],i+1)))))) (.ps 1000003 [.k [1,2,5,6] [10,100032]] (.ret (.inl ([],i+1)))))) (.ps 1000003 [.k [5] [100032]] (.ret (.inr []))))) (by kernel_rfl)
 | (dP::dO,i)=>aF 1010 (.op 30006 (.ln Edge.D g.Edges) (.br 100000011 (.op 50006 (.el Edge.D g.Edges (.up i)) (.br 100000021 (.op 60008 (.el Edge.D g.Edges (.up i)) (.op 60014 (.ap Edge.D (dP::dO) [nth g.Edges i] 5 fun _=>⟨rfl,rfl⟩) (.ps 1000003 [.k [1,2,5,6] [10,1011],.m 1011 100032] (.ret (.inl ((dP::dO)++[nth g.Edges i],i+1)))))) (.ps 1000003 [.k [1,2,5,6] [10,100032]] (.ret (.inl ((dP::dO),i+1)))))) (.ps 1000003 [.k [5] [100032]] (.ret (.inr (dP::dO)))))) (by kernel_rfl)
def JR (g:Graph) (v:Int) (out:List Edge) (i:Nat):Option (List Edge):=aK (fun (σ:List Edge×Nat)=>jK g v σ.1 σ.2) FU (out,i)
theorem WH (g:Graph) (v:Int) (out:List Edge) (i:Nat):∀y:List Edge,JR g v out i=some y→Runs Tryz.prog (.loop (nav [1,1,0,1,0,0] (ah Tryz.f219))) (Dp g v out i) ((.exit 0)) ((fun (y:List Edge)=>Dj g v y) y):=
 aS (head:=fun (σ:List Edge×Nat)=>Dp g v σ.1 σ.2) (eo:=fun (_:List Edge)=>(.exit 0)) (so:=fun (y:List Edge)=>Dj g v y) (WZ g v) (fun _ h=>by cases h) FU (out,i)
def yt (g:Graph) (v:Int):Option (List Edge):=
 (JR g v [] 0).bind fun x0=>
 some x0
theorem Cc (g:Graph) (v:Int):∀r,yt g v=some r→aj Tryz.prog 219 0 [AG Graph.D g,I v] [] (SL Edge.D r) []:=
 ak (enc:=fun r=>SL Edge.D r) (aP:=fun r=>[]) 10 (.ps 1000001 [.k [1,2,5,6] [10,100032]] (.lp1 0 (WH g v [] 0) fun x0=>.oz 1 5 100032 5 Edge.D x0 (.ps 1 [.k [5] []] (.ret x0)))) Tryz.func219 (by kernel_rfl) (by kernel_rfl) (by kernel_rfl)
def tY (g:Graph) (back:Bool) (F_:Graph→Int→Bool→Option Bool) (x1:List Edge) (i:Nat):St:=⟨60,0,[(2,B back),(3,.ptr 10 0 0),(7,SL Edge.D x1),(8,I ((i:Nat):Int))],[(10,BOX [I g.Ins,I g.aY,I g.aG,SL Edge.D g.Edges,SL (cI .i64) g.Gone])]⟩
def tK (g:Graph) (back:Bool) (F_:Graph→Int→Bool→Option Bool) (x1:List Edge):St:=⟨60,0,[(6,B true)],[]⟩
def uy (g:Graph) (back:Bool) (F_:Graph→Int→Bool→Option Bool) (x1:List Edge):St:=⟨60,0,[],[]⟩
def iC (g:Graph) (back:Bool) (F_:Graph→Int→Bool→Option Bool) (x1:List Edge) (i:Nat):Option (Nat⊕(Unit⊕Unit)):=
 bif decide (((i:Nat):Int)<((x1.length:Nat):Int)) then
 bif decide (i<x1.length) then
 bif back then
 bif decide (i<x1.length) then
 (F_ g ((nth x1 i).From) back).bind fun x2=>
 bif x2 then
 some (.inr (.inl ()))
 else
 bif inK .i64 (((i:Nat):Int)+1) then
 some (.inl (i+1))
 else none
 else none
 else
 (F_ g ((nth x1 i).To) back).bind fun x2=>
 bif x2 then
 some (.inr (.inl ()))
 else
 bif inK .i64 (((i:Nat):Int)+1) then
 some (.inl (i+1))
 else none
 else none
 else
 some (.inr (.inr ()))
theorem NV (g:Graph) (back:Bool) (F_:Graph→Int→Bool→Option Bool) (x1:List Edge) (hF_:∀(g:Graph) (v:Int) (back:Bool),∀r,F_ g v back=some r→aj Tryz.prog 167 0 [AG Graph.D g,I v,B back] [] (B r) []):∀σ:Nat,aN Tryz.prog (nav [1,1,1,1,0,1,0,0] (ah Tryz.f167)) (fun (σ:Nat)=>tY g back F_ x1 σ) (fun (y:Unit⊕Unit)=>aH y (fun _=>.ret) (fun _=>(.exit 0))) (fun (y:Unit⊕Unit)=>aH y (fun y=>tK g back F_ x1) (fun y=>uy g back F_ x1)) σ (iC g back F_ x1 σ)
 | i=>aF 1010 (.op 70004 (.ln Edge.D x1) (.br 100000041 (.op 90004 (.el Edge.D x1 (.up i)) (.br 100000049 (.op 110004 (.el Edge.D x1 (.up i)) (.call [] [] (hF_ g ((nth x1 i).From) back) .no fun x2=>.br 100000059 (.ps 1000003 [.k [6] []] (.ret (.inr (.inl ())))) (.ps 1000003 [.k [2,3,7,8] [10]] (.ret (.inl (i+1)))))) (.call [] [] (hF_ g ((nth x1 i).To) back) .no fun x2=>.br 100000059 (.ps 1000003 [.k [6] []] (.ret (.inr (.inl ())))) (.ps 1000003 [.k [2,3,7,8] [10]] (.ret (.inl (i+1))))))) (.ps 1000003 [.k [] []] (.ret (.inr (.inr ())))))) (by kernel_rfl)
def iT (g:Graph) (back:Bool) (F_:Graph→Int→Bool→Option Bool) (x1:List Edge) (i:Nat):Option (Unit⊕Unit):=aK (fun (σ:Nat)=>iC g back F_ x1 σ) FU i
theorem nG (g:Graph) (back:Bool) (F_:Graph→Int→Bool→Option Bool) (x1:List Edge) (hF_:∀(g:Graph) (v:Int) (back:Bool),∀r,F_ g v back=some r→aj Tryz.prog 167 0 [AG Graph.D g,I v,B back] [] (B r) []) (i:Nat):∀y:Unit⊕Unit,iT g back F_ x1 i=some y→Runs Tryz.prog (.loop (nav [1,1,1,1,0,1,0,0] (ah Tryz.f167))) (tY g back F_ x1 i) (aH y (fun _=>.ret) (fun _=>(.exit 0))) ((fun (y:Unit⊕Unit)=>aH y (fun y=>tK g back F_ x1) (fun y=>uy g back F_ x1)) y):=
 aS (head:=fun (σ:Nat)=>tY g back F_ x1 σ) (eo:=fun (y:Unit⊕Unit)=>aH y (fun _=>.ret) (fun _=>(.exit 0))) (so:=fun (y:Unit⊕Unit)=>aH y (fun y=>tK g back F_ x1) (fun y=>uy g back F_ x1)) (NV g back F_ x1 hF_) (fun y h=>by rcases y with y | y<;>cases h) FU i
def o8 (g:Graph) (back:Bool) (F_:Graph→Int→Bool→Option Bool) (x0:List Edge) (i:Nat):St:=⟨60,0,[(2,B back),(3,.ptr 10 0 0),(7,SL Edge.D x0),(8,I ((i:Nat):Int))],[(10,BOX [I g.Ins,I g.aY,I g.aG,SL Edge.D g.Edges,SL (cI .i64) g.Gone])]⟩
def pI (g:Graph) (back:Bool) (F_:Graph→Int→Bool→Option Bool) (x0:List Edge):St:=⟨60,0,[(6,B true)],[]⟩
def oZ (g:Graph) (back:Bool) (F_:Graph→Int→Bool→Option Bool) (x0:List Edge):St:=⟨60,0,[],[]⟩
def fZ (g:Graph) (back:Bool) (F_:Graph→Int→Bool→Option Bool) (x0:List Edge) (i:Nat):Option (Nat⊕(Unit⊕Unit)):=
 bif decide (((i:Nat):Int)<((x0.length:Nat):Int)) then
 bif decide (i<x0.length) then
 bif back then
 bif decide (i<x0.length) then
 (F_ g ((nth x0 i).From) back).bind fun x1=>
 bif x1 then
 some (.inr (.inl ()))
 else
 bif inK .i64 (((i:Nat):Int)+1) then
 some (.inl (i+1))
 else none
 else none
 else
 (F_ g ((nth x0 i).To) back).bind fun x1=>
 bif x1 then
 some (.inr (.inl ()))
 else
 bif inK .i64 (((i:Nat):Int)+1) then
 some (.inl (i+1))
 else none
 else none
 else
 some (.inr (.inr ()))
theorem KU (g:Graph) (back:Bool) (F_:Graph→Int→Bool→Option Bool) (x0:List Edge) (hF_:∀(g:Graph) (v:Int) (back:Bool),∀r,F_ g v back=some r→aj Tryz.prog 167 0 [AG Graph.D g,I v,B back] [] (B r) []):∀σ:Nat,aN Tryz.prog (nav [1,1,1,1,0,1,0,0] (ah Tryz.f167)) (fun (σ:Nat)=>o8 g back F_ x0 σ) (fun (y:Unit⊕Unit)=>aH y (fun _=>.ret) (fun _=>(.exit 0))) (fun (y:Unit⊕Unit)=>aH y (fun y=>pI g back F_ x0) (fun y=>oZ g back F_ x0)) σ (fZ g back F_ x0 σ)
 | i=>aF 1010 (.op 70004 (.ln Edge.D x0) (.br 100000041 (.op 90004 (.el Edge.D x0 (.up i)) (.br 100000049 (.op 110004 (.el Edge.D x0 (.up i)) (.call [] [] (hF_ g ((nth x0 i).From) back) .no fun x1=>.br 100000059 (.ps 1000003 [.k [6] []] (.ret (.inr (.inl ())))) (.ps 1000003 [.k [2,3,7,8] [10]] (.ret (.inl (i+1)))))) (.call [] [] (hF_ g ((nth x0 i).To) back) .no fun x1=>.br 100000059 (.ps 1000003 [.k [6] []] (.ret (.inr (.inl ())))) (.ps 1000003 [.k [2,3,7,8] [10]] (.ret (.inl (i+1))))))) (.ps 1000003 [.k [] []] (.ret (.inr (.inr ())))))) (by kernel_rfl)
def gI (g:Graph) (back:Bool) (F_:Graph→Int→Bool→Option Bool) (x0:List Edge) (i:Nat):Option (Unit⊕Unit):=aK (fun (σ:Nat)=>fZ g back F_ x0 σ) FU i
theorem kP (g:Graph) (back:Bool) (F_:Graph→Int→Bool→Option Bool) (x0:List Edge) (hF_:∀(g:Graph) (v:Int) (back:Bool),∀r,F_ g v back=some r→aj Tryz.prog 167 0 [AG Graph.D g,I v,B back] [] (B r) []) (i:Nat):∀y:Unit⊕Unit,gI g back F_ x0 i=some y→Runs Tryz.prog (.loop (nav [1,1,1,1,0,1,0,0] (ah Tryz.f167))) (o8 g back F_ x0 i) (aH y (fun _=>.ret) (fun _=>(.exit 0))) ((fun (y:Unit⊕Unit)=>aH y (fun y=>pI g back F_ x0) (fun y=>oZ g back F_ x0)) y):=
 aS (head:=fun (σ:Nat)=>o8 g back F_ x0 σ) (eo:=fun (y:Unit⊕Unit)=>aH y (fun _=>.ret) (fun _=>(.exit 0))) (so:=fun (y:Unit⊕Unit)=>aH y (fun y=>pI g back F_ x0) (fun y=>oZ g back F_ x0)) (KU g back F_ x0 hF_) (fun y h=>by rcases y with y | y<;>cases h) FU i
def fO (F_:Graph→Int→Bool→Option Bool) (g:Graph) (v:Int) (back:Bool):Option Bool:=
 bif back then
 bif decide (v<g.Ins) then
 some true
 else
 bif !back then
 bif inK .i64 (g.Ins+g.aY) then
 bif decide (v≥(g.Ins+g.aY)) then
 some true
 else
 (yt g v).bind fun x0=>
 bif back then
 (Eb g v).bind fun x1=>
 (iT g back F_ x1 0).bind fun y_=>aH y_ (fun x2=>
 some true)
 (fun x3=>
 some false)
 else
 (gI g back F_ x0 0).bind fun y_=>aH y_ (fun x1=>
 some true)
 (fun x2=>
 some false)
 else none
 else
 (yt g v).bind fun x0=>
 bif back then
 (Eb g v).bind fun x1=>
 (iT g back F_ x1 0).bind fun y_=>aH y_ (fun x2=>
 some true)
 (fun x3=>
 some false)
 else
 (gI g back F_ x0 0).bind fun y_=>aH y_ (fun x1=>
 some true)
 (fun x2=>
 some false)
 else
 bif !back then
 bif inK .i64 (g.Ins+g.aY) then
 bif decide (v≥(g.Ins+g.aY)) then
 some true
 else
 (yt g v).bind fun x0=>
 bif back then
 (Eb g v).bind fun x1=>
 (iT g back F_ x1 0).bind fun y_=>aH y_ (fun x2=>
 some true)
 (fun x3=>
 some false)
 else
 (gI g back F_ x0 0).bind fun y_=>aH y_ (fun x1=>
 some true)
 (fun x2=>
 some false)
 else none
 else
 (yt g v).bind fun x0=>
 bif back then
 (Eb g v).bind fun x1=>
 (iT g back F_ x1 0).bind fun y_=>aH y_ (fun x2=>
 some true)
 (fun x3=>
 some false)
 else
 (gI g back F_ x0 0).bind fun y_=>aH y_ (fun x1=>
 some true)
 (fun x2=>
 some false)
theorem Md (F_:Graph→Int→Bool→Option Bool) (hF_:∀(g:Graph) (v:Int) (back:Bool),∀r,F_ g v back=some r→aj Tryz.prog 167 0 [AG Graph.D g,I v,B back] [] (B r) []) (g:Graph) (v:Int) (back:Bool):∀r,fO F_ g v back=some r→aj Tryz.prog 167 0 [AG Graph.D g,I v,B back] [] (B r) []:=
 ak (enc:=fun r=>B r) (aP:=fun r=>[]) 10 (.br 10004 (.br 10016 (.ret true) (.br 10022 (.br 100000030 (.ret true) (.call [] [] (Cc g v) .no fun x0=>.br 100000034 (.call [] [] (Fg g v) .no fun x1=>.ps 1000001 [.k [2,3,7,8] [10]] (.lp2 0 (nG g back F_ x1 hF_ 0) (fun x2=>.ret true) (fun x3=>.ret false))) (.ps 1000001 [.k [2,3,7,8] [10]] (.lp2 0 (kP g back F_ x0 hF_ 0) (fun x1=>.ret true) (fun x2=>.ret false))))) (.call [] [] (Cc g v) .no fun x0=>.br 100000034 (.call [] [] (Fg g v) .no fun x1=>.ps 1000001 [.k [2,3,7,8] [10]] (.lp2 0 (nG g back F_ x1 hF_ 0) (fun x2=>.ret true) (fun x3=>.ret false))) (.ps 1000001 [.k [2,3,7,8] [10]] (.lp2 0 (kP g back F_ x0 hF_ 0) (fun x1=>.ret true) (fun x2=>.ret false)))))) (.br 10022 (.br 100000030 (.ret true) (.call [] [] (Cc g v) .no fun x0=>.br 100000034 (.call [] [] (Fg g v) .no fun x1=>.ps 1000001 [.k [2,3,7,8] [10]] (.lp2 0 (nG g back F_ x1 hF_ 0) (fun x2=>.ret true) (fun x3=>.ret false))) (.ps 1000001 [.k [2,3,7,8] [10]] (.lp2 0 (kP g back F_ x0 hF_ 0) (fun x1=>.ret true) (fun x2=>.ret false))))) (.call [] [] (Cc g v) .no fun x0=>.br 100000034 (.call [] [] (Fg g v) .no fun x1=>.ps 1000001 [.k [2,3,7,8] [10]] (.lp2 0 (nG g back F_ x1 hF_ 0) (fun x2=>.ret true) (fun x3=>.ret false))) (.ps 1000001 [.k [2,3,7,8] [10]] (.lp2 0 (kP g back F_ x0 hF_ 0) (fun x1=>.ret true) (fun x2=>.ret false)))))) Tryz.func167 (by kernel_rfl) (by kernel_rfl) (by kernel_rfl)
def eu:Nat→Graph→Int→Bool→Option Bool
 | 0=>fun _ _ _=>none
 | n_+1=>fO (eu n_)
theorem DT:∀n_:Nat,∀(g:Graph) (v:Int) (back:Bool),∀r,eu n_ g v back=some r→aj Tryz.prog 167 0 [AG Graph.D g,I v,B back] [] (B r) []
 | 0=>fun _ _ _ _ h=>by cases h
 | n_+1=>Md (eu n_) (DT n_)
def sF (g:Graph) (v:Int) (back:Bool):Option Bool:=eu FU g v back
theorem qF (g:Graph) (v:Int) (back:Bool):∀r,sF g v back=some r→aj Tryz.prog 167 0 [AG Graph.D g,I v,B back] [] (B r) []:=DT FU g v back
def xR (g:Graph) (i:Nat) (h:List Edge):St:=⟨54,0,[(1,.ptr 10 0 0),(2,.ptr 11 0 0),(3,.ptr 12 0 0),(4,I ((i:Nat):Int))],[(10,BOX [I g.Ins,I g.aY,I g.aG,SL Edge.D g.Edges,SL (cI .i64) g.Gone]),(11,BOX [I 0,I 0,I 0,bZ,bZ]),(12,BOX [I g.Ins,I g.aY,I g.aG,bI 100033 h,SL (cI .i64) g.Gone]),(100033,bM 5 Edge.D h)]⟩
def xU (g:Graph) (h:List Edge):St:=⟨54,0,[(2,.ptr 11 0 0),(3,.ptr 12 0 0)],[(11,BOX [I 0,I 0,I 0,bZ,bZ]),(12,BOX [I g.Ins,I g.aY,I g.aG,bI 100033 h,SL (cI .i64) g.Gone]),(100033,bM 5 Edge.D h)]⟩
def jv (g:Graph) (i:Nat) (h:List Edge):Option ((Nat×List Edge)⊕(List Edge)):=
 bif decide (((i:Nat):Int)<((g.Edges.length:Nat):Int)) then
 bif decide (i<g.Edges.length) then
 (sF g ((nth g.Edges i).From) true).bind fun x0=>
 bif decide (i<g.Edges.length) then
 (sF g ((nth g.Edges i).To) false).bind fun x1=>
 bif x0 then
 bif x1 then
 bif decide (i<g.Edges.length) then
 bif decide (h.length+1≤2147483648) then
 bif inK .i64 (((i:Nat):Int)+1) then
 some (.inl (i+1,h++[nth g.Edges i]))
 else none
 else none
 else none
 else
 bif inK .i64 (((i:Nat):Int)+1) then
 some (.inl (i+1,h))
 else none
 else
 bif inK .i64 (((i:Nat):Int)+1) then
 some (.inl (i+1,h))
 else none
 else none
 else none
 else
 some (.inr h)
theorem QK (g:Graph):∀σ:Nat×List Edge,aN Tryz.prog (nav [1,1,0,1,0,0] (ah Tryz.f105)) (fun (σ:Nat×List Edge)=>xR g σ.1 σ.2) (fun (_:List Edge)=>(.exit 0)) (fun (y:List Edge)=>xU g y) σ (jv g σ.1 σ.2)
 | (i,[])=>aF 1010 (.op 30006 (.ln Edge.D g.Edges) (.br 100000020 (.op 50008 (.el Edge.D g.Edges (.up i)) (.call [] [] (qF g ((nth g.Edges i).From) true) .no fun x0=>.op 60008 (.el Edge.D g.Edges (.up i)) (.call [] [] (qF g ((nth g.Edges i).To) false) .no fun x1=>.br 70004 (.br 100000042 (.op 80010 (.el Edge.D g.Edges (.up i)) (.op 80016 (.ap Edge.D [] [nth g.Edges i] 5 fun _=>⟨rfl,rfl⟩) (.ps 1000003 [.k [1,2,3,4] [10,11,12,1011],.m 1011 100033] (.ret (.inl (i+1,[nth g.Edges i])))))) (.ps 1000003 [.k [1,2,3,4] [10,11,12,100033]] (.ret (.inl (i+1,[]))))) (.ps 1000003 [.k [1,2,3,4] [10,11,12,100033]] (.ret (.inl (i+1,[]))))))) (.ps 1000003 [.k [2,3] [11,12,100033]] (.ret (.inr []))))) (by kernel_rfl)
 | (i,h_h::h_t)=>aF 1010 (.op 30006 (.ln Edge.D g.Edges) (.br 100000020 (.op 50008 (.el Edge.D g.Edges (.up i)) (.call [] [] (qF g ((nth g.Edges i).From) true) .no fun x0=>.op 60008 (.el Edge.D g.Edges (.up i)) (.call [] [] (qF g ((nth g.Edges i).To) false) .no fun x1=>.br 70004 (.br 100000042 (.op 80010 (.el Edge.D g.Edges (.up i)) (.op 80016 (.ap Edge.D (h_h::h_t) [nth g.Edges i] 5 fun _=>⟨rfl,rfl⟩) (.ps 1000003 [.k [1,2,3,4] [10,11,12,1011],.m 1011 100033] (.ret (.inl (i+1,(h_h::h_t)++[nth g.Edges i])))))) (.ps 1000003 [.k [1,2,3,4] [10,11,12,100033]] (.ret (.inl (i+1,(h_h::h_t)))))) (.ps 1000003 [.k [1,2,3,4] [10,11,12,100033]] (.ret (.inl (i+1,(h_h::h_t)))))))) (.ps 1000003 [.k [2,3] [11,12,100033]] (.ret (.inr (h_h::h_t)))))) (by kernel_rfl)
def Gl (g:Graph) (i:Nat) (h:List Edge):Option (List Edge):=aK (fun (σ:Nat×List Edge)=>jv g σ.1 σ.2) FU (i,h)
theorem Qw (g:Graph) (i:Nat) (h:List Edge):∀y:List Edge,Gl g i h=some y→Runs Tryz.prog (.loop (nav [1,1,0,1,0,0] (ah Tryz.f105))) (xR g i h) ((.exit 0)) ((fun (y:List Edge)=>xU g y) y):=
 aS (head:=fun (σ:Nat×List Edge)=>xR g σ.1 σ.2) (eo:=fun (_:List Edge)=>(.exit 0)) (so:=fun (y:List Edge)=>xU g y) (QK g) (fun _ h=>by cases h) FU (i,h)
def zQ (g:Graph):Option Graph:=
 (Gl g 0 []).bind fun x0=>
 some (Graph.mk g.Ins g.aY g.aG x0 g.Gone)
theorem Vz (g:Graph):∀r,zQ g=some r→aj Tryz.prog 105 0 [AG Graph.D g] [] (AG Graph.D r) []:=
 ak (enc:=fun r=>AG Graph.D r) (aP:=fun r=>[]) 10 (.ps 1000001 [.k [1,2,3,4] [10,11,12,100033]] (.lp1 0 (Qw g 0 []) fun x0=>.ob 1 12 3 100033 5 Edge.D x0 (.ps 1 [.k [2,3] [11,12]] (.ret (Graph.mk g.Ins g.aY g.aG x0 g.Gone))))) Tryz.func105 (by kernel_rfl) (by kernel_rfl) (by kernel_rfl)
def AB (a:Graph) (b:Graph) (i:Nat):St:=⟨57,0,[(2,.ptr 10 0 0),(3,.ptr 11 0 0),(5,I ((i:Nat):Int))],[(10,BOX [I a.Ins,I a.aY,I a.aG,SL Edge.D a.Edges,SL (cI .i64) a.Gone]),(11,BOX [I b.Ins,I b.aY,I b.aG,SL Edge.D b.Edges,SL (cI .i64) b.Gone])]⟩
def AQ (a:Graph) (b:Graph):St:=⟨57,0,[(4,B false)],[]⟩
def Ar (a:Graph) (b:Graph):St:=⟨57,0,[(2,.ptr 10 0 0),(3,.ptr 11 0 0)],[(10,BOX [I a.Ins,I a.aY,I a.aG,SL Edge.D a.Edges,SL (cI .i64) a.Gone]),(11,BOX [I b.Ins,I b.aY,I b.aG,SL Edge.D b.Edges,SL (cI .i64) b.Gone])]⟩
def nI (a:Graph) (b:Graph) (i:Nat):Option (Nat⊕(Unit⊕Unit)):=
 bif decide (((i:Nat):Int)<((a.Gone.length:Nat):Int)) then
 bif decide (i<a.Gone.length) then
 bif decide (i<b.Gone.length) then
 bif (nth a.Gone i) != (nth b.Gone i) then
 some (.inr (.inl ()))
 else
 bif inK .i64 (((i:Nat):Int)+1) then
 some (.inl (i+1))
 else none
 else none
 else none
 else
 some (.inr (.inr ()))
theorem TN (a:Graph) (b:Graph):∀σ:Nat,aN Tryz.prog (nav [1,1,0,1,0,0] (ah Tryz.f44)) (fun (σ:Nat)=>AB a b σ) (fun (y:Unit⊕Unit)=>aH y (fun _=>.ret) (fun _=>(.exit 0))) (fun (y:Unit⊕Unit)=>aH y (fun y=>AQ a b) (fun y=>Ar a b)) σ (nI a b σ)
 | i=>aF 1010 (.op 40006 (.ln (cI .i64) a.Gone) (.br 100000038 (.op 60006 (.el (cI .i64) a.Gone (.up i)) (.op 60016 (.el (cI .i64) b.Gone (.up i)) (.br 100000051 (.ps 1000003 [.k [4] []] (.ret (.inr (.inl ())))) (.ps 1000003 [.k [2,3,5] [10,11]] (.ret (.inl (i+1))))))) (.ps 1000003 [.k [2,3] [10,11]] (.ret (.inr (.inr ())))))) (by kernel_rfl)
def BO (a:Graph) (b:Graph) (i:Nat):Option (Unit⊕Unit):=aK (fun (σ:Nat)=>nI a b σ) FU i
theorem Uj (a:Graph) (b:Graph) (i:Nat):∀y:Unit⊕Unit,BO a b i=some y→Runs Tryz.prog (.loop (nav [1,1,0,1,0,0] (ah Tryz.f44))) (AB a b i) (aH y (fun _=>.ret) (fun _=>(.exit 0))) ((fun (y:Unit⊕Unit)=>aH y (fun y=>AQ a b) (fun y=>Ar a b)) y):=
 aS (head:=fun (σ:Nat)=>AB a b σ) (eo:=fun (y:Unit⊕Unit)=>aH y (fun _=>.ret) (fun _=>(.exit 0))) (so:=fun (y:Unit⊕Unit)=>aH y (fun y=>AQ a b) (fun y=>Ar a b)) (TN a b) (fun y h=>by rcases y with y | y<;>cases h) FU i
def wU (a:Graph) (b:Graph):Option Bool:=
 bif a.Ins != b.Ins then
 some false
 else
 bif a.aY != b.aY then
 some false
 else
 bif a.aG != b.aG then
 some false
 else
 bif ((a.Gone.length:Nat):Int) != ((b.Gone.length:Nat):Int) then
 some false
 else
 (BO a b 0).bind fun y_=>aH y_ (fun x0=>
 some false)
 (fun x1=>
 (L8 a.Edges b.Edges).bind fun x2=>
 some x2)
theorem Nl (a:Graph) (b:Graph):∀r,wU a b=some r→aj Tryz.prog 44 0 [AG Graph.D a,AG Graph.D b] [] (B r) []:=
 ak (enc:=fun r=>B r) (aP:=fun r=>[]) 10 (.br 10012 (.ret false) (.br 10026 (.ret false) (.br 10040 (.ret false) (.op 10044 (.ln (cI .i64) a.Gone) (.op 10050 (.ln (cI .i64) b.Gone) (.br 100000033 (.ret false) (.ps 1000001 [.k [2,3,5] [10,11]] (.lp2 0 (Uj a b 0) (fun x0=>.ret false) (fun x1=>.call [] [] (ZX a.Edges b.Edges) .no fun x2=>.ret x2))))))))) Tryz.func44 (by kernel_rfl) (by kernel_rfl) (by kernel_rfl)
def Fa:Option Bool:=
 (dH 3).bind fun x0=>
 (iI (Tape.mk 1 [TOp.mk 4 0 0 0 (Rat.mk false [] [])] [1]) [x0]).bind fun x1=>
 (dH 6).bind fun x2=>
 (dH 1).bind fun x3=>
 bif x1.2==0 then
 (wU x1.1 (Graph.mk 1 1 1 [Edge.mk 0 1 x2,Edge.mk 1 2 x3] [])).bind fun x4=>
 bif x4 then
 (kM x1.1).bind fun x5=>
 bif x5 then
 (Sj x1.1).bind fun x6=>
 (dH 6).bind fun x7=>
 (WJ x6 (Jac.mk 1 1 [x7])).bind fun x8=>
 bif x8 then
 (JZ x1.1).bind fun x9=>
 bif !x9 then
 (aa1 x1.1 1).bind fun x10=>
 some (((x10.length:Nat):Int)==1)
 else
 some false
 else
 some false
 else
 some false
 else
 some false
 else
 some false
theorem Vy:∀r,Fa=some r→aj Tryz.prog 41 0 [] [] (B r) []:=
 ak (enc:=fun r=>B r) (aP:=fun r=>[]) 10 (.call [] [] (bf 3) .no fun x0=>.call [] [] (Kr (Tape.mk 1 [TOp.mk 4 0 0 0 (Rat.mk false [] [])] [1]) [x0]) .no fun x1=>.call [] [] (bf 6) .no fun x2=>.call [] [] (bf 1) .no fun x3=>.br 40006 (.call [] [] (Nl x1.1 (Graph.mk 1 1 1 [Edge.mk 0 1 x2,Edge.mk 1 2 x3] [])) (.yes fun _=>⟨rfl,trivial⟩) fun x4=>.br 40016 (.call [] [] (qo x1.1) .no fun x5=>.br 40024 (.call [] [] (Vl x1.1) .no fun x6=>.call [] [] (bf 6) .no fun x7=>.call [] [] (XU x6 (Jac.mk 1 1 [x7])) (.yes fun _=>⟨rfl,trivial⟩) fun x8=>.br 40040 (.call [] [] (P9 x1.1) .no fun x9=>.br 40050 (.call [] [] (aaf x1.1 1) .no fun x10=>.op 40054 (.ln Edge.D x10) (.ret (((x10.length:Nat):Int)==1))) (.ret false)) (.ret false)) (.ret false)) (.ret false)) (.ret false)) Tryz.func41 (by kernel_rfl) (by kernel_rfl) (by kernel_rfl)
end Go.Ab.M
