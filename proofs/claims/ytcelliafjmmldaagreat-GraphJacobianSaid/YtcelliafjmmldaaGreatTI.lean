import Derived.Test.YtcelliafjmmldaaGreatTH
namespace Go.Ab.M
open Go.Proofs
set_option linter.unusedVariables false
set_option maxRecDepth 100000
def tV (t:Tape) (x0:List Rat×Int) (out:List Edge) (i:Nat):St:=⟨43,0,[(2,.ptr 10 0 0),(6,SL Rat.D x0.1),(8,dw 0 out),(21,SL TOp.D t.Ops),(22,I ((t.Ops.length:Nat):Int)),(23,I ((i:Nat):Int))],[(0,dO 5 Edge.D out),(10,BOX [I t.Ins,SL TOp.D t.Ops,SL (cI .i64) t.aB])]⟩
def tX (t:Tape) (x0:List Rat×Int) (out:List Edge):St:=⟨43,0,[(8,dw 0 out)],[(0,dO 5 Edge.D out)]⟩
def EC (t:Tape) (x0:List Rat×Int) (out:List Edge) (i:Nat):Option ((List Edge×Nat)⊕(List Edge)):=
 bif decide (((i:Nat):Int)<((t.Ops.length:Nat):Int)) then
 bif decide (i<t.Ops.length) then
 (Gw (nth t.Ops i) x0.1).bind fun x1=>
 bif inK .i64 (t.Ins+((i:Nat):Int)) then
 (jH (nth t.Ops i) x1 (t.Ins+((i:Nat):Int))).bind fun y_=>aK y_ (fun x2=>
 bif decide (out.length+0≤2147483648) then
 bif inK .i64 (((i:Nat):Int)+1) then
 some (.inl (out++[],i+1))
 else none
 else none)
 (fun x3=>
 bif decide (out.length+x3.length≤2147483648) then
 bif inK .i64 (((i:Nat):Int)+1) then
 some (.inl (out++x3,i+1))
 else none
 else none)
 else none
 else none
 else
 some (.inr out)
theorem NY (t:Tape) (x0:List Rat×Int):∀σ:List Edge×Nat,aP Tryz.prog (nav [1,1,1,1,0,1,0,0] (ah Tryz.f27)) (fun (σ:List Edge×Nat)=>tV t x0 σ.1 σ.2) (fun (_:List Edge)=>(.exit 0)) (fun (y:List Edge)=>tX t x0 y) σ (EC t x0 σ.1 σ.2)
 | ([],i)=>aJ 1010 (.br 100000024 (.op 70002 (.el TOp.D t.Ops (.up i)) (.call [] [] (Fp (nth t.Ops i) x0.1) .no fun x1=>.acj [] [100020] (Gq (nth t.Ops i) x1 (t.Ins+((i:Nat):Int))) .no (fun x2=>.op 80020 (.ao 0 Edge.D ([]:List Edge) 5 fun _=>⟨rfl,rfl⟩) (.ps 1000003 [.k [2,6,8,21,22,23] [0,10]] (.ret (.inl ([],i+1))))) (fun x3=>.op 80020 (.ao 0 Edge.D x3 5 fun _=>⟨rfl,rfl⟩) (.ps 1000003 [.k [2,6,8,21,22,23] [0,10]] (.ret (.inl (x3,i+1))))))) (.ps 1000003 [.k [8] [0]] (.ret (.inr [])))) (by kernel_rfl)
 | (fA::fB,i)=>aJ 1010 (.br 100000024 (.op 70002 (.el TOp.D t.Ops (.up i)) (.call [] [] (Fp (nth t.Ops i) x0.1) .no fun x1=>.acj [] [100020] (Gq (nth t.Ops i) x1 (t.Ins+((i:Nat):Int))) .no (fun x2=>.op 80020 (.ap Edge.D (fA::fB) [] 5 fun _=>⟨rfl,rfl⟩) (.ps 1000003 [.k [2,6,8,21,22,23] [1011,10],.m 1011 0] (.ret (.inl ((fA::fB)++[],i+1))))) (fun x3=>.op 80020 (.ap Edge.D (fA::fB) x3 5 fun _=>⟨rfl,rfl⟩) (.ps 1000003 [.k [2,6,8,21,22,23] [1011,10],.m 1011 0] (.ret (.inl ((fA::fB)++x3,i+1))))))) (.ps 1000003 [.k [8] [0]] (.ret (.inr (fA::fB))))) (by kernel_rfl)
def Am (t:Tape) (x0:List Rat×Int) (out:List Edge) (i:Nat):Option (List Edge):=aI (fun (σ:List Edge×Nat)=>EC t x0 σ.1 σ.2) FU (out,i)
theorem Nq (t:Tape) (x0:List Rat×Int) (out:List Edge) (i:Nat):∀y:List Edge,Am t x0 out i=some y→Runs Tryz.prog (.loop (nav [1,1,1,1,0,1,0,0] (ah Tryz.f27))) (tV t x0 out i) ((.exit 0)) ((fun (y:List Edge)=>tX t x0 y) y):=
 bf (head:=fun (σ:List Edge×Nat)=>tV t x0 σ.1 σ.2) (eo:=fun (_:List Edge)=>(.exit 0)) (so:=fun (y:List Edge)=>tX t x0 y) (NY t x0) (fun _ h=>by cases h) FU (out,i)
def sV (t:Tape) (x:List Rat):Option (List Edge×Int):=
 (lY t x).bind fun x0=>
 bif x0.2 != 0 then
 some ([],x0.2)
 else
 (Am t x0 [] 0).bind fun x1=>
 bif x1.isEmpty then
 (xg).bind fun x2=>
 some ([],0)
 else
 (lX x1).bind fun x2=>
 bif !x2.isEmpty then
 some (x2,0)
 else none
theorem QC (t:Tape) (x:List Rat):∀r,sV t x=some r→aj Tryz.prog 27 0 [AG Tape.D t,SL Rat.D x] [] (.tup [dw 0 r.1,I r.2]) [(0,dO 5 Edge.D r.1)]:=
 au (enc:=fun r=>.tup [dw 0 r.1,I r.2]) (aQ:=fun r=>[(0,dO 5 Edge.D r.1)]) 10 (.call [] [] (F5 t x) .no fun x0=>.br 100000018 (.ret ([],x0.2)) (.op 50004 (.ln TOp.D t.Ops) (.ps 1000001 [.k [2,6,8,21,22,23] [0,10]] (.lp1 0 (Nq t x0 [] 0) fun x1=>.cl 1 8 0 5 Edge.D x1 (.ps 1 [.k [8] []] (.call [] [] (L8) .no fun x2=>.ret ([],0))) (.ps 1 [.k [8] [0]] (.call [0] [] (Vu x1) .no fun x2=>.ow 1000003 4 0 5 Edge.D x2 .no (.ret (x2,0)))))))) Tryz.func27 (by kernel_rfl) (by kernel_rfl) (by kernel_rfl) (fun r=>by generalize r.1=l0;cases l0<;>rfl)
def dF (t:Tape) (x:List Rat):Option ((List Edge×Int)⊕(List Edge×Int)):=(sV t x).bind fun r=>bif r.1.isEmpty then some (.inl r) else some (.inr r)
theorem Ns (t:Tape) (x:List Rat):∀y,dF t x=some y→aj Tryz.prog 27 0 [AG Tape.D t,SL Rat.D x] [] (aK y (fun r=>.tup [fJ,I r.2]) (fun r=>.tup [.msl 0 0 none none,I r.2])) (aK y (fun r=>[(0,none)]) (fun r=>[(0,ROW 5 Edge.D r.1 0)])):=by
 intro y h
 unfold dF at h
 cases hx:sV t x with
 | none=>rw[hx] at h;cases h
 | some r=>
  rw[hx] at h
  have hc:=QC t x r hx
  obtain ⟨r0,r1⟩:=r
  cases r0 with
  | nil=>cases h;exact hc
  | cons a t=>cases h;exact hc
def xH (t:Tape) (i:Nat) (g:List Edge):St:=⟨60,0,[(4,.ptr 11 0 0),(8,.ptr 12 0 0),(32,SL (cI .i64) t.aB),(33,I ((t.aB.length:Nat):Int)),(34,I ((i:Nat):Int))],[(11,BOX [I 0,I 0,I 0,fJ,fJ]),(12,BOX [I t.Ins,I ((t.Ops.length:Nat):Int),I ((t.aB.length:Nat):Int),dw 100025 g,fJ]),(100025,dO 5 Edge.D g)]⟩
def xQ (t:Tape) (g:List Edge):St:=⟨60,0,[(4,.ptr 11 0 0),(8,.ptr 12 0 0)],[(11,BOX [I 0,I 0,I 0,fJ,fJ]),(12,BOX [I t.Ins,I ((t.Ops.length:Nat):Int),I ((t.aB.length:Nat):Int),dw 100025 g,fJ]),(100025,dO 5 Edge.D g)]⟩
def jK (t:Tape) (i:Nat) (g:List Edge):Option ((Nat×List Edge)⊕(List Edge)):=
 bif decide (((i:Nat):Int)<((t.aB.length:Nat):Int)) then
 bif decide (i<t.aB.length) then
 bif inK .i64 (t.Ins+((t.Ops.length:Nat):Int)) then
 bif inK .i64 ((t.Ins+((t.Ops.length:Nat):Int))+((i:Nat):Int)) then
 (gJ 1).bind fun x2=>
 bif decide (g.length+1≤2147483648) then
 bif inK .i64 (((i:Nat):Int)+1) then
 some (.inl (i+1,g++[Edge.mk (nth t.aB i) ((t.Ins+((t.Ops.length:Nat):Int))+((i:Nat):Int)) x2]))
 else none
 else none
 else none
 else none
 else none
 else
 some (.inr g)
theorem QW (t:Tape):∀σ:Nat×List Edge,aP Tryz.prog (nav [1,1,1,1,0,1,0,0] (ah Tryz.f42)) (fun (σ:Nat×List Edge)=>xH t σ.1 σ.2) (fun (_:List Edge)=>(.exit 0)) (fun (y:List Edge)=>xQ t y) σ (jK t σ.1 σ.2)
 | (i,[])=>aJ 1010 (.br 100000035 (.op 70002 (.el (cI .i64) t.aB (.up i)) (.call [] [] (fE 1) .no fun x2=>.op 80026 (.ap Edge.D [] [Edge.mk (nth t.aB i) ((t.Ins+((t.Ops.length:Nat):Int))+((i:Nat):Int)) x2] 5 fun _=>⟨rfl,rfl⟩) (.ps 1000003 [.k [4,8,32,33,34] [11,12,1011],.m 1011 100025] (.ret (.inl (i+1,[Edge.mk (nth t.aB i) ((t.Ins+((t.Ops.length:Nat):Int))+((i:Nat):Int)) x2])))))) (.ps 1000003 [.k [4,8] [11,12,100025]] (.ret (.inr [])))) (by kernel_rfl)
 | (i,g_h::g_t)=>aJ 1010 (.br 100000035 (.op 70002 (.el (cI .i64) t.aB (.up i)) (.call [] [] (fE 1) .no fun x2=>.op 80026 (.ap Edge.D (g_h::g_t) [Edge.mk (nth t.aB i) ((t.Ins+((t.Ops.length:Nat):Int))+((i:Nat):Int)) x2] 5 fun _=>⟨rfl,rfl⟩) (.ps 1000003 [.k [4,8,32,33,34] [11,12,1011],.m 1011 100025] (.ret (.inl (i+1,(g_h::g_t)++[Edge.mk (nth t.aB i) ((t.Ins+((t.Ops.length:Nat):Int))+((i:Nat):Int)) x2])))))) (.ps 1000003 [.k [4,8] [11,12,100025]] (.ret (.inr (g_h::g_t))))) (by kernel_rfl)
def oV (t:Tape) (i:Nat) (g:List Edge):Option (List Edge):=aI (fun (σ:Nat×List Edge)=>jK t σ.1 σ.2) FU (i,g)
theorem Gp (t:Tape) (i:Nat) (g:List Edge):∀y:List Edge,oV t i g=some y→Runs Tryz.prog (.loop (nav [1,1,1,1,0,1,0,0] (ah Tryz.f42))) (xH t i g) ((.exit 0)) ((fun (y:List Edge)=>xQ t y) y):=
 bf (head:=fun (σ:Nat×List Edge)=>xH t σ.1 σ.2) (eo:=fun (_:List Edge)=>(.exit 0)) (so:=fun (y:List Edge)=>xQ t y) (QW t) (fun _ h=>by cases h) FU (i,g)
def xM (tA:Graph) (i:Nat) (o:List Bool) (o1:List Bool):St:=⟨112,0,[(1,.ptr 10 0 0),(2,.ptr 11 0 0),(4,.ptr 14 0 0),(5,.ptr 15 0 0),(26,I ((tA.Ins+tA.bg)+tA.aB)),(27,I ((i:Nat):Int))],[(10,BOX [I tA.Ins,I tA.bg,I tA.aB,SL Edge.D tA.Edges,SL (cI .i64) tA.Gone]),(11,BOX [I 0,I 0,I 0,fJ,fJ]),(12,ROW 1 cB o 0),(13,ROW 1 cB o1 0),(14,BOX [.msl 12 0 none (some (((tA.Ins+tA.bg)+tA.aB).toNat))]),(15,BOX [.msl 13 0 none (some (((tA.Ins+tA.bg)+tA.aB).toNat))])]⟩
def xW (tA:Graph) (o:List Bool) (o1:List Bool):St:=⟨112,0,[(1,.ptr 10 0 0),(2,.ptr 11 0 0),(4,.ptr 14 0 0),(5,.ptr 15 0 0)],[(10,BOX [I tA.Ins,I tA.bg,I tA.aB,SL Edge.D tA.Edges,SL (cI .i64) tA.Gone]),(11,BOX [I 0,I 0,I 0,fJ,fJ]),(12,ROW 1 cB o 0),(13,ROW 1 cB o1 0),(14,BOX [.msl 12 0 none (some (((tA.Ins+tA.bg)+tA.aB).toNat))]),(15,BOX [.msl 13 0 none (some (((tA.Ins+tA.bg)+tA.aB).toNat))])]⟩
def jO (tA:Graph) (i:Nat) (o:List Bool) (o1:List Bool):Option ((Nat×List Bool×List Bool)⊕(List Bool×List Bool)):=
 bif decide (((i:Nat):Int)<((tA.Ins+tA.bg)+tA.aB)) then
 bif inK .i64 (tA.Ins+tA.bg) then
 bif decide (i<o.length) then
 bif decide (i<o.length) then
 bif decide (i<o1.length) then
 bif decide (i<o1.length) then
 bif inK .i64 (((i:Nat):Int)+1) then
 some (.inl (i+1,o.set i (decide (((i:Nat):Int)<tA.Ins)),o1.set i (decide (((i:Nat):Int)≥(tA.Ins+tA.bg)))))
 else none
 else none
 else none
 else none
 else none
 else none
 else
 some (.inr (o,o1))
theorem Q7 (tA:Graph):∀σ:Nat×List Bool×List Bool,aP Tryz.prog (nav [1,1,1,1,0,1,0,0] (ah Tryz.f104)) (fun (σ:Nat×List Bool×List Bool)=>xM tA σ.1 σ.2.1 σ.2.2) (fun (_:List Bool×List Bool)=>(.exit 0)) (fun (y:List Bool×List Bool)=>xW tA y.1 y.2) σ (jO tA σ.1 σ.2.1 σ.2.2)
 | (i,o,o1)=>aJ 1010 (.br 100000028 (.op 80030 (.el cB o (.up i)) (.op 80032 (.st cB o (decide (((i:Nat):Int)<tA.Ins))) (.op 80034 (.el cB o1 (.up i)) (.op 80036 (.st cB o1 (decide (((i:Nat):Int)≥(tA.Ins+tA.bg)))) (.ps 1000003 [.k [1,2,4,5,26,27] [10,11,12,13,14,15]] (.ret (.inl (i+1,o.set i (decide (((i:Nat):Int)<tA.Ins)),o1.set i (decide (((i:Nat):Int)≥(tA.Ins+tA.bg))))))))))) (.ps 1000003 [.k [1,2,4,5] [10,11,12,13,14,15]] (.ret (.inr (o,o1))))) (by kernel_rfl)
def FZ (tA:Graph) (i:Nat) (o:List Bool) (o1:List Bool):Option (List Bool×List Bool):=aI (fun (σ:Nat×List Bool×List Bool)=>jO tA σ.1 σ.2.1 σ.2.2) FU (i,o,o1)
theorem Qd (tA:Graph) (i:Nat) (o:List Bool) (o1:List Bool):∀y:List Bool×List Bool,FZ tA i o o1=some y→Runs Tryz.prog (.loop (nav [1,1,1,1,0,1,0,0] (ah Tryz.f104))) (xM tA i o o1) ((.exit 0)) ((fun (y:List Bool×List Bool)=>xW tA y.1 y.2) y):=
 bf (head:=fun (σ:Nat×List Bool×List Bool)=>xM tA σ.1 σ.2.1 σ.2.2) (eo:=fun (_:List Bool×List Bool)=>(.exit 0)) (so:=fun (y:List Bool×List Bool)=>xW tA y.1 y.2) (Q7 tA) (fun _ h=>by cases h) FU (i,o,o1)
def uy (tA:Graph) (i:Nat) (o:List Bool) (o1:List Bool):St:=⟨112,0,[(1,.ptr 10 0 0),(2,.ptr 11 0 0),(4,.ptr 14 0 0),(5,.ptr 15 0 0),(50,I ((tA.Edges.length:Nat):Int)),(51,I ((i:Nat):Int))],[(10,BOX [I tA.Ins,I tA.bg,I tA.aB,SL Edge.D tA.Edges,SL (cI .i64) tA.Gone]),(11,BOX [I 0,I 0,I 0,fJ,fJ]),(12,ROW 1 cB o 0),(13,ROW 1 cB o1 0),(14,BOX [.msl 12 0 none (some (((tA.Ins+tA.bg)+tA.aB).toNat))]),(15,BOX [.msl 13 0 none (some (((tA.Ins+tA.bg)+tA.aB).toNat))])]⟩
def uf (tA:Graph) (o:List Bool) (o1:List Bool):St:=⟨112,0,[(1,.ptr 10 0 0),(2,.ptr 11 0 0),(4,.ptr 14 0 0),(5,.ptr 15 0 0)],[(10,BOX [I tA.Ins,I tA.bg,I tA.aB,SL Edge.D tA.Edges,SL (cI .i64) tA.Gone]),(11,BOX [I 0,I 0,I 0,fJ,fJ]),(12,ROW 1 cB o 0),(13,ROW 1 cB o1 0),(14,BOX [.msl 12 0 none (some (((tA.Ins+tA.bg)+tA.aB).toNat))]),(15,BOX [.msl 13 0 none (some (((tA.Ins+tA.bg)+tA.aB).toNat))])]⟩
def iH (tA:Graph) (i:Nat) (o:List Bool) (o1:List Bool):Option ((Nat×List Bool×List Bool)⊕(List Bool×List Bool)):=
 bif decide (((i:Nat):Int)<((tA.Edges.length:Nat):Int)) then
 bif decide (i<tA.Edges.length) then
 bif inK .i64 (((tA.Edges.length:Nat):Int)-1) then
 bif inK .i64 ((((tA.Edges.length:Nat):Int)-1)-((i:Nat):Int)) then
 bif decide (0≤(((tA.Edges.length:Nat):Int)-1)-((i:Nat):Int)) then
 bif decide (((((tA.Edges.length:Nat):Int)-1)-((i:Nat):Int)).toNat<tA.Edges.length) then
 bif decide (0≤(nth tA.Edges i).To) then
 bif decide (((nth tA.Edges i).To).toNat<o.length) then
 bif decide (((nth tA.Edges i).To).toNat<o.length) then
 bif nth o (((nth tA.Edges i).To).toNat) then
 bif decide (0≤(nth tA.Edges i).To) then
 bif decide (((nth tA.Edges i).To).toNat<o.length) then
 bif decide (((nth tA.Edges i).To).toNat<o.length) then
 bif decide (0≤(nth tA.Edges (((((tA.Edges.length:Nat):Int)-1)-((i:Nat):Int)).toNat)).From) then
 bif decide (((nth tA.Edges (((((tA.Edges.length:Nat):Int)-1)-((i:Nat):Int)).toNat)).From).toNat<o1.length) then
 bif decide (((nth tA.Edges (((((tA.Edges.length:Nat):Int)-1)-((i:Nat):Int)).toNat)).From).toNat<o1.length) then
 bif nth o1 (((nth tA.Edges (((((tA.Edges.length:Nat):Int)-1)-((i:Nat):Int)).toNat)).From).toNat) then
 bif decide (0≤(nth tA.Edges (((((tA.Edges.length:Nat):Int)-1)-((i:Nat):Int)).toNat)).From) then
 bif decide (((nth tA.Edges (((((tA.Edges.length:Nat):Int)-1)-((i:Nat):Int)).toNat)).From).toNat<o1.length) then
 bif decide (((nth tA.Edges (((((tA.Edges.length:Nat):Int)-1)-((i:Nat):Int)).toNat)).From).toNat<o1.length) then
 bif inK .i64 (((i:Nat):Int)+1) then
 some (.inl (i+1,o.set (((nth tA.Edges i).To).toNat) true,o1.set (((nth tA.Edges (((((tA.Edges.length:Nat):Int)-1)-((i:Nat):Int)).toNat)).From).toNat) true))
 else none
 else none
 else none
 else none
 else
 bif decide (0≤(nth tA.Edges (((((tA.Edges.length:Nat):Int)-1)-((i:Nat):Int)).toNat)).To) then
 bif decide (((nth tA.Edges (((((tA.Edges.length:Nat):Int)-1)-((i:Nat):Int)).toNat)).To).toNat<o1.length) then
 bif decide (((nth tA.Edges (((((tA.Edges.length:Nat):Int)-1)-((i:Nat):Int)).toNat)).To).toNat<o1.length) then
 bif decide (0≤(nth tA.Edges (((((tA.Edges.length:Nat):Int)-1)-((i:Nat):Int)).toNat)).From) then
 bif decide (((nth tA.Edges (((((tA.Edges.length:Nat):Int)-1)-((i:Nat):Int)).toNat)).From).toNat<o1.length) then
 bif decide (((nth tA.Edges (((((tA.Edges.length:Nat):Int)-1)-((i:Nat):Int)).toNat)).From).toNat<o1.length) then
 bif inK .i64 (((i:Nat):Int)+1) then
 some (.inl (i+1,o.set (((nth tA.Edges i).To).toNat) true,o1.set (((nth tA.Edges (((((tA.Edges.length:Nat):Int)-1)-((i:Nat):Int)).toNat)).From).toNat) (nth o1 (((nth tA.Edges (((((tA.Edges.length:Nat):Int)-1)-((i:Nat):Int)).toNat)).To).toNat))))
 else none
 else none
 else none
 else none
 else none
 else none
 else none
 else none
 else none
 else none
 else none
 else none
 else none
 else
 bif decide (0≤(nth tA.Edges i).From) then
 bif decide (((nth tA.Edges i).From).toNat<o.length) then
 bif decide (((nth tA.Edges i).From).toNat<o.length) then
 bif decide (0≤(nth tA.Edges i).To) then
 bif decide (((nth tA.Edges i).To).toNat<o.length) then
 bif decide (((nth tA.Edges i).To).toNat<o.length) then
 bif decide (0≤(nth tA.Edges (((((tA.Edges.length:Nat):Int)-1)-((i:Nat):Int)).toNat)).From) then
 bif decide (((nth tA.Edges (((((tA.Edges.length:Nat):Int)-1)-((i:Nat):Int)).toNat)).From).toNat<o1.length) then
 bif decide (((nth tA.Edges (((((tA.Edges.length:Nat):Int)-1)-((i:Nat):Int)).toNat)).From).toNat<o1.length) then
 bif nth o1 (((nth tA.Edges (((((tA.Edges.length:Nat):Int)-1)-((i:Nat):Int)).toNat)).From).toNat) then
 bif decide (0≤(nth tA.Edges (((((tA.Edges.length:Nat):Int)-1)-((i:Nat):Int)).toNat)).From) then
 bif decide (((nth tA.Edges (((((tA.Edges.length:Nat):Int)-1)-((i:Nat):Int)).toNat)).From).toNat<o1.length) then
 bif decide (((nth tA.Edges (((((tA.Edges.length:Nat):Int)-1)-((i:Nat):Int)).toNat)).From).toNat<o1.length) then
 bif inK .i64 (((i:Nat):Int)+1) then
 some (.inl (i+1,o.set (((nth tA.Edges i).To).toNat) (nth o (((nth tA.Edges i).From).toNat)),o1.set (((nth tA.Edges (((((tA.Edges.length:Nat):Int)-1)-((i:Nat):Int)).toNat)).From).toNat) true))
 else none
 else none
 else none
 else none
 else
 bif decide (0≤(nth tA.Edges (((((tA.Edges.length:Nat):Int)-1)-((i:Nat):Int)).toNat)).To) then
 bif decide (((nth tA.Edges (((((tA.Edges.length:Nat):Int)-1)-((i:Nat):Int)).toNat)).To).toNat<o1.length) then
 bif decide (((nth tA.Edges (((((tA.Edges.length:Nat):Int)-1)-((i:Nat):Int)).toNat)).To).toNat<o1.length) then
 bif decide (0≤(nth tA.Edges (((((tA.Edges.length:Nat):Int)-1)-((i:Nat):Int)).toNat)).From) then
 bif decide (((nth tA.Edges (((((tA.Edges.length:Nat):Int)-1)-((i:Nat):Int)).toNat)).From).toNat<o1.length) then
 bif decide (((nth tA.Edges (((((tA.Edges.length:Nat):Int)-1)-((i:Nat):Int)).toNat)).From).toNat<o1.length) then
 bif inK .i64 (((i:Nat):Int)+1) then
 some (.inl (i+1,o.set (((nth tA.Edges i).To).toNat) (nth o (((nth tA.Edges i).From).toNat)),o1.set (((nth tA.Edges (((((tA.Edges.length:Nat):Int)-1)-((i:Nat):Int)).toNat)).From).toNat) (nth o1 (((nth tA.Edges (((((tA.Edges.length:Nat):Int)-1)-((i:Nat):Int)).toNat)).To).toNat))))
 else none
 else none
 else none
 else none
 else none
 else none
 else none
 else none
 else none
 else none
 else none
 else none
 else none
 else none
 else none
 else none
 else none
 else none
 else none
 else none
 else none
 else none
 else none
 else none
 else
 some (.inr (o,o1))
theorem MZ (tA:Graph):∀σ:Nat×List Bool×List Bool,aP Tryz.prog (nav [1,1,1,1,1,0,1,0,0] (ah Tryz.f104)) (fun (σ:Nat×List Bool×List Bool)=>uy tA σ.1 σ.2.1 σ.2.2) (fun (_:List Bool×List Bool)=>(.exit 2)) (fun (y:List Bool×List Bool)=>uf tA y.1 y.2) σ (iH tA σ.1 σ.2.1 σ.2.2)
 | (i,o,o1)=>aJ 1010 (.br 100000052 (.op 130006 (.el Edge.D tA.Edges (.up i)) (.op 130018 (.ln Edge.D tA.Edges) (.op 130026 (.el Edge.D tA.Edges .dn) (.op 140012 (.el cB o .dn) (.op 140014 (.ld cB o) (.br 140018 (.op 140030 (.el cB o .dn) (.op 140032 (.st cB o true) (.op 150012 (.el cB o1 .dn) (.op 150014 (.ld cB o1) (.br 150018 (.op 150030 (.el cB o1 .dn) (.op 150032 (.st cB o1 true) (.ps 1000003 [.k [1,2,4,5,50,51] [10,11,12,13,14,15]] (.ret (.inl (i+1,o.set (((nth tA.Edges i).To).toNat) true,o1.set (((nth tA.Edges (((((tA.Edges.length:Nat):Int)-1)-((i:Nat):Int)).toNat)).From).toNat) true)))))) (.op 150024 (.el cB o1 .dn) (.op 150026 (.ld cB o1) (.op 150030 (.el cB o1 .dn) (.op 150032 (.st cB o1 (nth o1 (((nth tA.Edges (((((tA.Edges.length:Nat):Int)-1)-((i:Nat):Int)).toNat)).To).toNat))) (.ps 1000003 [.k [1,2,4,5,50,51] [10,11,12,13,14,15]] (.ret (.inl (i+1,o.set (((nth tA.Edges i).To).toNat) true,o1.set (((nth tA.Edges (((((tA.Edges.length:Nat):Int)-1)-((i:Nat):Int)).toNat)).From).toNat) (nth o1 (((nth tA.Edges (((((tA.Edges.length:Nat):Int)-1)-((i:Nat):Int)).toNat)).To).toNat))))))))))))))) (.op 140024 (.el cB o .dn) (.op 140026 (.ld cB o) (.op 140030 (.el cB o .dn) (.op 140032 (.st cB o (nth o (((nth tA.Edges i).From).toNat))) (.op 150012 (.el cB o1 .dn) (.op 150014 (.ld cB o1) (.br 150018 (.op 150030 (.el cB o1 .dn) (.op 150032 (.st cB o1 true) (.ps 1000003 [.k [1,2,4,5,50,51] [10,11,12,13,14,15]] (.ret (.inl (i+1,o.set (((nth tA.Edges i).To).toNat) (nth o (((nth tA.Edges i).From).toNat)),o1.set (((nth tA.Edges (((((tA.Edges.length:Nat):Int)-1)-((i:Nat):Int)).toNat)).From).toNat) true)))))) (.op 150024 (.el cB o1 .dn) (.op 150026 (.ld cB o1) (.op 150030 (.el cB o1 .dn) (.op 150032 (.st cB o1 (nth o1 (((nth tA.Edges (((((tA.Edges.length:Nat):Int)-1)-((i:Nat):Int)).toNat)).To).toNat))) (.ps 1000003 [.k [1,2,4,5,50,51] [10,11,12,13,14,15]] (.ret (.inl (i+1,o.set (((nth tA.Edges i).To).toNat) (nth o (((nth tA.Edges i).From).toNat)),o1.set (((nth tA.Edges (((((tA.Edges.length:Nat):Int)-1)-((i:Nat):Int)).toNat)).From).toNat) (nth o1 (((nth tA.Edges (((((tA.Edges.length:Nat):Int)-1)-((i:Nat):Int)).toNat)).To).toNat))))))))))))))))))))))) (.ps 1000003 [.k [1,2,4,5] [10,11,12,13,14,15]] (.ret (.inr (o,o1))))) (by kernel_rfl)
def Ar (tA:Graph) (i:Nat) (o:List Bool) (o1:List Bool):Option (List Bool×List Bool):=aI (fun (σ:Nat×List Bool×List Bool)=>iH tA σ.1 σ.2.1 σ.2.2) FU (i,o,o1)
theorem NU (tA:Graph) (i:Nat) (o:List Bool) (o1:List Bool):∀y:List Bool×List Bool,Ar tA i o o1=some y→Runs Tryz.prog (.loop (nav [1,1,1,1,1,0,1,0,0] (ah Tryz.f104))) (uy tA i o o1) ((.exit 2)) ((fun (y:List Bool×List Bool)=>uf tA y.1 y.2) y):=
 bf (head:=fun (σ:Nat×List Bool×List Bool)=>uy tA σ.1 σ.2.1 σ.2.2) (eo:=fun (_:List Bool×List Bool)=>(.exit 2)) (so:=fun (y:List Bool×List Bool)=>uf tA y.1 y.2) (MZ tA) (fun _ h=>by cases h) FU (i,o,o1)
def yT (o0:List Bool) (o1:List Bool) (w:Edge):Option Bool:=
 bif decide (0≤w.From) then
 bif decide (w.From.toNat<o0.length) then
 bif nth o0 w.From.toNat then
 bif decide (0≤w.To) then
 bif decide (w.To.toNat<o1.length) then
 some (nth o1 w.To.toNat)
 else none
 else none
 else
 some false
 else none
 else none
theorem G7 (o0:List Bool) (o1:List Bool) (w:Edge):∀r,yT o0 o1 w=some r→aj Tryz.prog 166 2 [AG Edge.D w,.ptr 0 0 0,.ptr 1 0 0] [(0,BOX [SL cB o0]),(1,BOX [SL cB o1])] (B r) [(0,BOX [SL cB o0]),(1,BOX [SL cB o1])]:=
 au (enc:=fun r=>B r) (aQ:=fun r=>[(0,BOX [SL cB o0]),(1,BOX [SL cB o1])]) 10 (.op 10006 (.el cB o0 .dn) (.br 10012 (.op 10018 (.el cB o1 .dn) (.ret (nth o1 w.To.toNat))) (.ret false))) Tryz.func166 (by kernel_rfl) (by kernel_rfl) (by kernel_rfl)
def jW (o0:List Bool) (o1:List Bool) (l:List Edge) (out:List Edge) (i:Nat):St:=⟨23,2,[(1,.fn (.func 166) [] [.ptr 0 0 0,.ptr 1 0 0]),(5,dw 100026 out),(8,SL Edge.D l),(9,I ((l.length:Nat):Int)),(10,I ((i:Nat):Int))],[(0,BOX [SL cB o0]),(1,BOX [SL cB o1]),(100026,dO 5 Edge.D out)]⟩
def kH (o0:List Bool) (o1:List Bool) (l:List Edge) (out:List Edge):St:=⟨23,2,[(5,dw 100026 out)],[(0,BOX [SL cB o0]),(1,BOX [SL cB o1]),(100026,dO 5 Edge.D out)]⟩
def bT (o0:List Bool) (o1:List Bool) (l:List Edge) (out:List Edge) (i:Nat):Option ((List Edge×Nat)⊕(List Edge)):=
 bif decide (((i:Nat):Int)<((l.length:Nat):Int)) then
 bif decide (i<l.length) then
 (yT o0 o1 (nth l i)).bind fun x0=>
 bif x0 then
 bif decide (out.length+1≤2147483648) then
 bif inK .i64 (((i:Nat):Int)+1) then
 some (.inl (out++[nth l i],i+1))
 else none
 else none
 else
 bif inK .i64 (((i:Nat):Int)+1) then
 some (.inl (out,i+1))
 else none
 else none
 else
 some (.inr out)
theorem DW (o0:List Bool) (o1:List Bool) (l:List Edge):∀σ:List Edge×Nat,aP Tryz.prog (nav [1,1,0,1,0,0] (ah Tryz.f117)) (fun (σ:List Edge×Nat)=>jW o0 o1 l σ.1 σ.2) (fun (_:List Edge)=>(.exit 0)) (fun (y:List Edge)=>kH o0 o1 l y) σ (bT o0 o1 l σ.1 σ.2)
 | ([],i)=>aJ 1010 (.br 100000011 (.op 40000 (.el Edge.D l (.up i)) (.call [0,1] [] (G7 o0 o1 (nth l i)) .no fun x0=>.br 100000016 (.op 60006 (.ap Edge.D [] [nth l i] 5 fun _=>⟨rfl,rfl⟩) (.ps 1000003 [.k [1,5,8,9,10] [0,1,1012],.m 1012 100026] (.ret (.inl ([nth l i],i+1))))) (.ps 1000003 [.k [1,5,8,9,10] [0,1,100026]] (.ret (.inl ([],i+1)))))) (.ps 1000003 [.k [5] [0,1,100026]] (.ret (.inr [])))) (by kernel_rfl)
 | (fA::fB,i)=>aJ 1010 (.br 100000011 (.op 40000 (.el Edge.D l (.up i)) (.call [0,1] [] (G7 o0 o1 (nth l i)) .no fun x0=>.br 100000016 (.op 60006 (.ap Edge.D (fA::fB) [nth l i] 5 fun _=>⟨rfl,rfl⟩) (.ps 1000003 [.k [1,5,8,9,10] [0,1,1012],.m 1012 100026] (.ret (.inl ((fA::fB)++[nth l i],i+1))))) (.ps 1000003 [.k [1,5,8,9,10] [0,1,100026]] (.ret (.inl ((fA::fB),i+1)))))) (.ps 1000003 [.k [5] [0,1,100026]] (.ret (.inr (fA::fB))))) (by kernel_rfl)
def mG (o0:List Bool) (o1:List Bool) (l:List Edge) (out:List Edge) (i:Nat):Option (List Edge):=aI (fun (σ:List Edge×Nat)=>bT o0 o1 l σ.1 σ.2) FU (out,i)
theorem Et (o0:List Bool) (o1:List Bool) (l:List Edge) (out:List Edge) (i:Nat):∀y:List Edge,mG o0 o1 l out i=some y→Runs Tryz.prog (.loop (nav [1,1,0,1,0,0] (ah Tryz.f117))) (jW o0 o1 l out i) ((.exit 0)) ((fun (y:List Edge)=>kH o0 o1 l y) y):=
 bf (head:=fun (σ:List Edge×Nat)=>jW o0 o1 l σ.1 σ.2) (eo:=fun (_:List Edge)=>(.exit 0)) (so:=fun (y:List Edge)=>kH o0 o1 l y) (DW o0 o1 l) (fun _ h=>by cases h) FU (out,i)
def kJ (o0:List Bool) (o1:List Bool) (l:List Edge):Option (List Edge):=
 (mG o0 o1 l [] 0).bind fun x0=>
 some x0
theorem FM (o0:List Bool) (o1:List Bool) (l:List Edge):∀r,kJ o0 o1 l=some r→aj Tryz.prog 117 2 [SL Edge.D l,.fn (.func 166) [] [.ptr 0 0 0,.ptr 1 0 0]] [(0,BOX [SL cB o0]),(1,BOX [SL cB o1])] (SL Edge.D r) [(0,BOX [SL cB o0]),(1,BOX [SL cB o1])]:=
 au (enc:=fun r=>SL Edge.D r) (aQ:=fun r=>[(0,BOX [SL cB o0]),(1,BOX [SL cB o1])]) 10 (.op 20002 (.ln Edge.D l) (.ps 1000001 [.k [1,5,8,9,10] [0,1,100026]] (.lp1 0 (Et o0 o1 l [] 0) fun x0=>.oz 1 5 100026 5 Edge.D x0 (.ps 1 [.k [5] [0,1]] (.ret x0))))) Tryz.func117 (by kernel_rfl) (by kernel_rfl) (by kernel_rfl)
def lT (tA:Graph):Option Graph:=
 (jI tA).bind fun x0=>
 bif !x0 then
 some (Graph.mk 0 0 0 [] [])
 else
 bif inK .i64 (tA.Ins+tA.bg) then
 bif inK .i64 ((tA.Ins+tA.bg)+tA.aB) then
 bif decide (0≤(tA.Ins+tA.bg)+tA.aB) then
 bif decide (((tA.Ins+tA.bg)+tA.aB).toNat≤2147483648) then
 bif decide (0≤(tA.Ins+tA.bg)+tA.aB) then
 bif decide (((tA.Ins+tA.bg)+tA.aB).toNat≤2147483648) then
 (FZ tA 0 (List.replicate (((tA.Ins+tA.bg)+tA.aB).toNat) false) (List.replicate (((tA.Ins+tA.bg)+tA.aB).toNat) false)).bind fun x1=>
 (Ar tA 0 x1.1 x1.2).bind fun x2=>
 (dL tA.Gone).bind fun x3=>
 (kJ x2.1 x2.2 tA.Edges).bind fun x4=>
 some (Graph.mk tA.Ins tA.bg tA.aB x4 x3)
 else none
 else none
 else none
 else none
 else none
 else none
theorem vU (tA:Graph):∀r,lT tA=some r→aj Tryz.prog 104 0 [AG Graph.D tA] [] (AG Graph.D r) []:=
 au (enc:=fun r=>AG Graph.D r) (aQ:=fun r=>[]) 10 (.call [] [] (mX tA) .no fun x0=>.br 100000012 (.ps 1000003 [.b 11] (.ret (Graph.mk 0 0 0 [] []))) (.op 40002 (.mk cB false .dn) (.op 40006 (.mk cB false .dn) (.ps 1000001 [.k [1,2,4,5,26,27] [10,11,12,13,14,15]] (.lp1 0 (Qd tA 0 (List.replicate (((tA.Ins+tA.bg)+tA.aB).toNat) false) (List.replicate (((tA.Ins+tA.bg)+tA.aB).toNat) false)) fun x1=>.op 100004 (.ln Edge.D tA.Edges) (.ps 1000001 [.k [1,2,4,5,50,51] [10,11,12,13,14,15]] (.lp1 0 (NU tA 0 x1.1 x1.2) fun x2=>.call [] [] (Gt tA.Gone) .no fun x3=>.call [14,15] [] (FM x2.1 x2.2 tA.Edges) .no fun x4=>.ret (Graph.mk tA.Ins tA.bg tA.aB x4 x3)))))))) Tryz.func104 (by kernel_rfl) (by kernel_rfl) (by kernel_rfl)
def fU (t:Tape) (x:List Rat):Option (Graph×Int):=
 (dF t x).bind fun y_=>aK y_ (fun x0=>
 bif x0.2 != 0 then
 some (Graph.mk 0 0 0 [] [],x0.2)
 else
 (oV t 0 []).bind fun x2=>
 bif x2.isEmpty then
 (xg).bind fun x3=>
 (lT (Graph.mk t.Ins ((t.Ops.length:Nat):Int) ((t.aB.length:Nat):Int) [] [])).bind fun x4=>
 some (x4,0)
 else
 (lX x2).bind fun x3=>
 (lT (Graph.mk t.Ins ((t.Ops.length:Nat):Int) ((t.aB.length:Nat):Int) x3 [])).bind fun x4=>
 some (x4,0))
 (fun x1=>
 bif x1.2 != 0 then
 some (Graph.mk 0 0 0 [] [],x1.2)
 else
 bif !x1.1.isEmpty then
 (oV t 0 x1.1).bind fun x2=>
 bif x2.isEmpty then
 (xg).bind fun x3=>
 (lT (Graph.mk t.Ins ((t.Ops.length:Nat):Int) ((t.aB.length:Nat):Int) [] [])).bind fun x4=>
 some (x4,0)
 else
 (lX x2).bind fun x3=>
 (lT (Graph.mk t.Ins ((t.Ops.length:Nat):Int) ((t.aB.length:Nat):Int) x3 [])).bind fun x4=>
 some (x4,0)
 else none)
theorem J6 (t:Tape) (x:List Rat):∀r,fU t x=some r→aj Tryz.prog 42 0 [AG Tape.D t,SL Rat.D x] [] (.tup [AG Graph.D r.1,I r.2]) []:=
 au (enc:=fun r=>.tup [AG Graph.D r.1,I r.2]) (aQ:=fun r=>[]) 10 (.acj [] [100024] (Ns t x) .no (fun x0=>.br 100000018 (.ps 1000003 [.b 11] (.ret (Graph.mk 0 0 0 [] [],x0.2))) (.op 40008 (.ln TOp.D t.Ops) (.op 40014 (.ln (cI .i64) t.aB) (.op 50004 (.ln (cI .i64) t.aB) (.ps 1000001 [.k [4,8,32,33,34] [11,12,100025]] (.lp1 0 (Gp t 0 []) fun x2=>.cb 1 12 3 100025 5 Edge.D x2 (.ps 1 [.k [4,8] [11,12]] (.call [] [] (AV) .no fun x3=>.call [] [] (vU (Graph.mk t.Ins ((t.Ops.length:Nat):Int) ((t.aB.length:Nat):Int) [] [])) .no fun x4=>.ret (x4,0))) (.ps 1 [.k [4,8] [11,12,100025]] (.call [100025] [] (JF x2) .no fun x3=>.call [] [] (vU (Graph.mk t.Ins ((t.Ops.length:Nat):Int) ((t.aB.length:Nat):Int) x3 [])) .no fun x4=>.ret (x4,0))))))))) (fun x1=>.br 100000018 (.ps 1000003 [.b 11] (.ret (Graph.mk 0 0 0 [] [],x1.2))) (.op 40008 (.ln TOp.D t.Ops) (.op 40014 (.ln (cI .i64) t.aB) (.op 50004 (.ln (cI .i64) t.aB) (.ps 1000001 [.k [4,8,32,33,34] [11,12,100024],.m 100024 100025] (.oq 1000001 12 3 100025 5 Edge.D x1.1 .no (.ps 1000001 [.k [4,8,32,33,34] [11,12,100025]] (.lp1 0 (Gp t 0 x1.1) fun x2=>.cb 1 12 3 100025 5 Edge.D x2 (.ps 1 [.k [4,8] [11,12]] (.call [] [] (AV) .no fun x3=>.call [] [] (vU (Graph.mk t.Ins ((t.Ops.length:Nat):Int) ((t.aB.length:Nat):Int) [] [])) .no fun x4=>.ret (x4,0))) (.ps 1 [.k [4,8] [11,12,100025]] (.call [100025] [] (JF x2) .no fun x3=>.call [] [] (vU (Graph.mk t.Ins ((t.Ops.length:Nat):Int) ((t.aB.length:Nat):Int) x3 [])) .no fun x4=>.ret (x4,0)))))))))))) Tryz.func42 (by kernel_rfl) (by kernel_rfl) (by kernel_rfl)
def WH (o0:Int) (w:Edge):Option Bool:=
 some (w.To==o0)
theorem MS (o0:Int) (w:Edge):∀r,WH o0 w=some r→aj Tryz.prog 118 1 [AG Edge.D w,.ptr 0 0 0] [(0,BOX [I o0])] (B r) [(0,BOX [I o0])]:=
 au (enc:=fun r=>B r) (aQ:=fun r=>[(0,BOX [I o0])]) 10 (.ret (w.To==o0)) Tryz.func118 (by kernel_rfl) (by kernel_rfl) (by kernel_rfl)
def jl (o0:Int) (l:List Edge) (out:List Edge) (i:Nat):St:=⟨23,1,[(1,.fn (.func 118) [] [.ptr 0 0 0]),(5,dw 100027 out),(8,SL Edge.D l),(9,I ((l.length:Nat):Int)),(10,I ((i:Nat):Int))],[(0,BOX [I o0]),(100027,dO 5 Edge.D out)]⟩
def jk (o0:Int) (l:List Edge) (out:List Edge):St:=⟨23,1,[(5,dw 100027 out)],[(0,BOX [I o0]),(100027,dO 5 Edge.D out)]⟩
def oQ (o0:Int) (l:List Edge) (out:List Edge) (i:Nat):Option ((List Edge×Nat)⊕(List Edge)):=
 bif decide (((i:Nat):Int)<((l.length:Nat):Int)) then
 bif decide (i<l.length) then
 (WH o0 (nth l i)).bind fun x0=>
 bif x0 then
 bif decide (out.length+1≤2147483648) then
 bif inK .i64 (((i:Nat):Int)+1) then
 some (.inl (out++[nth l i],i+1))
 else none
 else none
 else
 bif inK .i64 (((i:Nat):Int)+1) then
 some (.inl (out,i+1))
 else none
 else none
 else
 some (.inr out)
theorem zU (o0:Int) (l:List Edge):∀σ:List Edge×Nat,aP Tryz.prog (nav [1,1,0,1,0,0] (ah Tryz.f117)) (fun (σ:List Edge×Nat)=>jl o0 l σ.1 σ.2) (fun (_:List Edge)=>(.exit 0)) (fun (y:List Edge)=>jk o0 l y) σ (oQ o0 l σ.1 σ.2)
 | ([],i)=>aJ 1010 (.br 100000011 (.op 40000 (.el Edge.D l (.up i)) (.call [0] [] (MS o0 (nth l i)) .no fun x0=>.br 100000016 (.op 60006 (.ap Edge.D [] [nth l i] 5 fun _=>⟨rfl,rfl⟩) (.ps 1000003 [.k [1,5,8,9,10] [0,1012],.m 1012 100027] (.ret (.inl ([nth l i],i+1))))) (.ps 1000003 [.k [1,5,8,9,10] [0,100027]] (.ret (.inl ([],i+1)))))) (.ps 1000003 [.k [5] [0,100027]] (.ret (.inr [])))) (by kernel_rfl)
 | (fA::fB,i)=>aJ 1010 (.br 100000011 (.op 40000 (.el Edge.D l (.up i)) (.call [0] [] (MS o0 (nth l i)) .no fun x0=>.br 100000016 (.op 60006 (.ap Edge.D (fA::fB) [nth l i] 5 fun _=>⟨rfl,rfl⟩) (.ps 1000003 [.k [1,5,8,9,10] [0,1012],.m 1012 100027] (.ret (.inl ((fA::fB)++[nth l i],i+1))))) (.ps 1000003 [.k [1,5,8,9,10] [0,100027]] (.ret (.inl ((fA::fB),i+1)))))) (.ps 1000003 [.k [5] [0,100027]] (.ret (.inr (fA::fB))))) (by kernel_rfl)
def rG (o0:Int) (l:List Edge) (out:List Edge) (i:Nat):Option (List Edge):=aI (fun (σ:List Edge×Nat)=>oQ o0 l σ.1 σ.2) FU (out,i)
theorem zY (o0:Int) (l:List Edge) (out:List Edge) (i:Nat):∀y:List Edge,rG o0 l out i=some y→Runs Tryz.prog (.loop (nav [1,1,0,1,0,0] (ah Tryz.f117))) (jl o0 l out i) ((.exit 0)) ((fun (y:List Edge)=>jk o0 l y) y):=
 bf (head:=fun (σ:List Edge×Nat)=>jl o0 l σ.1 σ.2) (eo:=fun (_:List Edge)=>(.exit 0)) (so:=fun (y:List Edge)=>jk o0 l y) (zU o0 l) (fun _ h=>by cases h) FU (out,i)
def vk (o0:Int) (l:List Edge):Option (List Edge):=
 (rG o0 l [] 0).bind fun x0=>
 some x0
theorem Ei (o0:Int) (l:List Edge):∀r,vk o0 l=some r→aj Tryz.prog 117 1 [SL Edge.D l,.fn (.func 118) [] [.ptr 0 0 0]] [(0,BOX [I o0])] (SL Edge.D r) [(0,BOX [I o0])]:=
 au (enc:=fun r=>SL Edge.D r) (aQ:=fun r=>[(0,BOX [I o0])]) 10 (.op 20002 (.ln Edge.D l) (.ps 1000001 [.k [1,5,8,9,10] [0,100027]] (.lp1 0 (zY o0 l [] 0) fun x0=>.oz 1 5 100027 5 Edge.D x0 (.ps 1 [.k [5] [0]] (.ret x0))))) Tryz.func117 (by kernel_rfl) (by kernel_rfl) (by kernel_rfl)
def aal (g:Graph) (v:Int):Option (List Edge):=
 (jI g).bind fun x0=>
 bif !x0 then
 some []
 else
 (vk v g.Edges).bind fun x1=>
 some x1
theorem aaR (g:Graph) (v:Int):∀r,aal g v=some r→aj Tryz.prog 51 0 [AG Graph.D g,I v] [] (SL Edge.D r) []:=
 au (enc:=fun r=>SL Edge.D r) (aQ:=fun r=>[]) 10 (.call [] [] (mX g) .no fun x0=>.br 100000007 (.ps 1000003 [.n 4] (.ret [])) (.call [11] [] (Ei v g.Edges) .no fun x1=>.ret x1)) Tryz.func51 (by kernel_rfl) (by kernel_rfl) (by kernel_rfl)
def rQ (g:Graph) (i:Nat) (j:List Rat):St:=⟨24,0,[(2,.ptr 11 0 0),(3,.ptr 12 0 0),(13,I (g.aB*g.Ins)),(14,I ((i:Nat):Int))],[(0,dO 3 Rat.D j),(11,BOX [I 0,I 0,fJ]),(12,BOX [I g.aB,I g.Ins,dw 0 j])]⟩
def rY (g:Graph) (j:List Rat):St:=⟨24,0,[(2,.ptr 11 0 0),(3,.ptr 12 0 0)],[(0,dO 3 Rat.D j),(11,BOX [I 0,I 0,fJ]),(12,BOX [I g.aB,I g.Ins,dw 0 j])]⟩
def gZ (g:Graph) (i:Nat) (j:List Rat):Option ((Nat×List Rat)⊕(List Rat)):=
 bif decide (((i:Nat):Int)<(g.aB*g.Ins)) then
 (gJ 0).bind fun x0=>
 bif decide (j.length+1≤2147483648) then
 bif inK .i64 (((i:Nat):Int)+1) then
 some (.inl (i+1,j++[x0]))
 else none
 else none
 else
 some (.inr j)
theorem LW (g:Graph):∀σ:Nat×List Rat,aP Tryz.prog (nav [1,1,0,1,0,0] (ah Tryz.f109)) (fun (σ:Nat×List Rat)=>rQ g σ.1 σ.2) (fun (_:List Rat)=>(.exit 0)) (fun (y:List Rat)=>rY g y) σ (gZ g σ.1 σ.2)
 | (i,[])=>aJ 1010 (.br 100000015 (.call [] [] (fE 0) .no fun x0=>.op 40008 (.ap Rat.D [] [x0] 3 fun _=>⟨rfl,rfl⟩) (.ps 1000003 [.k [2,3,13,14] [1011,11,12],.m 1011 0] (.ret (.inl (i+1,[x0]))))) (.ps 1000003 [.k [2,3] [0,11,12]] (.ret (.inr [])))) (by kernel_rfl)
 | (i,j_h::j_t)=>aJ 1010 (.br 100000015 (.call [] [] (fE 0) .no fun x0=>.op 40008 (.ap Rat.D (j_h::j_t) [x0] 3 fun _=>⟨rfl,rfl⟩) (.ps 1000003 [.k [2,3,13,14] [1011,11,12],.m 1011 0] (.ret (.inl (i+1,(j_h::j_t)++[x0]))))) (.ps 1000003 [.k [2,3] [0,11,12]] (.ret (.inr (j_h::j_t))))) (by kernel_rfl)
def xP (g:Graph) (i:Nat) (j:List Rat):Option (List Rat):=aI (fun (σ:Nat×List Rat)=>gZ g σ.1 σ.2) FU (i,j)
theorem LX (g:Graph) (i:Nat) (j:List Rat):∀y:List Rat,xP g i j=some y→Runs Tryz.prog (.loop (nav [1,1,0,1,0,0] (ah Tryz.f109))) (rQ g i j) ((.exit 0)) ((fun (y:List Rat)=>rY g y) y):=
 bf (head:=fun (σ:Nat×List Rat)=>rQ g σ.1 σ.2) (eo:=fun (_:List Rat)=>(.exit 0)) (so:=fun (y:List Rat)=>rY g y) (LW g) (fun _ h=>by cases h) FU (i,j)
def wP (g:Graph):Option Jac:=
 bif inK .i64 (g.aB*g.Ins) then
 (xP g 0 []).bind fun x0=>
 bif x0.isEmpty then
 none
 else
 some (Jac.mk g.aB g.Ins x0)
 else none
theorem O9 (g:Graph):∀r,wP g=some r→aj Tryz.prog 109 0 [AG Graph.D g] [] (.agg [I r.Rows,I r.Qv,.msl 0 0 none none]) [(0,ROW 3 Rat.D r.All 0)]:=
 au (enc:=fun r=>.agg [I r.Rows,I r.Qv,.msl 0 0 none none]) (aQ:=fun r=>[(0,ROW 3 Rat.D r.All 0)]) 10 (.ps 1000001 [.k [2,3,13,14] [0,11,12]] (.lp1 0 (LX g 0 []) fun x0=>.cb 1 12 2 0 3 Rat.D x0 (.ps 1 [.k [2,3] [11,12]] .nil) (.ps 1 [.k [2,3] [0,11,12]] (.ret (Jac.mk g.aB g.Ins x0))))) Tryz.func109 (by kernel_rfl) (by kernel_rfl) (by kernel_rfl)
def uq (tA:Graph) (x1:Jac) (i:Nat) (o:List Rat) (i1:Nat) (o1:List Rat):St:=⟨87,0,[(1,.ptr 10 0 0),(2,.ptr 11 0 0),(3,.ptr 12 0 0),(4,I ((i:Nat):Int)),(5,.msl 1010 0 none (some (((tA.Ins+tA.bg)+tA.aB).toNat))),(16,I tA.Ins),(17,I ((i:Nat):Int)),(34,SL Edge.D tA.Edges),(35,I ((tA.Edges.length:Nat):Int)),(36,I ((i1:Nat):Int))],[(10,BOX [I tA.Ins,I tA.bg,I tA.aB,SL Edge.D tA.Edges,SL (cI .i64) tA.Gone]),(11,BOX [I 0,I 0,fJ]),(12,BOX [I x1.Rows,I x1.Qv,.msl 100030 0 none none]),(1010,ROW 3 Rat.D o1 0),(100030,ROW 3 Rat.D o 0)]⟩
def uh (tA:Graph) (x1:Jac) (i:Nat) (o:List Rat) (o1:List Rat):St:=⟨87,0,[(1,.ptr 10 0 0),(2,.ptr 11 0 0),(3,.ptr 12 0 0),(4,I ((i:Nat):Int)),(5,.msl 1010 0 none (some (((tA.Ins+tA.bg)+tA.aB).toNat))),(16,I tA.Ins),(17,I ((i:Nat):Int))],[(10,BOX [I tA.Ins,I tA.bg,I tA.aB,SL Edge.D tA.Edges,SL (cI .i64) tA.Gone]),(11,BOX [I 0,I 0,fJ]),(12,BOX [I x1.Rows,I x1.Qv,.msl 100030 0 none none]),(1010,ROW 3 Rat.D o1 0),(100030,ROW 3 Rat.D o 0)]⟩
def iI (tA:Graph) (x1:Jac) (i:Nat) (o:List Rat) (i1:Nat) (o1:List Rat):Option ((Nat×List Rat)⊕(List Rat)):=
 bif decide (((i1:Nat):Int)<((tA.Edges.length:Nat):Int)) then
 bif decide (i1<tA.Edges.length) then
 bif decide (0≤(nth tA.Edges i1).To) then
 bif decide (((nth tA.Edges i1).To).toNat<o1.length) then
 bif decide (((nth tA.Edges i1).To).toNat<o1.length) then
 bif decide (0≤(nth tA.Edges i1).From) then
 bif decide (((nth tA.Edges i1).From).toNat<o1.length) then
 bif decide (((nth tA.Edges i1).From).toNat<o1.length) then
 (ji (nth o1 (((nth tA.Edges i1).From).toNat)) ((nth tA.Edges i1).W)).bind fun x3=>
 (nM (nth o1 (((nth tA.Edges i1).To).toNat)) x3).bind fun x4=>
 bif decide (0≤(nth tA.Edges i1).To) then
 bif decide (((nth tA.Edges i1).To).toNat<o1.length) then
 bif decide (((nth tA.Edges i1).To).toNat<o1.length) then
 bif inK .i64 (((i1:Nat):Int)+1) then
 some (.inl (i1+1,o1.set (((nth tA.Edges i1).To).toNat) x4))
 else none
 else none
 else none
 else none
 else none
 else none
 else none
 else none
 else none
 else none
 else none
 else
 some (.inr o1)
theorem NP (tA:Graph) (x1:Jac) (i:Nat) (o:List Rat):∀σ:Nat×List Rat,aP Tryz.prog (nav [1,1,1,0,1,0,0,1,1,0,0,1,1,1,0,1,0,0] (ah Tryz.f46)) (fun (σ:Nat×List Rat)=>uq tA x1 i o σ.1 σ.2) (fun (_:List Rat)=>(.exit 2)) (fun (y:List Rat)=>uh tA x1 i o y) σ (iI tA x1 i o σ.1 σ.2)
 | (i1,o1)=>aJ 2010 (.br 100000037 (.op 110000 (.el Edge.D tA.Edges (.up i1)) (.op 120012 (.el Rat.D o1 .dn) (.op 120014 (.ld Rat.D o1) (.op 120022 (.el Rat.D o1 .dn) (.op 120024 (.ld Rat.D o1) (.call [] [] (lQ (nth o1 (((nth tA.Edges i1).From).toNat)) ((nth tA.Edges i1).W)) .no fun x3=>.call [] [] (qN (nth o1 (((nth tA.Edges i1).To).toNat)) x3) .no fun x4=>.op 120034 (.el Rat.D o1 .dn) (.op 120036 (.st Rat.D o1 x4) (.ps 1000003 [.k [1,2,3,4,5,16,17,34,35,36] [10,11,12,1010,100030]] (.ret (.inl (i1+1,o1.set (((nth tA.Edges i1).To).toNat) x4))))))))))) (.ps 1000003 [.k [1,2,3,4,5,16,17] [10,11,12,1010,100030]] (.ret (.inr o1)))) (by kernel_rfl)
def zO (tA:Graph) (x1:Jac) (i:Nat) (o:List Rat) (i1:Nat) (o1:List Rat):Option (List Rat):=aI (fun (σ:Nat×List Rat)=>iI tA x1 i o σ.1 σ.2) FU (i1,o1)
theorem Nr (tA:Graph) (x1:Jac) (i:Nat) (o:List Rat) (i1:Nat) (o1:List Rat):∀y:List Rat,zO tA x1 i o i1 o1=some y→Runs Tryz.prog (.loop (nav [1,1,1,0,1,0,0,1,1,0,0,1,1,1,0,1,0,0] (ah Tryz.f46))) (uq tA x1 i o i1 o1) ((.exit 2)) ((fun (y:List Rat)=>uh tA x1 i o y) y):=
 bf (head:=fun (σ:Nat×List Rat)=>uq tA x1 i o σ.1 σ.2) (eo:=fun (_:List Rat)=>(.exit 2)) (so:=fun (y:List Rat)=>uh tA x1 i o y) (NP tA x1 i o) (fun _ h=>by cases h) FU (i1,o1)
def uD (tA:Graph) (x1:Jac) (i:Nat) (x3:List Rat) (i1:Nat) (o1:List Rat):St:=⟨87,0,[(1,.ptr 10 0 0),(2,.ptr 11 0 0),(3,.ptr 12 0 0),(4,I ((i:Nat):Int)),(5,.msl 1010 0 none (some (((tA.Ins+tA.bg)+tA.aB).toNat))),(16,I tA.Ins),(17,I ((i:Nat):Int)),(60,I tA.aB),(61,I ((i1:Nat):Int))],[(10,BOX [I tA.Ins,I tA.bg,I tA.aB,SL Edge.D tA.Edges,SL (cI .i64) tA.Gone]),(11,BOX [I 0,I 0,fJ]),(12,BOX [I x1.Rows,I x1.Qv,.msl 100030 0 none none]),(1010,ROW 3 Rat.D x3 0),(100030,ROW 3 Rat.D o1 0)]⟩
def uo (tA:Graph) (x1:Jac) (i:Nat) (x3:List Rat) (o1:List Rat):St:=⟨87,0,[(1,.ptr 10 0 0),(2,.ptr 11 0 0),(3,.ptr 12 0 0),(16,I tA.Ins),(17,I ((i:Nat):Int))],[(10,BOX [I tA.Ins,I tA.bg,I tA.aB,SL Edge.D tA.Edges,SL (cI .i64) tA.Gone]),(11,BOX [I 0,I 0,fJ]),(12,BOX [I x1.Rows,I x1.Qv,.msl 100030 0 none none]),(100030,ROW 3 Rat.D o1 0)]⟩
def iM (tA:Graph) (x1:Jac) (i:Nat) (x3:List Rat) (i1:Nat) (o1:List Rat):Option ((Nat×List Rat)⊕(List Rat)):=
 bif decide (((i1:Nat):Int)<tA.aB) then
 bif inK .i64 (((i1:Nat):Int)*tA.Ins) then
 bif inK .i64 ((((i1:Nat):Int)*tA.Ins)+((i:Nat):Int)) then
 bif inK .i64 (tA.Ins+tA.bg) then
 bif inK .i64 ((tA.Ins+tA.bg)+((i1:Nat):Int)) then
 bif decide (0≤(tA.Ins+tA.bg)+((i1:Nat):Int)) then
 bif decide (((tA.Ins+tA.bg)+((i1:Nat):Int)).toNat<x3.length) then
 bif decide (((tA.Ins+tA.bg)+((i1:Nat):Int)).toNat<x3.length) then
 (kZ (nth x3 (((tA.Ins+tA.bg)+((i1:Nat):Int)).toNat))).bind fun x4=>
 bif decide (0≤(((i1:Nat):Int)*tA.Ins)+((i:Nat):Int)) then
 bif decide (((((i1:Nat):Int)*tA.Ins)+((i:Nat):Int)).toNat<o1.length) then
 bif decide (((((i1:Nat):Int)*tA.Ins)+((i:Nat):Int)).toNat<o1.length) then
 bif inK .i64 (((i1:Nat):Int)+1) then
 some (.inl (i1+1,o1.set (((((i1:Nat):Int)*tA.Ins)+((i:Nat):Int)).toNat) x4))
 else none
 else none
 else none
 else none
 else none
 else none
 else none
 else none
 else none
 else none
 else none
 else
 some (.inr o1)
theorem NM (tA:Graph) (x1:Jac) (i:Nat) (x3:List Rat):∀σ:Nat×List Rat,aP Tryz.prog (nav [1,1,1,0,1,0,0,1,1,0,0,1,1,1,1,1,0,0] (ah Tryz.f46)) (fun (σ:Nat×List Rat)=>uD tA x1 i x3 σ.1 σ.2) (fun (_:List Rat)=>(.exit 4)) (fun (y:List Rat)=>uo tA x1 i x3 y) σ (iM tA x1 i x3 σ.1 σ.2)
 | (i1,o1)=>aJ 2010 (.br 100000062 (.op 170032 (.el Rat.D x3 .dn) (.op 170034 (.ld Rat.D x3) (.call [] [] (gW (nth x3 (((tA.Ins+tA.bg)+((i1:Nat):Int)).toNat))) .no fun x4=>.op 170038 (.el Rat.D o1 .dn) (.op 170040 (.st Rat.D o1 x4) (.ps 1000003 [.k [1,2,3,4,5,16,17,60,61] [10,11,12,1010,100030]] (.ret (.inl (i1+1,o1.set (((((i1:Nat):Int)*tA.Ins)+((i:Nat):Int)).toNat) x4)))))))) (.ps 1000003 [.k [1,2,3,16,17] [10,11,12,100030]] (.ret (.inr o1)))) (by kernel_rfl)
def Aq (tA:Graph) (x1:Jac) (i:Nat) (x3:List Rat) (i1:Nat) (o1:List Rat):Option (List Rat):=aI (fun (σ:Nat×List Rat)=>iM tA x1 i x3 σ.1 σ.2) FU (i1,o1)
theorem Nu (tA:Graph) (x1:Jac) (i:Nat) (x3:List Rat) (i1:Nat) (o1:List Rat):∀y:List Rat,Aq tA x1 i x3 i1 o1=some y→Runs Tryz.prog (.loop (nav [1,1,1,0,1,0,0,1,1,0,0,1,1,1,1,1,0,0] (ah Tryz.f46))) (uD tA x1 i x3 i1 o1) ((.exit 4)) ((fun (y:List Rat)=>uo tA x1 i x3 y) y):=
 bf (head:=fun (σ:Nat×List Rat)=>uD tA x1 i x3 σ.1 σ.2) (eo:=fun (_:List Rat)=>(.exit 4)) (so:=fun (y:List Rat)=>uo tA x1 i x3 y) (NM tA x1 i x3) (fun _ h=>by cases h) FU (i1,o1)
def xw (tA:Graph) (x1:Jac) (i:Nat) (o:List Rat):St:=⟨87,0,[(1,.ptr 10 0 0),(2,.ptr 11 0 0),(3,.ptr 12 0 0),(16,I tA.Ins),(17,I ((i:Nat):Int))],[(10,BOX [I tA.Ins,I tA.bg,I tA.aB,SL Edge.D tA.Edges,SL (cI .i64) tA.Gone]),(11,BOX [I 0,I 0,fJ]),(12,BOX [I x1.Rows,I x1.Qv,.msl 100030 0 none none]),(100030,ROW 3 Rat.D o 0)]⟩
def xK (tA:Graph) (x1:Jac) (o:List Rat):St:=⟨87,0,[(2,.ptr 11 0 0),(3,.ptr 12 0 0)],[(11,BOX [I 0,I 0,fJ]),(12,BOX [I x1.Rows,I x1.Qv,.msl 100030 0 none none]),(100030,ROW 3 Rat.D o 0)]⟩
def jR (tA:Graph) (x1:Jac) (i:Nat) (o:List Rat):Option ((Nat×List Rat)⊕(List Rat)):=
 bif decide (((i:Nat):Int)<tA.Ins) then
 bif inK .i64 (tA.Ins+tA.bg) then
 bif inK .i64 ((tA.Ins+tA.bg)+tA.aB) then
 bif decide (0≤(tA.Ins+tA.bg)+tA.aB) then
 bif decide (((tA.Ins+tA.bg)+tA.aB).toNat≤2147483648) then
 (gJ 1).bind fun x2=>
 bif decide (i<(List.replicate (((tA.Ins+tA.bg)+tA.aB).toNat) (Rat.mk false [] [])).length) then
 bif decide (i<(List.replicate (((tA.Ins+tA.bg)+tA.aB).toNat) (Rat.mk false [] [])).length) then
 (zO tA x1 i o 0 ((List.replicate (((tA.Ins+tA.bg)+tA.aB).toNat) (Rat.mk false [] [])).set i x2)).bind fun x3=>
 (Aq tA x1 i x3 0 o).bind fun x4=>
 bif inK .i64 (((i:Nat):Int)+1) then
 some (.inl (i+1,x4))
 else none
 else none
 else none
 else none
 else none
 else none
 else none
 else
 some (.inr o)
theorem Ro (tA:Graph) (x1:Jac):∀σ:Nat×List Rat,aP Tryz.prog (nav [1,1,1,0,1,0,0] (ah Tryz.f46)) (fun (σ:Nat×List Rat)=>xw tA x1 σ.1 σ.2) (fun (_:List Rat)=>(.exit 0)) (fun (y:List Rat)=>xK tA x1 y) σ (jR tA x1 σ.1 σ.2)
 | (i,o)=>aJ 1010 (.br 100000018 (.op 70016 (.mk Rat.D (Rat.mk false [] []) .dn) (.call [] [] (fE 1) .no fun x2=>.op 80006 (.el Rat.D (List.replicate (((tA.Ins+tA.bg)+tA.aB).toNat) (Rat.mk false [] [])) (.up i)) (.op 80008 (.st Rat.D (List.replicate (((tA.Ins+tA.bg)+tA.aB).toNat) (Rat.mk false [] [])) x2) (.op 90004 (.ln Edge.D tA.Edges) (.ps 1000001 [.k [1,2,3,4,5,16,17,34,35,36] [10,11,12,1010,100030]] (.lp1 0 (Nr tA x1 i o 0 ((List.replicate (((tA.Ins+tA.bg)+tA.aB).toNat) (Rat.mk false [] [])).set i x2)) fun x3=>.ps 1000001 [.k [1,2,3,4,5,16,17,60,61] [10,11,12,1010,100030]] (.lp1 0 (Nu tA x1 i x3 0 o) fun x4=>.ps 1000003 [.k [1,2,3,16,17] [10,11,12,100030]] (.ret (.inl (i+1,x4)))))))))) (.ps 1000003 [.k [2,3] [11,12,100030]] (.ret (.inr o)))) (by kernel_rfl)
def F7 (tA:Graph) (x1:Jac) (i:Nat) (o:List Rat):Option (List Rat):=aI (fun (σ:Nat×List Rat)=>jR tA x1 σ.1 σ.2) FU (i,o)
theorem Qe (tA:Graph) (x1:Jac) (i:Nat) (o:List Rat):∀y:List Rat,F7 tA x1 i o=some y→Runs Tryz.prog (.loop (nav [1,1,1,0,1,0,0] (ah Tryz.f46))) (xw tA x1 i o) ((.exit 0)) ((fun (y:List Rat)=>xK tA x1 y) y):=
 bf (head:=fun (σ:Nat×List Rat)=>xw tA x1 σ.1 σ.2) (eo:=fun (_:List Rat)=>(.exit 0)) (so:=fun (y:List Rat)=>xK tA x1 y) (Ro tA x1) (fun _ h=>by cases h) FU (i,o)
def zL (tA:Graph):Option Jac:=
 (jI tA).bind fun x0=>
 bif !x0 then
 some (Jac.mk 0 0 [])
 else
 (wP tA).bind fun x1=>
 (F7 tA x1 0 x1.All).bind fun x2=>
 some (Jac.mk x1.Rows x1.Qv x2)
theorem JR (tA:Graph):∀r,zL tA=some r→aj Tryz.prog 46 0 [AG Graph.D tA] [] (AG Jac.D r) []:=
 au (enc:=fun r=>AG Jac.D r) (aQ:=fun r=>[]) 10 (.call [] [] (mX tA) .no fun x0=>.br 100000011 (.ps 1000003 [.b 11] (.ret (Jac.mk 0 0 []))) (.call [] [100030] (O9 tA) .no fun x1=>.ps 1000001 [.k [1,2,3,16,17] [10,11,12,100030]] (.lp1 0 (Qe tA x1 0 x1.All) fun x2=>.ps 1000003 [.b 11] (.ret (Jac.mk x1.Rows x1.Qv x2))))) Tryz.func46 (by kernel_rfl) (by kernel_rfl) (by kernel_rfl)
def rX (tA:Graph) (i:Nat) (o:List Bool):St:=⟨71,0,[(1,.ptr 10 0 0),(3,.msl 11 0 none (some (((tA.Ins+tA.bg)+tA.aB).toNat))),(19,SL Edge.D tA.Edges),(20,I ((tA.Edges.length:Nat):Int)),(21,I ((i:Nat):Int))],[(10,BOX [I tA.Ins,I tA.bg,I tA.aB,SL Edge.D tA.Edges,SL (cI .i64) tA.Gone]),(11,ROW 1 cB o 0)]⟩
def rJ (tA:Graph):St:=⟨71,0,[(2,B false)],[]⟩
def su (tA:Graph):St:=⟨71,0,[],[]⟩
def AU (tA:Graph) (i:Nat) (o:List Bool):Option ((Nat×List Bool)⊕(Unit⊕Unit)):=
 bif decide (((i:Nat):Int)<((tA.Edges.length:Nat):Int)) then
 bif decide (i<tA.Edges.length) then
 bif decide (((nth tA.Edges i).From)≥tA.Ins) then
 bif decide (0≤(nth tA.Edges i).From) then
 bif decide (((nth tA.Edges i).From).toNat<o.length) then
 bif decide (((nth tA.Edges i).From).toNat<o.length) then
 bif nth o (((nth tA.Edges i).From).toNat) then
 bif inK .i64 (tA.Ins+tA.bg) then
 bif decide (((nth tA.Edges i).To)≥(tA.Ins+tA.bg)) then
 some (.inr (.inl ()))
 else
 bif decide (0≤(nth tA.Edges i).To) then
 bif decide (((nth tA.Edges i).To).toNat<o.length) then
 bif decide (((nth tA.Edges i).To).toNat<o.length) then
 bif nth o (((nth tA.Edges i).To).toNat) then
 bif decide (0≤(nth tA.Edges i).To) then
 bif decide (((nth tA.Edges i).To).toNat<o.length) then
 bif decide (((nth tA.Edges i).To).toNat<o.length) then
 bif inK .i64 (((i:Nat):Int)+1) then
 some (.inl (i+1,o.set (((nth tA.Edges i).To).toNat) true))
 else none
 else none
 else none
 else none
 else
 bif decide (((nth tA.Edges i).From)<tA.Ins) then
 bif decide (0≤(nth tA.Edges i).To) then
 bif decide (((nth tA.Edges i).To).toNat<o.length) then
 bif decide (((nth tA.Edges i).To).toNat<o.length) then
 bif inK .i64 (((i:Nat):Int)+1) then
 some (.inl (i+1,o.set (((nth tA.Edges i).To).toNat) true))
 else none
 else none
 else none
 else none
 else
 bif decide (0≤(nth tA.Edges i).From) then
 bif decide (((nth tA.Edges i).From).toNat<o.length) then
 bif decide (((nth tA.Edges i).From).toNat<o.length) then
 bif decide (0≤(nth tA.Edges i).To) then
 bif decide (((nth tA.Edges i).To).toNat<o.length) then
 bif decide (((nth tA.Edges i).To).toNat<o.length) then
 bif inK .i64 (((i:Nat):Int)+1) then
 some (.inl (i+1,o.set (((nth tA.Edges i).To).toNat) (nth o (((nth tA.Edges i).From).toNat))))
 else none
 else none
 else none
 else none
 else none
 else none
 else none
 else none
 else none
 else none
 else none
 else
 bif decide (0≤(nth tA.Edges i).To) then
 bif decide (((nth tA.Edges i).To).toNat<o.length) then
 bif decide (((nth tA.Edges i).To).toNat<o.length) then
 bif nth o (((nth tA.Edges i).To).toNat) then
 bif decide (0≤(nth tA.Edges i).To) then
 bif decide (((nth tA.Edges i).To).toNat<o.length) then
 bif decide (((nth tA.Edges i).To).toNat<o.length) then
 bif inK .i64 (((i:Nat):Int)+1) then
 some (.inl (i+1,o.set (((nth tA.Edges i).To).toNat) true))
 else none
 else none
 else none
 else none
 else
 bif decide (((nth tA.Edges i).From)<tA.Ins) then
 bif decide (0≤(nth tA.Edges i).To) then
 bif decide (((nth tA.Edges i).To).toNat<o.length) then
 bif decide (((nth tA.Edges i).To).toNat<o.length) then
 bif inK .i64 (((i:Nat):Int)+1) then
 some (.inl (i+1,o.set (((nth tA.Edges i).To).toNat) true))
 else none
 else none
 else none
 else none
 else
 bif decide (0≤(nth tA.Edges i).From) then
 bif decide (((nth tA.Edges i).From).toNat<o.length) then
 bif decide (((nth tA.Edges i).From).toNat<o.length) then
 bif decide (0≤(nth tA.Edges i).To) then
 bif decide (((nth tA.Edges i).To).toNat<o.length) then
 bif decide (((nth tA.Edges i).To).toNat<o.length) then
 bif inK .i64 (((i:Nat):Int)+1) then
 some (.inl (i+1,o.set (((nth tA.Edges i).To).toNat) (nth o (((nth tA.Edges i).From).toNat))))
 else none
 else none
 else none
 else none
 else none
 else none
 else none
 else none
 else none
 else none
 else none
 else none
 else none
 else
 bif decide (0≤(nth tA.Edges i).To) then
 bif decide (((nth tA.Edges i).To).toNat<o.length) then
 bif decide (((nth tA.Edges i).To).toNat<o.length) then
 bif nth o (((nth tA.Edges i).To).toNat) then
 bif decide (0≤(nth tA.Edges i).To) then
 bif decide (((nth tA.Edges i).To).toNat<o.length) then
 bif decide (((nth tA.Edges i).To).toNat<o.length) then
 bif inK .i64 (((i:Nat):Int)+1) then
 some (.inl (i+1,o.set (((nth tA.Edges i).To).toNat) true))
 else none
 else none
 else none
 else none
 else
 bif decide (((nth tA.Edges i).From)<tA.Ins) then
 bif decide (0≤(nth tA.Edges i).To) then
 bif decide (((nth tA.Edges i).To).toNat<o.length) then
 bif decide (((nth tA.Edges i).To).toNat<o.length) then
 bif inK .i64 (((i:Nat):Int)+1) then
 some (.inl (i+1,o.set (((nth tA.Edges i).To).toNat) true))
 else none
 else none
 else none
 else none
 else
 bif decide (0≤(nth tA.Edges i).From) then
 bif decide (((nth tA.Edges i).From).toNat<o.length) then
 bif decide (((nth tA.Edges i).From).toNat<o.length) then
 bif decide (0≤(nth tA.Edges i).To) then
 bif decide (((nth tA.Edges i).To).toNat<o.length) then
 bif decide (((nth tA.Edges i).To).toNat<o.length) then
 bif inK .i64 (((i:Nat):Int)+1) then
 some (.inl (i+1,o.set (((nth tA.Edges i).To).toNat) (nth o (((nth tA.Edges i).From).toNat))))
 else none
 else none
 else none
 else none
 else none
 else none
 else none
 else none
 else none
 else none
 else none
 else
 some (.inr (.inr ()))
theorem MB (tA:Graph):∀σ:Nat×List Bool,aP Tryz.prog (nav [1,1,1,0,1,0,0] (ah Tryz.f102)) (fun (σ:Nat×List Bool)=>rX tA σ.1 σ.2) (fun (y:Unit⊕Unit)=>aK y (fun _=>.ret) (fun _=>(.exit 0))) (fun (y:Unit⊕Unit)=>aK y (fun y=>rJ tA) (fun y=>su tA)) σ (AU tA σ.1 σ.2)
 | (i,o)=>aJ 1010 (.br 100000022 (.op 60000 (.el Edge.D tA.Edges (.up i)) (.br 70012 (.op 70018 (.el cB o .dn) (.op 70020 (.ld cB o) (.br 70026 (.br 100000046 (.ps 1000003 [.k [2] []] (.ret (.inr (.inl ())))) (.op 90012 (.el cB o .dn) (.op 90014 (.ld cB o) (.br 90018 (.op 90044 (.el cB o .dn) (.op 90046 (.st cB o true) (.ps 1000003 [.k [1,3,19,20,21] [10,11]] (.ret (.inl (i+1,o.set (((nth tA.Edges i).To).toNat) true)))))) (.br 90032 (.op 90044 (.el cB o .dn) (.op 90046 (.st cB o true) (.ps 1000003 [.k [1,3,19,20,21] [10,11]] (.ret (.inl (i+1,o.set (((nth tA.Edges i).To).toNat) true)))))) (.op 90038 (.el cB o .dn) (.op 90040 (.ld cB o) (.op 90044 (.el cB o .dn) (.op 90046 (.st cB o (nth o (((nth tA.Edges i).From).toNat))) (.ps 1000003 [.k [1,3,19,20,21] [10,11]] (.ret (.inl (i+1,o.set (((nth tA.Edges i).To).toNat) (nth o (((nth tA.Edges i).From).toNat))))))))))))))) (.op 90012 (.el cB o .dn) (.op 90014 (.ld cB o) (.br 90018 (.op 90044 (.el cB o .dn) (.op 90046 (.st cB o true) (.ps 1000003 [.k [1,3,19,20,21] [10,11]] (.ret (.inl (i+1,o.set (((nth tA.Edges i).To).toNat) true)))))) (.br 90032 (.op 90044 (.el cB o .dn) (.op 90046 (.st cB o true) (.ps 1000003 [.k [1,3,19,20,21] [10,11]] (.ret (.inl (i+1,o.set (((nth tA.Edges i).To).toNat) true)))))) (.op 90038 (.el cB o .dn) (.op 90040 (.ld cB o) (.op 90044 (.el cB o .dn) (.op 90046 (.st cB o (nth o (((nth tA.Edges i).From).toNat))) (.ps 1000003 [.k [1,3,19,20,21] [10,11]] (.ret (.inl (i+1,o.set (((nth tA.Edges i).To).toNat) (nth o (((nth tA.Edges i).From).toNat))))))))))))))))) (.op 90012 (.el cB o .dn) (.op 90014 (.ld cB o) (.br 90018 (.op 90044 (.el cB o .dn) (.op 90046 (.st cB o true) (.ps 1000003 [.k [1,3,19,20,21] [10,11]] (.ret (.inl (i+1,o.set (((nth tA.Edges i).To).toNat) true)))))) (.br 90032 (.op 90044 (.el cB o .dn) (.op 90046 (.st cB o true) (.ps 1000003 [.k [1,3,19,20,21] [10,11]] (.ret (.inl (i+1,o.set (((nth tA.Edges i).To).toNat) true)))))) (.op 90038 (.el cB o .dn) (.op 90040 (.ld cB o) (.op 90044 (.el cB o .dn) (.op 90046 (.st cB o (nth o (((nth tA.Edges i).From).toNat))) (.ps 1000003 [.k [1,3,19,20,21] [10,11]] (.ret (.inl (i+1,o.set (((nth tA.Edges i).To).toNat) (nth o (((nth tA.Edges i).From).toNat)))))))))))))))) (.ps 1000003 [.k [] []] (.ret (.inr (.inr ()))))) (by kernel_rfl)
def Gf (tA:Graph) (i:Nat) (o:List Bool):Option (Unit⊕Unit):=aI (fun (σ:Nat×List Bool)=>AU tA σ.1 σ.2) FU (i,o)
theorem LY (tA:Graph) (i:Nat) (o:List Bool):∀y:Unit⊕Unit,Gf tA i o=some y→Runs Tryz.prog (.loop (nav [1,1,1,0,1,0,0] (ah Tryz.f102))) (rX tA i o) (aK y (fun _=>.ret) (fun _=>(.exit 0))) ((fun (y:Unit⊕Unit)=>aK y (fun y=>rJ tA) (fun y=>su tA)) y):=
 bf (head:=fun (σ:Nat×List Bool)=>rX tA σ.1 σ.2) (eo:=fun (y:Unit⊕Unit)=>aK y (fun _=>.ret) (fun _=>(.exit 0))) (so:=fun (y:Unit⊕Unit)=>aK y (fun y=>rJ tA) (fun y=>su tA)) (MB tA) (fun y h=>by rcases y with y | y<;>cases h) FU (i,o)
def KQ (tA:Graph):Option Bool:=
 (jI tA).bind fun x0=>
 bif !x0 then
 some false
 else
 bif inK .i64 (tA.Ins+tA.bg) then
 bif inK .i64 ((tA.Ins+tA.bg)+tA.aB) then
 bif decide (0≤(tA.Ins+tA.bg)+tA.aB) then
 bif decide (((tA.Ins+tA.bg)+tA.aB).toNat≤2147483648) then
 (Gf tA 0 (List.replicate (((tA.Ins+tA.bg)+tA.aB).toNat) false)).bind fun y_=>aK y_ (fun x1=>
 some false)
 (fun x2=>
 some true)
 else none
 else none
 else none
 else none
theorem OX (tA:Graph):∀r,KQ tA=some r→aj Tryz.prog 102 0 [AG Graph.D tA] [] (B r) []:=
 au (enc:=fun r=>B r) (aQ:=fun r=>[]) 10 (.call [] [] (mX tA) .no fun x0=>.br 100000008 (.ret false) (.op 30016 (.mk cB false .dn) (.op 40004 (.ln Edge.D tA.Edges) (.ps 1000001 [.k [1,3,19,20,21] [10,11]] (.lp2 0 (LY tA 0 (List.replicate (((tA.Ins+tA.bg)+tA.aB).toNat) false)) (fun x1=>.ret false) (fun x2=>.ret true)))))) Tryz.func102 (by kernel_rfl) (by kernel_rfl) (by kernel_rfl)
def o7 (g:Graph) (v:Int) (out:List Edge) (i:Nat):Option ((List Edge×Nat)⊕(List Edge)):=
 bif decide (((i:Nat):Int)<((g.Edges.length:Nat):Int)) then
 bif decide (i<g.Edges.length) then
 bif ((nth g.Edges i).To)==v then
 bif decide (i<g.Edges.length) then
 bif decide (out.length+1≤2147483648) then
 bif inK .i64 (((i:Nat):Int)+1) then
 some (.inl (out++[nth g.Edges i],i+1))
 else none
 else none
 else none
 else
 bif inK .i64 (((i:Nat):Int)+1) then
 some (.inl (out,i+1))
 else none
 else none
 else
 some (.inr out)
def WL (g:Graph) (v:Int) (out:List Edge) (i:Nat):Option (List Edge):=aI (fun (σ:List Edge×Nat)=>o7 g v σ.1 σ.2) FU (out,i)
def Gx (g:Graph) (v:Int):Option (List Edge):=
 (WL g v [] 0).bind fun x0=>
 some x0
def mP (g:Graph) (v:Int) (out:List Edge) (i:Nat):Option ((List Edge×Nat)⊕(List Edge)):=
 bif decide (((i:Nat):Int)<((g.Edges.length:Nat):Int)) then
 bif decide (i<g.Edges.length) then
 bif ((nth g.Edges i).From)==v then
 bif decide (i<g.Edges.length) then
 bif decide (out.length+1≤2147483648) then
 bif inK .i64 (((i:Nat):Int)+1) then
 some (.inl (out++[nth g.Edges i],i+1))
 else none
 else none
 else none
 else
 bif inK .i64 (((i:Nat):Int)+1) then
 some (.inl (out,i+1))
 else none
 else none
 else
 some (.inr out)
def SI (g:Graph) (v:Int) (out:List Edge) (i:Nat):Option (List Edge):=aI (fun (σ:List Edge×Nat)=>mP g v σ.1 σ.2) FU (out,i)
def CP (g:Graph) (v:Int):Option (List Edge):=
 (SI g v [] 0).bind fun x0=>
 some x0
def kD (g:Graph) (back:Bool) (F_:Graph→Int→Bool→Option Bool) (x1:List Edge) (i:Nat):Option (Nat⊕(Unit⊕Unit)):=
 bif decide (((i:Nat):Int)<((x1.length:Nat):Int)) then
 bif decide (i<x1.length) then
 bif back then
 bif decide (i<x1.length) then
 (F_ g ((nth x1 i).From) back).bind fun x2=>
 bif x2 then
 some (.inr (.inl ()))
 else
 bif inK .i64 (((i:Nat):Int)+1) then
 some (.inl (i+1))
 else none
 else none
 else
 (F_ g ((nth x1 i).To) back).bind fun x2=>
 bif x2 then
 some (.inr (.inl ()))
 else
 bif inK .i64 (((i:Nat):Int)+1) then
 some (.inl (i+1))
 else none
 else none
 else
 some (.inr (.inr ()))
def kW (g:Graph) (back:Bool) (F_:Graph→Int→Bool→Option Bool) (x1:List Edge) (i:Nat):Option (Unit⊕Unit):=aI (fun (σ:Nat)=>kD g back F_ x1 σ) FU i
def jf (g:Graph) (back:Bool) (F_:Graph→Int→Bool→Option Bool) (x0:List Edge) (i:Nat):Option (Nat⊕(Unit⊕Unit)):=
 bif decide (((i:Nat):Int)<((x0.length:Nat):Int)) then
 bif decide (i<x0.length) then
 bif back then
 bif decide (i<x0.length) then
 (F_ g ((nth x0 i).From) back).bind fun x1=>
 bif x1 then
 some (.inr (.inl ()))
 else
 bif inK .i64 (((i:Nat):Int)+1) then
 some (.inl (i+1))
 else none
 else none
 else
 (F_ g ((nth x0 i).To) back).bind fun x1=>
 bif x1 then
 some (.inr (.inl ()))
 else
 bif inK .i64 (((i:Nat):Int)+1) then
 some (.inl (i+1))
 else none
 else none
 else
 some (.inr (.inr ()))
def jg (g:Graph) (back:Bool) (F_:Graph→Int→Bool→Option Bool) (x0:List Edge) (i:Nat):Option (Unit⊕Unit):=aI (fun (σ:Nat)=>jf g back F_ x0 σ) FU i
def iR (F_:Graph→Int→Bool→Option Bool) (g:Graph) (v:Int) (back:Bool):Option Bool:=
 bif back then
 bif decide (v<g.Ins) then
 some true
 else
 bif !back then
 bif inK .i64 (g.Ins+g.bg) then
 bif decide (v≥(g.Ins+g.bg)) then
 some true
 else
 (CP g v).bind fun x0=>
 bif back then
 (Gx g v).bind fun x1=>
 (kW g back F_ x1 0).bind fun y_=>aK y_ (fun x2=>
 some true)
 (fun x3=>
 some false)
 else
 (jg g back F_ x0 0).bind fun y_=>aK y_ (fun x1=>
 some true)
 (fun x2=>
 some false)
 else none
 else
 (CP g v).bind fun x0=>
 bif back then
 (Gx g v).bind fun x1=>
 (kW g back F_ x1 0).bind fun y_=>aK y_ (fun x2=>
 some true)
 (fun x3=>
 some false)
 else
 (jg g back F_ x0 0).bind fun y_=>aK y_ (fun x1=>
 some true)
 (fun x2=>
 some false)
 else
 bif !back then
 bif inK .i64 (g.Ins+g.bg) then
 bif decide (v≥(g.Ins+g.bg)) then
 some true
 else
 (CP g v).bind fun x0=>
 bif back then
 (Gx g v).bind fun x1=>
 (kW g back F_ x1 0).bind fun y_=>aK y_ (fun x2=>
 some true)
 (fun x3=>
 some false)
 else
 (jg g back F_ x0 0).bind fun y_=>aK y_ (fun x1=>
 some true)
 (fun x2=>
 some false)
 else none
 else
 (CP g v).bind fun x0=>
 bif back then
 (Gx g v).bind fun x1=>
 (kW g back F_ x1 0).bind fun y_=>aK y_ (fun x2=>
 some true)
 (fun x3=>
 some false)
 else
 (jg g back F_ x0 0).bind fun y_=>aK y_ (fun x1=>
 some true)
 (fun x2=>
 some false)
def iq:Nat→Graph→Int→Bool→Option Bool
 | 0=>fun _ _ _=>none
 | n_+1=>iR (iq n_)
def yN (g:Graph) (v:Int) (back:Bool):Option Bool:=iq FU g v back
def ny (g:Graph) (i:Nat) (h:List Edge):Option ((Nat×List Edge)⊕(List Edge)):=
 bif decide (((i:Nat):Int)<((g.Edges.length:Nat):Int)) then
 bif decide (i<g.Edges.length) then
 (yN g ((nth g.Edges i).From) true).bind fun x0=>
 bif decide (i<g.Edges.length) then
 (yN g ((nth g.Edges i).To) false).bind fun x1=>
 bif x0 then
 bif x1 then
 bif decide (i<g.Edges.length) then
 bif decide (h.length+1≤2147483648) then
 bif inK .i64 (((i:Nat):Int)+1) then
 some (.inl (i+1,h++[nth g.Edges i]))
 else none
 else none
 else none
 else
 bif inK .i64 (((i:Nat):Int)+1) then
 some (.inl (i+1,h))
 else none
 else
 bif inK .i64 (((i:Nat):Int)+1) then
 some (.inl (i+1,h))
 else none
 else none
 else none
 else
 some (.inr h)
def MI (g:Graph) (i:Nat) (h:List Edge):Option (List Edge):=aI (fun (σ:Nat×List Edge)=>ny g σ.1 σ.2) FU (i,h)
def EY (g:Graph):Option Graph:=
 (MI g 0 []).bind fun x0=>
 some (Graph.mk g.Ins g.bg g.aB x0 g.Gone)
def Ad (a:Graph) (b:Graph) (i:Nat):St:=⟨57,0,[(2,.ptr 10 0 0),(3,.ptr 11 0 0),(5,I ((i:Nat):Int))],[(10,BOX [I a.Ins,I a.bg,I a.aB,SL Edge.D a.Edges,SL (cI .i64) a.Gone]),(11,BOX [I b.Ins,I b.bg,I b.aB,SL Edge.D b.Edges,SL (cI .i64) b.Gone])]⟩
def Aw (a:Graph) (b:Graph):St:=⟨57,0,[(4,B false)],[]⟩
def Ak (a:Graph) (b:Graph):St:=⟨57,0,[(2,.ptr 10 0 0),(3,.ptr 11 0 0)],[(10,BOX [I a.Ins,I a.bg,I a.aB,SL Edge.D a.Edges,SL (cI .i64) a.Gone]),(11,BOX [I b.Ins,I b.bg,I b.aB,SL Edge.D b.Edges,SL (cI .i64) b.Gone])]⟩
def I7 (a:Graph) (b:Graph) (i:Nat):Option (Nat⊕(Unit⊕Unit)):=
 bif decide (((i:Nat):Int)<((a.Gone.length:Nat):Int)) then
 bif decide (i<a.Gone.length) then
 bif decide (i<b.Gone.length) then
 bif (nth a.Gone i) != (nth b.Gone i) then
 some (.inr (.inl ()))
 else
 bif inK .i64 (((i:Nat):Int)+1) then
 some (.inl (i+1))
 else none
 else none
 else none
 else
 some (.inr (.inr ()))
theorem SV (a:Graph) (b:Graph):∀σ:Nat,aP Tryz.prog (nav [1,1,0,1,0,0] (ah Tryz.f44)) (fun (σ:Nat)=>Ad a b σ) (fun (y:Unit⊕Unit)=>aK y (fun _=>.ret) (fun _=>(.exit 0))) (fun (y:Unit⊕Unit)=>aK y (fun y=>Aw a b) (fun y=>Ak a b)) σ (I7 a b σ)
 | i=>aJ 1010 (.op 40006 (.ln (cI .i64) a.Gone) (.br 100000038 (.op 60006 (.el (cI .i64) a.Gone (.up i)) (.op 60016 (.el (cI .i64) b.Gone (.up i)) (.br 100000051 (.ps 1000003 [.k [4] []] (.ret (.inr (.inl ())))) (.ps 1000003 [.k [2,3,5] [10,11]] (.ret (.inl (i+1))))))) (.ps 1000003 [.k [2,3] [10,11]] (.ret (.inr (.inr ())))))) (by kernel_rfl)
def Py (a:Graph) (b:Graph) (i:Nat):Option (Unit⊕Unit):=aI (fun (σ:Nat)=>I7 a b σ) FU i
theorem S9 (a:Graph) (b:Graph) (i:Nat):∀y:Unit⊕Unit,Py a b i=some y→Runs Tryz.prog (.loop (nav [1,1,0,1,0,0] (ah Tryz.f44))) (Ad a b i) (aK y (fun _=>.ret) (fun _=>(.exit 0))) ((fun (y:Unit⊕Unit)=>aK y (fun y=>Aw a b) (fun y=>Ak a b)) y):=
 bf (head:=fun (σ:Nat)=>Ad a b σ) (eo:=fun (y:Unit⊕Unit)=>aK y (fun _=>.ret) (fun _=>(.exit 0))) (so:=fun (y:Unit⊕Unit)=>aK y (fun y=>Aw a b) (fun y=>Ak a b)) (SV a b) (fun y h=>by rcases y with y | y<;>cases h) FU i
def Vz (a:Graph) (b:Graph):Option Bool:=
 bif a.Ins != b.Ins then
 some false
 else
 bif a.bg != b.bg then
 some false
 else
 bif a.aB != b.aB then
 some false
 else
 bif ((a.Gone.length:Nat):Int) != ((b.Gone.length:Nat):Int) then
 some false
 else
 (Py a b 0).bind fun y_=>aK y_ (fun x0=>
 some false)
 (fun x1=>
 (Lh a.Edges b.Edges).bind fun x2=>
 some x2)
theorem Xl (a:Graph) (b:Graph):∀r,Vz a b=some r→aj Tryz.prog 44 0 [AG Graph.D a,AG Graph.D b] [] (B r) []:=
 au (enc:=fun r=>B r) (aQ:=fun r=>[]) 10 (.br 10012 (.ret false) (.br 10026 (.ret false) (.br 10040 (.ret false) (.op 10044 (.ln (cI .i64) a.Gone) (.op 10050 (.ln (cI .i64) b.Gone) (.br 100000033 (.ret false) (.ps 1000001 [.k [2,3,5] [10,11]] (.lp2 0 (S9 a b 0) (fun x0=>.ret false) (fun x1=>.call [] [] (Yu a.Edges b.Edges) .no fun x2=>.ret x2))))))))) Tryz.func44 (by kernel_rfl) (by kernel_rfl) (by kernel_rfl)
def Fg:Option Bool:=
 (bQ 3).bind fun x0=>
 (fU (Tape.mk 1 [TOp.mk 4 0 0 0 (Rat.mk false [] [])] [1]) [x0]).bind fun x1=>
 (bQ 6).bind fun x2=>
 (bQ 1).bind fun x3=>
 bif x1.2==0 then
 (Vz x1.1 (Graph.mk 1 1 1 [Edge.mk 0 1 x2,Edge.mk 1 2 x3] [])).bind fun x4=>
 bif x4 then
 (jI x1.1).bind fun x5=>
 bif x5 then
 (zL x1.1).bind fun x6=>
 (bQ 6).bind fun x7=>
 (uj x6 (Jac.mk 1 1 [x7])).bind fun x8=>
 bif x8 then
 (KQ x1.1).bind fun x9=>
 bif !x9 then
 (aal x1.1 1).bind fun x10=>
 some (((x10.length:Nat):Int)==1)
 else
 some false
 else
 some false
 else
 some false
 else
 some false
 else
 some false
theorem WO:∀r,Fg=some r→aj Tryz.prog 41 0 [] [] (B r) []:=
 au (enc:=fun r=>B r) (aQ:=fun r=>[]) 10 (.call [] [] (uS 3) .no fun x0=>.call [] [] (J6 (Tape.mk 1 [TOp.mk 4 0 0 0 (Rat.mk false [] [])] [1]) [x0]) .no fun x1=>.call [] [] (uS 6) .no fun x2=>.call [] [] (uS 1) .no fun x3=>.br 40006 (.call [] [] (Xl x1.1 (Graph.mk 1 1 1 [Edge.mk 0 1 x2,Edge.mk 1 2 x3] [])) (.yes fun _=>⟨rfl,trivial⟩) fun x4=>.br 40016 (.call [] [] (mX x1.1) .no fun x5=>.br 40024 (.call [] [] (JR x1.1) .no fun x6=>.call [] [] (uS 6) .no fun x7=>.call [] [] (MH x6 (Jac.mk 1 1 [x7])) (.yes fun _=>⟨rfl,trivial⟩) fun x8=>.br 40040 (.call [] [] (OX x1.1) .no fun x9=>.br 40050 (.call [] [] (aaR x1.1 1) .no fun x10=>.op 40054 (.ln Edge.D x10) (.ret (((x10.length:Nat):Int)==1))) (.ret false)) (.ret false)) (.ret false)) (.ret false)) (.ret false)) Tryz.func41 (by kernel_rfl) (by kernel_rfl) (by kernel_rfl)
end Go.Ab.M
