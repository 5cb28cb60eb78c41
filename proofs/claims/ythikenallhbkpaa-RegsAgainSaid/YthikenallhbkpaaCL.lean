/-
  TEXTS PUT TOGETHER: .
-/
import Derived.Test.YthikenallhbkpaaLC
