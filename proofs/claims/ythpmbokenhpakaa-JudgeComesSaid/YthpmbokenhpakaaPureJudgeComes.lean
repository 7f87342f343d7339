/- JudgeComes, plainly: see Ju7. -/
import Derived.Test.YthpmbokenhpakaaJu7
